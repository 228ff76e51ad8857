import Derived.Test.YtfjbobabifmpmaaEv
import Derived.Test.YtfjbobabifmpmaaUtfPl
import Derived.Test.YtfjbobabifmpmaaUtfTie
import Derived.Test.YtfjbobabifmpmaaX6
import Derived.Test.YtfjbobabifmpmaaX9
import Derived.Test.YtfjbobabifmpmaaX10
/-! What the reference's Decode comes to. -/
namespace Go.Proofs.Ytfjbobabifmpmaa.Tie
open Go.RowKit Go.Proofs.Ytfjbobabifmpmaa.X Go.Proofs.YtfjbobabifmpmaaW.PrintWords Go.Proofs.Ytfjbobabifmpmaa.Pl

theorem ref_escape_tie (a : Int) (h : isByte a) : redactorref01_Escape.f a = some (-1 - a) := by
  unfold isByte at h
  unfold redactorref01_Escape.f
  rw [w32 (n := a) (by omega) (by omega), w32 (by omega) (by omega)]
theorem ref_unit_tie (big : Bool) (a b : Int) (ha : isByte a) (hb : isByte b) : redactorref03_unit.f a b big = some (unit big a b) := by
  unfold isByte at *
  unfold redactorref03_unit.f unit
  rw [w32 (n := a) (by omega) (by omega), w32 (n := b) (by omega) (by omega), w32 (n := a * 256) (by omega) (by omega), w32 (n := b * 256) (by omega) (by omega), w32 (by omega) (by omega), w32 (by omega) (by omega)]
  split <;> rfl
theorem rd_off (p s : List Int) (j : Nat) : rd (p ++ s) ((p.length : Int) + (j : Int)) = rd s (j : Int) := by
  unfold rd
  rw [show ((p.length : Int) + (j : Int)).toNat = p.length + j from by omega, Int.toNat_natCast, List.getD_eq_getElem?_getD, List.getD_eq_getElem?_getD, List.getElem?_append_right (by omega), Nat.add_sub_cancel_left]

theorem ref_dec_ev0 (big : Bool) : ∀ (n : Nat) (l p acc : List Int), l.length ≤ n → (∀ a ∈ l, isByte a) → acc.length + l.length < 35184372088832 → p.length + l.length < 4611686018427387904 →
    Ev (fun k => redactorref03_Decode.l0 k (p ++ l) big acc (p.length : Int)) (acc ++ dec big l) := by
  intro n
  induction n using Nat.strongRecOn with
  | _ n ih =>
  intro l p acc hl hb hlim hp
  have h1 : wrap64 ((p.length : Int) + 1) = (p.length : Int) + 1 := w64 (by omega) (by omega)
  have h2 : wrap64 ((p.length : Int) + 2) = (p.length : Int) + 2 := w64 (by omega) (by omega)
  have h3 : wrap64 ((p.length : Int) + 3) = (p.length : Int) + 3 := w64 (by omega) (by omega)
  have h4 : wrap64 ((p.length : Int) + 4) = (p.length : Int) + 4 := w64 (by omega) (by omega)
  match l with
  | [] =>
    refine Ev_succ ?_
    simp only [redactorref03_Decode.l0]
    refine Ev_no (by simp) (Ev_done ?_)
    rw [dec_nil, List.append_nil]
  | [a] =>
    have ha := hb a (by simp)
    refine Ev_succ ?_
    simp only [redactorref03_Decode.l0]
    refine Ev_yes (by simp; omega) (Ev_yes (by rw [h1]; simp) (Ev_yes (by omega) ?_))
    rw [rd_mid]
    refine Ev_let (ref_escape_tie a ha) (Ev_yes (by simp at hlim; omega) (Ev_done ?_))
    rw [dec_one]
  | a :: b :: r =>
    have ha := hb a (by simp)
    have hb' := hb b (by simp)
    have hr : ∀ x ∈ r, isByte x := fun x hx => hb x (by simp [hx])
    have hlen : (p ++ a :: b :: r).length = p.length + r.length + 2 := by simp; omega
    simp only [List.length_cons] at hl hlim hp
    have hlim1 : acc.length < 35184372088832 := by omega
    have r0 : rd (p ++ a :: b :: r) (p.length : Int) = a := rd_mid p a _
    have r1 : rd (p ++ a :: b :: r) ((p.length : Int) + 1) = b := rd_off p (a :: b :: r) 1
    have next : ∀ ys, ys.length ≤ 2 → Ev (fun k => redactorref03_Decode.l0 k (p ++ a :: b :: r) big (acc ++ ys) ((p.length : Int) + 2)) (acc ++ (ys ++ dec big r)) := by
      intro ys hy
      have := ih r.length (by omega) r (p ++ [a, b]) (acc ++ ys) (Nat.le_refl _) hr (by simp; omega) (by simp; omega)
      rw [List.append_assoc, List.append_assoc, show [a, b] ++ r = a :: b :: r from rfl] at this
      simpa using this
    have lone : ∀ v, Ev (fun k => redactorref03_Decode.j3 k (p ++ a :: b :: r) big acc (p.length : Int) (unit big a b) v false) (acc ++ (-1 - a) :: (-1 - b) :: dec big r) := by
      intro v
      refine Ev_succ ?_
      simp only [redactorref03_Decode.j3]
      rw [h1, r0, r1, h2]
      refine Ev_no (by simp) (Ev_yes (by omega) (Ev_yes (by rw [hlen]; omega) (Ev_let (ref_escape_tie a ha) (Ev_yes (by omega) (Ev_yes (by rw [hlen]; omega) (Ev_let (ref_escape_tie b hb') (Ev_let rfl (Ev_yes (by simp; omega) ?_))))))))
      exact next [-1 - a, -1 - b] (by simp)
    refine Ev_succ ?_
    simp only [redactorref03_Decode.l0]
    rw [h1, r0, r1]
    refine Ev_yes (by rw [hlen]; omega) (Ev_no (by rw [hlen]; omega) (Ev_yes (by omega) (Ev_yes (by omega) (Ev_yes (by rw [hlen]; omega) (Ev_let (ref_unit_tie big a b ha hb') ?_)))))
    by_cases hB : bmp (unit big a b)
    · rw [dec_bmp big a b r hB]
      unfold bmp at hB
      have fin : Ev (fun k => redactorref03_Decode.j1 k (p ++ a :: b :: r) big acc (p.length : Int) (unit big a b) true) (acc ++ unit big a b :: dec big r) := by
        refine Ev_succ ?_
        simp only [redactorref03_Decode.j1]
        rw [h2]
        exact Ev_yes (by trivial) (Ev_yes hlim1 (next [unit big a b] (by simp)))
      by_cases h1 : unit big a b < 55296
      · exact Ev_yes h1 fin
      · refine Ev_no h1 ?_
        rw [decide_eq_true (show unit big a b > 57343 by omega)]
        exact fin
    · have hB' := hB
      unfold bmp at hB'
      refine Ev_no (by omega) ?_
      rw [decide_eq_false (show ¬ unit big a b > 57343 by omega)]
      refine Ev_succ ?_
      simp only [redactorref03_Decode.j1]
      rw [h2, h3]
      refine Ev_no (by simp) ?_
      by_cases hp2 : ∃ c d r', r = c :: d :: r'
      · obtain ⟨c, d, r', rfl⟩ := hp2
        have hc := hb c (by simp)
        have hd := hb d (by simp)
        have r2 : rd (p ++ a :: b :: c :: d :: r') ((p.length : Int) + 2) = c := rd_off p (a :: b :: c :: d :: r') 2
        have r3 : rd (p ++ a :: b :: c :: d :: r') ((p.length : Int) + 3) = d := rd_off p (a :: b :: c :: d :: r') 3
        simp only [List.length_cons] at hlen
        rw [r2, r3]
        refine Ev_yes (by rw [hlen]; omega) (Ev_yes (by omega) (Ev_yes (by rw [hlen]; omega) (Ev_yes (by omega) (Ev_let (ref_unit_tie big c d hc hd) (Ev_succ ?_)))))
        simp only [redactorref03_Decode.j2]
        by_cases hq : pair (unit big a b) (unit big c d)
        · rw [dec_pair big a b c d r' hB hq]
          have hua := unit_range big a b ha hb'
          have huc := unit_range big c d hc hd
          unfold pair at hq
          refine Ev_yes hq.1 (Ev_yes (by omega) ?_)
          rw [decide_eq_true (show unit big c d ≤ 57343 by omega)]
          refine Ev_succ ?_
          simp only [redactorref03_Decode.j3]
          rw [h4]
          refine Ev_yes (by trivial) (Ev_yes hlim1 ?_)
          rw [show wrap32 ((wrap32 ((wrap32 (65536 + (wrap32 ((wrap32 (unit big a b - 55296)) * 1024)))) + unit big c d)) - 56320) = join (unit big a b) (unit big c d) from by
            unfold join wrap32
            omega]
          have := ih r'.length (by simp at hl; omega) r' (p ++ [a, b, c, d]) (acc ++ [join (unit big a b) (unit big c d)]) (Nat.le_refl _) (fun x hx => hb x (by simp [hx])) (by simp at hlim ⊢; omega) (by simp at hp ⊢; omega)
          rw [List.append_assoc, List.append_assoc, show [a, b, c, d] ++ r' = a :: b :: c :: d :: r' from rfl] at this
          simpa using this
        · rw [dec_lone big a b (c :: d :: r') hB (by
            intro c' d' r'' e
            simp only [List.cons.injEq] at e
            obtain ⟨rfl, rfl, _⟩ := e
            exact hq)]
          unfold pair at hq
          by_cases h5 : unit big a b < 56320
          · refine Ev_yes h5 ?_
            by_cases h6 : unit big c d ≥ 56320
            · refine Ev_yes h6 ?_
              rw [decide_eq_false (show ¬ unit big c d ≤ 57343 by omega)]
              exact lone _
            · exact Ev_no h6 (lone _)
          · exact Ev_no h5 (lone _)
      · rw [dec_lone big a b r hB (fun c d r' e _ => hp2 ⟨c, d, r', e⟩)]
        have hr1 : r.length ≤ 1 := by
          match r with
          | [] => simp
          | [c] => simp
          | c :: d :: r' => exact absurd ⟨c, d, r', rfl⟩ hp2
        refine Ev_no (by rw [hlen]; omega) (Ev_succ ?_)
        simp only [redactorref03_Decode.j2]
        by_cases h5 : unit big a b < 56320
        · exact Ev_yes h5 (Ev_no (by omega) (lone _))
        · exact Ev_no h5 (lone _)
theorem ref_dec_ev (big : Bool) (l : List Int) (hb : ∀ a ∈ l, isByte a) (hlim : l.length < 35184372088832) : Ev (fun k => redactorref03_Decode.f k l big) (dec big l) := by
  unfold redactorref03_Decode.f
  exact ref_dec_ev0 big l.length l [] [] (Nat.le_refl _) hb (by simpa using hlim) (by simp; omega)
end Go.Proofs.Ytfjbobabifmpmaa.Tie
