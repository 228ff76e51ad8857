import Derived.Test.YtfjbobabifmpmaaEv
import Derived.Test.YtfjbobabifmpmaaUtfPl
import Derived.Test.YtfjbobabifmpmaaX1
import Derived.Test.YtfjbobabifmpmaaX2
import Derived.Test.YtfjbobabifmpmaaX3
import Derived.Test.YtfjbobabifmpmaaX4
import Derived.Test.YtfjbobabifmpmaaX5
import Derived.KernelRfl
/-! What the program's Decode, Encode and Canonical come to: the plain laws' own functions. -/
namespace Go.Proofs.Ytfjbobabifmpmaa.Tie
open Go.RowKit Go.Proofs.Ytfjbobabifmpmaa.X Go.Proofs.YtfjbobabifmpmaaW.PrintWords Go.Proofs.Ytfjbobabifmpmaa.Pl

theorem escape_tie (a : Int) (h : isByte a) : cell_Escape.f a = some (-1 - a) := by
  unfold isByte at h
  unfold cell_Escape.f
  rw [w32 (by omega) (by omega), xor_all a (by omega) (by omega)]
theorem unit_tie (big : Bool) (a b : Int) (r : List Int) (ha : isByte a) (hb : isByte b) : utf16_order_unit.f big (a :: b :: r) = some (unit big a b) := by
  unfold isByte at *
  unfold utf16_order_unit.f unit
  have h0 : (0 : Int) < ((a :: b :: r).length : Int) := by simp; omega
  have h1 : (1 : Int) < ((a :: b :: r).length : Int) := by simp; omega
  rw [if_pos h0, if_pos h1, if_pos h0, rd_zero, rd_one, w32 (n := a) (by omega) (by omega), w32 (n := b) (by omega) (by omega), w32 (by omega) (by omega), w32 (by omega) (by omega), or_8 a b ha.1 ha.2 hb.1 hb.2, or_8 b a hb.1 hb.2 ha.1 ha.2]
  split <;> rfl

theorem dec_ev0 (big : Bool) : ∀ (n : Nat) (l acc : List Int), l.length ≤ n → (∀ a ∈ l, isByte a) → acc.length + l.length < 35184372088832 →
    Ev (fun k => utf16_Decode.l0 k l big acc) (acc ++ dec big l) := by
  intro n
  induction n using Nat.strongRecOn with
  | _ n ih =>
  intro l acc hl hb hlim
  match l with
  | [] =>
    refine Ev_succ ?_
    simp only [utf16_Decode.l0]
    refine Ev_no (by simp) (Ev_no (by simp) (Ev_done ?_))
    rw [dec_nil, List.append_nil]
  | [a] =>
    have ha := hb a (by simp)
    refine Ev_succ ?_
    simp only [utf16_Decode.l0]
    refine Ev_no (by simp) (Ev_yes (by simp) (Ev_yes (by simp) (Ev_let (escape_tie a ha) (Ev_yes (by simp at hlim; omega) (Ev_done ?_)))))
    rw [dec_one]
  | a :: b :: r =>
    have ha := hb a (by simp)
    have hb' := hb b (by simp)
    have hr : ∀ x ∈ r, isByte x := fun x hx => hb x (by simp [hx])
    have hlen : (a :: b :: r).length = r.length + 2 := rfl
    rw [hlen] at hl hlim
    have hlim1 : acc.length < 35184372088832 := by omega
    have next : ∀ u, Ev (fun k => utf16_Decode.l0 k r big (acc ++ [u])) (acc ++ u :: dec big r) := by
      intro u
      have := ih r.length (by omega) r (acc ++ [u]) (Nat.le_refl _) hr (by simp; omega)
      rw [List.append_assoc] at this
      exact this
    have lone : Ev (fun k => (if 0 < ((a :: b :: r).length : Int) then ((cell_Escape.f (rd (a :: b :: r) 0)).bind fun t158 => (if 1 < ((a :: b :: r).length : Int) then ((cell_Escape.f (rd (a :: b :: r) 1)).bind fun t160 => ((some (([t158, t160] : List Int) : List Int)).bind fun y161 => (if acc.length + y161.length < 35184372088832 then (if 2 ≤ ((a :: b :: r).length : Int) then (utf16_Decode.l0 k ((a :: b :: r).drop 2) big (acc ++ y161)) else (none)) else (none)))) else (none))) else (none))) (acc ++ (-1 - a) :: (-1 - b) :: dec big r) := by
      refine Ev_yes (by rw [hlen]; omega) (Ev_let (escape_tie a ha) (Ev_yes (by rw [hlen]; omega) (Ev_let (escape_tie b hb') (Ev_let rfl (Ev_yes (by simp; omega) (Ev_yes (by rw [hlen]; omega) ?_))))))
      have := ih r.length (by omega) r (acc ++ [-1 - a, -1 - b]) (Nat.le_refl _) hr (by simp; omega)
      rw [List.append_assoc] at this
      exact this
    refine Ev_succ ?_
    simp only [utf16_Decode.l0]
    refine Ev_yes (by rw [hlen]; omega) (Ev_let (unit_tie big a b r ha hb') ?_)
    by_cases hB : bmp (unit big a b)
    · rw [dec_bmp big a b r hB]
      unfold bmp at hB
      have fin : Ev (fun k => utf16_Decode.j1 k (a :: b :: r) big acc (unit big a b) true) (acc ++ unit big a b :: dec big r) := by
        refine Ev_succ ?_
        simp only [utf16_Decode.j1]
        exact Ev_yes (by trivial) (Ev_yes hlim1 (Ev_yes (by rw [hlen]; omega) (next _)))
      by_cases h1 : unit big a b < 55296
      · exact Ev_yes h1 fin
      · refine Ev_no h1 ?_
        rw [decide_eq_true (show unit big a b ≥ 57344 by omega)]
        exact fin
    · have hB' := hB
      unfold bmp at hB'
      refine Ev_no (by omega) ?_
      rw [decide_eq_false (show ¬ unit big a b ≥ 57344 by omega)]
      refine Ev_succ ?_
      simp only [utf16_Decode.j1]
      refine Ev_no (by simp) ?_
      by_cases hp : ∃ c d r', r = c :: d :: r' ∧ unit big a b < 56320
      · obtain ⟨c, d, r', rfl, h2⟩ := hp
        have hc := hb c (by simp)
        have hd := hb d (by simp)
        refine Ev_yes h2 ?_
        rw [decide_eq_true (show ((a :: b :: c :: d :: r').length : Int) > 3 by simp; omega)]
        refine Ev_succ ?_
        simp only [utf16_Decode.j2]
        refine Ev_yes (by trivial) (Ev_yes (by rw [hlen]; omega) (Ev_let (unit_tie big c d r' hc hd) ?_))
        by_cases hq : pair (unit big a b) (unit big c d)
        · rw [dec_pair big a b c d r' hB hq]
          have hua := unit_range big a b ha hb'
          have huc := unit_range big c d hc hd
          unfold pair at hq
          refine Ev_yes (by omega) ?_
          rw [decide_eq_true hq.2.2]
          refine Ev_succ ?_
          simp only [utf16_Decode.j3]
          refine Ev_yes (by trivial) (Ev_yes hlim1 (Ev_yes (by simp; omega) ?_))
          rw [show (wrap32 ((wrap32 (65536 + (wrap32 ((wrap32 (unit big a b - 55296)) * 1024)))) + (wrap32 (unit big c d - 56320)))) = join (unit big a b) (unit big c d) from by
            unfold join wrap32
            omega]
          have := ih r'.length (by simp at hl; omega) r' (acc ++ [join (unit big a b) (unit big c d)]) (Nat.le_refl _) (fun x hx => hb x (by simp [hx])) (by simp at hlim ⊢; omega)
          rw [List.append_assoc] at this
          exact this
        · rw [dec_lone big a b (c :: d :: r') hB (by
            intro c' d' r'' e
            simp only [List.cons.injEq] at e
            obtain ⟨rfl, rfl, _⟩ := e
            exact hq)]
          have fin : Ev (fun k => utf16_Decode.j3 k (a :: b :: c :: d :: r') big acc (unit big a b) (unit big c d) false) (acc ++ (-1 - a) :: (-1 - b) :: dec big (c :: d :: r')) := by
            refine Ev_succ ?_
            simp only [utf16_Decode.j3]
            exact Ev_no (by simp) lone
          unfold pair at hq
          by_cases h3 : unit big c d ≥ 56320
          · refine Ev_yes h3 ?_
            rw [decide_eq_false (show ¬ unit big c d < 57344 by omega)]
            exact fin
          · exact Ev_no h3 fin
      · rw [dec_lone big a b r hB (by
          intro c d r' e hq
          exact hp ⟨c, d, r', e, hq.1⟩)]
        have fin : Ev (fun k => utf16_Decode.j2 k (a :: b :: r) big acc (unit big a b) false) (acc ++ (-1 - a) :: (-1 - b) :: dec big r) := by
          refine Ev_succ ?_
          simp only [utf16_Decode.j2]
          exact Ev_no (by simp) lone
        by_cases h2 : unit big a b < 56320
        · refine Ev_yes h2 ?_
          rw [decide_eq_false (show ¬ ((a :: b :: r).length : Int) > 3 by
            match r with
            | [] => simp
            | [c] => simp
            | c :: d :: r' => exact absurd ⟨c, d, r', rfl, h2⟩ hp)]
          exact fin
        · exact Ev_no h2 fin

theorem dec_ev (big : Bool) (l : List Int) (hb : ∀ a ∈ l, isByte a) (hlim : l.length < 35184372088832) : Ev (fun k => utf16_Decode.f k l big) (dec big l) := by
  unfold utf16_Decode.f
  exact dec_ev0 big l.length l [] (Nat.le_refl _) hb (by simpa using hlim)

theorem put_tie (big : Bool) (acc : List Int) (u : Int) (h : acc.length + 2 < 140737488355328) : utf16_order_put.f big acc u = some (acc ++ put big u) := by
  unfold utf16_order_put.f put
  cases big <;> simp [h]
instance (c : Int) : Decidable (isRight c) := inferInstanceAs (Decidable (_ ∧ _ ∧ _))
theorem right_tie (c : Int) : cell_Right.f c = some (decide (isRight c)) := by
  unfold cell_Right.f
  by_cases h1 : c ≥ -256
  · by_cases h2 : c ≤ 1114111
    · by_cases h3 : c < 55296
      · rw [if_pos h1, if_pos h2, if_pos h3, decide_eq_true (show isRight c by unfold isRight; omega)]
      · rw [if_pos h1, if_pos h2, if_neg h3]
        congr 1
        rw [decide_eq_decide]
        unfold isRight
        omega
    · rw [if_pos h1, if_neg h2, decide_eq_false (show ¬ isRight c by unfold isRight; omega)]
  · rw [if_neg h1, decide_eq_false (show ¬ isRight c by unfold isRight; omega)]
theorem byte_tie (c : Int) : cell_Byte.f c = some (if -256 ≤ c ∧ c < 0 then (-1 - c, true) else (0, false)) := by
  unfold cell_Byte.f
  by_cases h1 : c ≥ 0
  · rw [if_pos h1, if_neg (by omega)]
  · rw [if_neg h1]
    by_cases h2 : c < -256
    · rw [if_pos h2, if_neg (by omega)]
    · rw [if_neg h2, if_pos (by omega), xor_all c (by omega) (by omega), show (-1 - c) % 256 = -1 - c from by omega]

/-- What Encode tells. -/
def encR (big : Bool) (l : List Int) : List Int × Int := if ∀ c ∈ l, isRight c then (enc big l, 0) else ([], 10)
theorem put_len (big : Bool) (u : Int) : (put big u).length = 2 := by unfold put; split <;> rfl

theorem enc_ev0 (big : Bool) : ∀ (s p acc : List Int), acc.length + 4 * s.length < 140737488355328 → p.length + s.length < 9223372036854775807 →
    Ev (fun k => utf16_Encode.l0 k big acc (p ++ s) ((p ++ s).length : Int) (p.length : Int)) (if ∀ c ∈ s, isRight c then (acc ++ enc big s, 0) else ([], 10)) := by
  intro s
  induction s with
  | nil =>
    intro p acc _ _
    refine Ev_succ ?_
    simp only [utf16_Encode.l0]
    refine Ev_no (by simp) (Ev_done ?_)
    rw [if_pos (by simp), enc_nil, List.append_nil]
  | cons c s ih =>
    intro p acc hlim hp
    have hlen : (p ++ c :: s).length = p.length + s.length + 1 := by simp; omega
    have hw : wrap64 ((p.length : Int) + 1) = ((p ++ [c]).length : Int) := by
      rw [w64 (by omega) (by simp at hp; omega)]
      simp
    have next : ∀ ys, ys.length ≤ 4 → (∀ c' ∈ s, isRight c') ∨ True → Ev (fun k => utf16_Encode.l0 k big (acc ++ ys) (p ++ c :: s) ((p ++ c :: s).length : Int) (wrap64 ((p.length : Int) + 1))) (if ∀ c ∈ s, isRight c then (acc ++ ys ++ enc big s, 0) else ([], 10)) := by
      intro ys hy _
      have := ih (p ++ [c]) (acc ++ ys) (by simp at hlim ⊢; omega) (by simp at hp ⊢; omega)
      rw [List.append_assoc, show [c] ++ s = c :: s from rfl] at this
      rw [hw]
      exact this
    refine Ev_succ ?_
    simp only [utf16_Encode.l0]
    refine Ev_yes (by rw [hlen]; omega) (Ev_yes (by omega) (Ev_yes (by rw [hlen]; omega) ?_))
    rw [rd_mid]
    refine Ev_let (byte_tie c) (Ev_let (right_tie c) ?_)
    by_cases hR : isRight c
    · rw [decide_eq_true hR]
      refine Ev_yes (by trivial) ?_
      have hall : (if ∀ c' ∈ c :: s, isRight c' then (acc ++ enc big (c :: s), (0 : Int)) else ([], 10)) = (if ∀ c ∈ s, isRight c then (acc ++ encOne big c ++ enc big s, 0) else ([], 10)) := by
        by_cases hs : ∀ c ∈ s, isRight c
        · rw [if_pos hs, if_pos (by simpa using ⟨hR, hs⟩), enc_cons, List.append_assoc]
        · rw [if_neg hs, if_neg (fun h => hs (fun x hx => h x (by simp [hx])))]
      rw [hall]
      unfold isRight at hR
      have hlim' : acc.length + 4 * s.length + 4 < 140737488355328 := by simp at hlim; omega
      by_cases h0 : c < 0
      · rw [if_pos (by omega)]
        refine Ev_yes (by trivial) (Ev_yes (by omega) ?_)
        rw [encOne, if_pos h0]
        exact next _ (by simp) (.inr trivial)
      · rw [if_neg (by omega)]
        refine Ev_no (by simp) ?_
        rw [encOne, if_neg h0]
        by_cases h1 : c < 65536
        · rw [if_pos h1]
          refine Ev_yes h1 (Ev_let (put_tie big acc c (by omega)) ?_)
          exact next _ (by rw [put_len]; omega) (.inr trivial)
        · rw [if_neg h1]
          refine Ev_no h1 ?_
          rw [w32 (n := c - 65536) (by omega) (by omega), and_1023 _ (by omega) (by omega), w32 (n := 55296 + (c - 65536) / 1024) (by omega) (by omega), w32 (n := 56320 + (c - 65536) % 1024) (by omega) (by omega)]
          refine Ev_let (put_tie big acc _ (by omega)) (Ev_let (put_tie big _ _ (by rw [List.length_append, put_len]; omega)) ?_)
          rw [List.append_assoc]
          exact next _ (by rw [List.length_append, put_len, put_len]; omega) (.inr trivial)
    · rw [decide_eq_false hR]
      refine Ev_no (by simp) (Ev_done ?_)
      rw [if_neg (fun h => hR (h c (by simp)))]

theorem enc_ev (big : Bool) (l : List Int) (hlim : 4 * l.length < 140737488355328) : Ev (fun k => utf16_Encode.f k l big) (encR big l) := by
  unfold utf16_Encode.f encR
  have := enc_ev0 big l [] [] (by simpa using hlim) (by simp; omega)
  simpa using this

theorem equal_ev0 : ∀ (s t p : List Int), s.length = t.length → p.length + s.length < 9223372036854775807 →
    Ev (fun k => api_Cell.l0 k (p ++ s) (p ++ t) ((p ++ s).length : Int) (p.length : Int)) (decide (s = t)) := by
  intro s
  induction s with
  | nil =>
    intro t p ht _
    obtain rfl : t = [] := List.eq_nil_of_length_eq_zero (by simpa using ht.symm)
    refine Ev_succ ?_
    simp only [api_Cell.l0]
    exact Ev_no (by simp) (Ev_done (by simp))
  | cons c s ih =>
    intro t p ht hp
    match t with
    | [] => simp at ht
    | d :: t =>
      have hlen : (p ++ c :: s).length = p.length + s.length + 1 := by simp; omega
      have hlen' : (p ++ d :: t).length = p.length + t.length + 1 := by simp; omega
      simp only [List.length_cons, Nat.add_right_cancel_iff] at ht
      refine Ev_succ ?_
      simp only [api_Cell.l0]
      refine Ev_yes (by rw [hlen]; omega) (Ev_yes (by omega) (Ev_yes (by rw [hlen]; omega) (Ev_yes (by rw [hlen']; omega) ?_)))
      rw [rd_mid, rd_mid]
      by_cases h : c = d
      · subst h
        refine Ev_yes (by trivial) ?_
        rw [w64 (by omega) (by simp at hp; omega)]
        have := ih t (p ++ [c]) ht (by simp at hp ⊢; omega)
        rw [List.append_assoc, List.append_assoc, show [c] ++ s = c :: s from rfl, show [c] ++ t = c :: t from rfl] at this
        simpa using this
      · exact Ev_no h (Ev_done (by simp [h]))
theorem equal_ev (l m : List Int) (hl : l.length < 9223372036854775807) : Ev (fun k => api_Cell.f k l m) (decide (l = m)) := by
  unfold api_Cell.f
  by_cases h : l.length = m.length
  · refine Ev_yes (by omega) ?_
    simpa using equal_ev0 l m [] h (by simpa using hl)
  · refine Ev_no (by omega) (Ev_done ?_)
    rw [decide_eq_false]
    intro e
    exact h (by rw [e])

/-- The bytes of cells. -/
theorem enc_bytes (big : Bool) (l : List Int) (h : ∀ c ∈ l, isRight c) : (∀ a ∈ enc big l, isByte a) ∧ (enc big l).length ≤ 4 * l.length := by
  induction l with
  | nil => exact ⟨by simp [enc], by simp [enc]⟩
  | cons c l ih =>
    obtain ⟨i1, i2⟩ := ih (fun x hx => h x (by simp [hx]))
    have hc := h c (by simp)
    unfold isRight at hc
    have key : (∀ a ∈ encOne big c, isByte a) ∧ (encOne big c).length ≤ 4 := by
      unfold encOne
      by_cases h0 : c < 0
      · rw [if_pos h0]
        exact ⟨fun a ha => by simp only [List.mem_singleton] at ha; subst ha; unfold isByte; omega, by simp⟩
      · rw [if_neg h0]
        have two : ∀ u : Int, ∀ a ∈ put big u, isByte a := by
          intro u a ha
          unfold put at ha
          unfold isByte
          split at ha <;> (simp only [List.mem_cons, List.not_mem_nil, or_false] at ha; omega)
        by_cases h1 : c < 65536
        · rw [if_pos h1]
          exact ⟨two c, by rw [put_len]; omega⟩
        · rw [if_neg h1]
          refine ⟨fun a ha => ?_, by rw [List.length_append, put_len, put_len]; omega⟩
          rcases List.mem_append.1 ha with ha | ha
          · exact two _ a ha
          · exact two _ a ha
    rw [enc_cons]
    refine ⟨fun a ha => ?_, by rw [List.length_append, List.length_cons]; omega⟩
    rcases List.mem_append.1 ha with ha | ha
    · exact key.1 a ha
    · exact i1 a ha

def canon (l : List Int) : Bool := decide (∀ c ∈ l, isRight c) && decide (dec false (enc false l) = l) && decide (dec true (enc true l) = l)
theorem one_ev (b : Bool) (l : List Int) (hlim : 4 * l.length < 35184372088832) :
    Ev (fun k => utf16_Canonical.one k l b) (decide (∀ c ∈ l, isRight c) && decide (dec b (enc b l) = l)) := by
  unfold utf16_Canonical.one
  refine Ev.bind (enc_ev b l (by omega)) ?_
  unfold encR
  by_cases hR : ∀ c ∈ l, isRight c
  · obtain ⟨hb, hn⟩ := enc_bytes b l hR
    rw [if_pos hR, decide_eq_true hR]
    refine Ev_yes (by trivial) ?_
    refine Ev.bind (dec_ev b (enc b l) hb (by omega)) ?_
    rw [Bool.true_and]
    refine equal_ev _ l ?_
    have := (dec_back b _ (enc b l) (Nat.le_refl _) hb).2.2
    omega
  · rw [if_neg hR, decide_eq_false hR]
    exact Ev_no (by simp) (Ev_done (by simp))
theorem canon_ev (l : List Int) (hlim : 4 * l.length < 35184372088832) : Ev (fun k => utf16_Canonical.f k l) (canon l) := by
  unfold utf16_Canonical.f utf16_Canonical.g utf16_Canonical.g utf16_Canonical.g
  refine Ev.bind (one_ev false l hlim) ?_
  unfold canon
  by_cases h1 : (decide (∀ c ∈ l, isRight c) && decide (dec false (enc false l) = l)) = true
  · rw [h1]
    refine Ev_yes (by trivial) (Ev.bind (one_ev true l hlim) ?_)
    simp only [Bool.and_eq_true, decide_eq_true_eq] at h1
    rw [decide_eq_true h1.1, Bool.true_and]
    by_cases h2 : dec true (enc true l) = l
    · rw [decide_eq_true h2]
      exact Ev_yes (by trivial) (Ev_done rfl)
    · rw [decide_eq_false h2]
      exact Ev_no (by simp) (Ev_done rfl)
  · rw [Bool.eq_false_iff.2 h1]
    exact Ev_no (by simp) (Ev_done (by simp))

theorem known_ev : Ev (fun k => redactorlaw03_known.f k) true := Ev.of (fun k => redactorlaw03_known.mono k) (k := 12) (by kernel_rfl)
end Go.Proofs.Ytfjbobabifmpmaa.Tie
