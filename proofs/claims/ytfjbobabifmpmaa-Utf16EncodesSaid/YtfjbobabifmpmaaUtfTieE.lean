import Derived.Test.YtfjbobabifmpmaaEv
import Derived.Test.YtfjbobabifmpmaaUtfPl
import Derived.Test.YtfjbobabifmpmaaUtfTie
import Derived.Test.YtfjbobabifmpmaaUtfTieS
import Derived.Test.YtfjbobabifmpmaaUtfTieR
import Derived.Test.YtfjbobabifmpmaaX11
import Derived.Test.YtfjbobabifmpmaaX12
import Derived.Test.YtfjbobabifmpmaaX13
/-! What the reference's Encode and Canonical come to. -/
namespace Go.Proofs.Ytfjbobabifmpmaa.Tie
open Go.RowKit Go.Proofs.Ytfjbobabifmpmaa.X Go.Proofs.YtfjbobabifmpmaaW.PrintWords Go.Proofs.Ytfjbobabifmpmaa.Pl

theorem ref_right_tie (c : Int) : redactorref01_Right.f c = some (decide (isRight c)) := by
  unfold redactorref01_Right.f
  by_cases h1 : c ≥ -256
  · by_cases h2 : c < 55296
    · rw [if_pos h1, if_pos h2, decide_eq_true (show isRight c by unfold isRight; omega)]
    · rw [if_pos h1, if_neg h2]
      by_cases h3 : c > 57343
      · rw [if_pos h3]
        congr 1
        rw [decide_eq_decide]
        unfold isRight
        omega
      · rw [if_neg h3, decide_eq_false (show ¬ isRight c by unfold isRight; omega)]
  · rw [if_neg h1, if_neg (by omega), decide_eq_false (show ¬ isRight c by unfold isRight; omega)]
theorem ref_byte_tie (c : Int) : redactorref01_Byte.f c = some (if -256 ≤ c ∧ c < 0 then (-1 - c, true) else (0, false)) := by
  unfold redactorref01_Byte.f
  by_cases h1 : c ≥ 0
  · rw [if_pos h1, if_neg (by omega)]
  · rw [if_neg h1]
    by_cases h2 : c < -256
    · rw [if_pos h2, if_neg (by omega)]
    · rw [if_neg h2, if_pos (by omega), w32 (by omega) (by omega), show (-1 - c) % 256 = -1 - c from by omega]
theorem ref_bytes_tie (big : Bool) (u : Int) (h0 : 0 ≤ u) (h1 : u < 65536) : redactorref03_bytes.f u big = some (put big u) := by
  unfold redactorref03_bytes.f put
  rw [Int.tdiv_eq_ediv_of_nonneg h0, Int.tmod_eq_emod_of_nonneg h0, w32 (by omega) (by omega), show u % 256 % 256 = u % 256 from by omega]
  split <;> rfl

theorem ref_enc_ev0 (big : Bool) : ∀ (s p acc : List Int), acc.length + 4 * s.length < 140737488355328 → p.length + s.length < 9223372036854775807 →
    Ev (fun k => redactorref03_Encode.l0 k (p ++ s) big acc (p.length : Int)) (if ∀ c ∈ s, isRight c then (acc ++ enc big s, 0) else ([], 10)) := by
  intro s
  induction s with
  | nil =>
    intro p acc _ _
    refine Ev_succ ?_
    simp only [redactorref03_Encode.l0]
    refine Ev_no (by simp) (Ev_done ?_)
    rw [if_pos (by simp), enc_nil, List.append_nil]
  | cons c s ih =>
    intro p acc hlim hp
    have hlen : (p ++ c :: s).length = p.length + s.length + 1 := by simp; omega
    simp only [List.length_cons] at hlim hp
    have hw : wrap64 ((p.length : Int) + 1) = ((p ++ [c]).length : Int) := by
      rw [w64 (by omega) (by omega)]
      simp
    have next : ∀ ys, ys.length ≤ 4 → Ev (fun k => redactorref03_Encode.l0 k (p ++ c :: s) big (acc ++ ys) (wrap64 ((p.length : Int) + 1))) (if ∀ c ∈ s, isRight c then (acc ++ ys ++ enc big s, 0) else ([], 10)) := by
      intro ys hy
      have := ih (p ++ [c]) (acc ++ ys) (by simp; omega) (by simp; omega)
      rw [List.append_assoc, show [c] ++ s = c :: s from rfl] at this
      rw [hw]
      exact this
    refine Ev_succ ?_
    simp only [redactorref03_Encode.l0]
    rw [rd_mid]
    refine Ev_yes (by rw [hlen]; omega) (Ev_yes (by omega) (Ev_let (ref_right_tie c) ?_))
    by_cases hR : isRight c
    · rw [decide_eq_true hR]
      refine Ev_yes rfl (Ev_let (ref_byte_tie c) (Ev_let rfl ?_))
      have hall : (if ∀ c' ∈ c :: s, isRight c' then (acc ++ enc big (c :: s), (0 : Int)) else ([], 10)) = (if ∀ c ∈ s, isRight c then (acc ++ encOne big c ++ enc big s, 0) else ([], 10)) := by
        by_cases hs : ∀ c ∈ s, isRight c
        · rw [if_pos hs, if_pos (by simpa using ⟨hR, hs⟩), enc_cons, List.append_assoc]
        · rw [if_neg hs, if_neg (fun h => hs (fun x hx => h x (by simp [hx])))]
      rw [hall]
      unfold isRight at hR
      have last : ∀ ys, ys.length ≤ 4 → c < 65536 → Ev (fun k => redactorref03_Encode.j2 k (p ++ c :: s) big acc (p.length : Int) c ys) (if ∀ c ∈ s, isRight c then (acc ++ ys ++ enc big s, 0) else ([], 10)) := by
        intro ys hy hc
        refine Ev_succ ?_
        simp only [redactorref03_Encode.j2]
        exact Ev_no (by omega) (Ev_yes (by omega) (next ys hy))
      by_cases h0 : c < 0
      · rw [if_pos (by omega), encOne, if_pos h0]
        refine Ev_yes rfl (Ev_succ ?_)
        simp only [redactorref03_Encode.j1]
        exact Ev_no (by simp) (last [-1 - c] (by simp) (by omega))
      · rw [if_neg (by omega), encOne, if_neg h0]
        refine Ev_no (by simp) ?_
        by_cases h1 : c < 65536
        · rw [if_pos h1, decide_eq_true h1]
          refine Ev_succ ?_
          simp only [redactorref03_Encode.j1]
          exact Ev_yes (by trivial) (Ev_let (ref_bytes_tie big c (by omega) h1) (last _ (by rw [put_len]; omega) h1))
        · rw [if_neg h1, decide_eq_false h1]
          refine Ev_succ ?_
          simp only [redactorref03_Encode.j1]
          refine Ev_no (by simp) (Ev_succ ?_)
          simp only [redactorref03_Encode.j2]
          rw [w32 (n := c - 65536) (by omega) (by omega), Int.tdiv_eq_ediv_of_nonneg (by omega), Int.tmod_eq_emod_of_nonneg (by omega), w32 (n := (c - 65536) / 1024) (by omega) (by omega), w32 (n := 55296 + (c - 65536) / 1024) (by omega) (by omega), w32 (n := 56320 + (c - 65536) % 1024) (by omega) (by omega)]
          refine Ev_yes (by omega) (Ev_let (ref_bytes_tie big _ (by omega) (by omega)) (Ev_let (ref_bytes_tie big _ (by omega) (by omega)) (Ev_yes (by rw [put_len, put_len]; omega) (Ev_let rfl (Ev_yes (by rw [List.length_append, put_len, put_len]; omega) ?_)))))
          exact next _ (by rw [List.length_append, put_len, put_len]; omega)
    · rw [decide_eq_false hR]
      refine Ev_no (by simp) (Ev_done ?_)
      rw [if_neg (fun h => hR (h c (by simp)))]
theorem ref_enc_ev (big : Bool) (l : List Int) (hlim : 4 * l.length < 140737488355328) : Ev (fun k => redactorref03_Encode.f k l big) (encR big l) := by
  unfold redactorref03_Encode.f encR
  have := ref_enc_ev0 big l [] [] (by simpa using hlim) (by simp; omega)
  simpa using this

theorem ref_canon_ev (l : List Int) (hlim : 4 * l.length < 35184372088832) : Ev (fun k => redactorref03_Canonical.f k l) (canon l) := by
  unfold redactorref03_Canonical.f
  refine Ev.bind (ref_enc_ev true l (by omega)) (Ev.bind (ref_enc_ev false l (by omega)) ?_)
  unfold encR canon
  by_cases hR : ∀ c ∈ l, isRight c
  · obtain ⟨hb, hn⟩ := enc_bytes true l hR
    obtain ⟨hb', hn'⟩ := enc_bytes false l hR
    rw [if_pos hR, if_pos hR, decide_eq_true hR, Bool.true_and]
    have m1 := (dec_back true _ (enc true l) (Nat.le_refl _) hb).2.2
    have m2 := (dec_back false _ (enc false l) (Nat.le_refl _) hb').2.2
    refine Ev_yes rfl (Ev.bind (ref_dec_ev true (enc true l) hb (by omega)) (Ev.bind (same_ev _ l (by omega)) ?_))
    by_cases h1 : dec true (enc true l) = l
    · rw [decide_eq_true h1, Bool.and_true]
      exact Ev_yes rfl (Ev.bind (ref_dec_ev false (enc false l) hb' (by omega)) (Ev.bind (same_ev _ l (by omega)) (Ev_done rfl)))
    · rw [decide_eq_false h1, Bool.and_false]
      exact Ev_no (by simp) (Ev_done rfl)
  · rw [if_neg hR, if_neg hR, decide_eq_false hR]
    exact Ev_no (by simp) (Ev_done (by simp))
end Go.Proofs.Ytfjbobabifmpmaa.Tie
