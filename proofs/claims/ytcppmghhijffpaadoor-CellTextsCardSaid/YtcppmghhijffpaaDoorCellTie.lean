import Derived.Test.YtcppmghhijffpaaDoorUtfTieS
import Derived.Test.YtcppmghhijffpaaDoorUtfTieC
import Derived.Test.YtcppmghhijffpaaDoorCellBase
import Derived.Test.YtcppmghhijffpaaDoorX9
import Derived.Test.YtcppmghhijffpaaDoorX8
/-! cell.Compare comes to the same order; the order's laws. -/
namespace Go.Proofs.YtcppmghhijffpaaDoor.Tie
open Go.RowKit Go.Proofs.YtcppmghhijffpaaDoor.X Go.Proofs.YtcppmghhijffpaaDoorW.PrintWords
theorem one_tie (a b : Int) : api_Cell_85.f a b = some (if a < b then -1 else if b < a then 1 else 0) := by
  unfold api_Cell_85.f api_Cell_99.f
  by_cases h1 : a < b
  · simp [h1]
  · by_cases h2 : b < a
    · simp [h1, h2]
    · simp [h1, h2]
theorem ccompare_ev0 : ∀ (s t p q : List Int), p.length = q.length → p.length + s.length < 9223372036854775807 →
    Ev (fun k => api_Cell_58.l0 k (p ++ s) (q ++ t) (p ++ s) ((p ++ s).length : Int) (p.length : Int)) (cmp s t) := by
  intro s
  induction s with
  | nil =>
    intro t p q hpq _
    refine Ev_succ ?_
    simp only [api_Cell_58.l0]
    refine Ev_no (by simp) ?_
    cases t with
    | nil => exact Ev_no (by simp; omega) (Ev_done rfl)
    | cons b t => exact Ev_yes (by simp; omega) (Ev_done rfl)
  | cons a s ih =>
    intro t p q hpq hl
    have hlen : (p ++ a :: s).length = p.length + s.length + 1 := by simp; omega
    simp only [List.length_cons] at hl
    refine Ev_succ ?_
    simp only [api_Cell_58.l0]
    refine Ev_yes (by rw [hlen]; omega) (Ev_yes (by omega) (Ev_yes (by rw [hlen]; omega) ?_))
    cases t with
    | nil => exact Ev_yes (by simp; omega) (Ev_done rfl)
    | cons b t =>
      have hlen' : (q ++ b :: t).length = q.length + t.length + 1 := by simp; omega
      refine Ev_no (by rw [hlen']; omega) (Ev_yes (by rw [hlen']; omega) (Ev_let (one_tie _ _) ?_))
      rw [rd_mid, show rd (q ++ b :: t) (p.length : Int) = b from by rw [hpq, rd_mid], cmp]
      by_cases h1 : a < b
      · simp only [if_pos h1]
        exact Ev_no (by omega) (Ev_done rfl)
      · simp only [if_neg h1]
        by_cases h2 : b < a
        · simp only [if_pos h2]
          exact Ev_no (by omega) (Ev_done rfl)
        · simp only [if_neg h2]
          refine Ev_yes (by trivial) ?_
          have := ih t (p ++ [a]) (q ++ [b]) (by simp [hpq]) (by simp; omega)
          rw [List.append_assoc, List.append_assoc, show [a] ++ s = a :: s from rfl, show [b] ++ t = b :: t from rfl] at this
          rw [w64 (by omega) (by omega)]
          simpa using this
theorem ccompare_ev (l m : List Int) (hl : l.length < 9223372036854775807) : Ev (fun k => cell_Compare.f k l m) (cmp l m) := by
  unfold cell_Compare.f
  refine Ev.bind ?_ (Ev_done rfl)
  unfold api_Cell_58.f
  exact ccompare_ev0 l m [] [] rfl (by simpa using hl)
theorem cmp_is : ∀ (s t : List Int), cmp s t = -1 ∨ cmp s t = 0 ∨ cmp s t = 1 := by
  intro s
  induction s with
  | nil => intro t; cases t <;> simp [cmp]
  | cons a s ih =>
    intro t
    cases t with
    | nil => simp [cmp]
    | cons b t =>
      rw [cmp]
      split
      · simp
      · split
        · simp
        · exact ih t
theorem cmp_swap : ∀ (s t : List Int), cmp s t = -cmp t s := by
  intro s
  induction s with
  | nil => intro t; cases t <;> simp [cmp]
  | cons a s ih =>
    intro t
    cases t with
    | nil => simp [cmp]
    | cons b t =>
      rw [cmp, cmp]
      by_cases h1 : a < b
      · simp [h1, show ¬ b < a by omega]
      · by_cases h2 : b < a
        · simp [h1, h2]
        · simp only [if_neg h1, if_neg h2]
          exact ih t
theorem cmp_trans : ∀ (s t u : List Int), cmp s t ≤ 0 → cmp t u ≤ 0 → cmp s u ≤ 0 := by
  intro s
  induction s with
  | nil => intro t u _ _; cases u <;> simp [cmp]
  | cons a s ih =>
    intro t u h1 h2
    cases t with
    | nil => simp [cmp] at h1
    | cons b t =>
      cases u with
      | nil => simp [cmp] at h2
      | cons c u =>
        rw [cmp] at h1 h2 ⊢
        by_cases ab : a < b
        · by_cases bc : b < c
          · rw [if_pos (by omega)]
            omega
          · by_cases cb : c < b
            · rw [if_neg bc, if_pos cb] at h2
              omega
            · rw [if_pos (by omega)]
              omega
        · by_cases ba : b < a
          · rw [if_neg ab, if_pos ba] at h1
            omega
          · rw [if_neg ab, if_neg ba] at h1
            by_cases bc : b < c
            · rw [if_pos (by omega)]
              omega
            · by_cases cb : c < b
              · rw [if_neg bc, if_pos cb] at h2
                omega
              · rw [if_neg bc, if_neg cb] at h2
                rw [if_neg (by omega), if_neg (by omega)]
                exact ih t u h1 h2
theorem cmp_front : ∀ (s t : List Int), cmp s (s ++ t) ≤ 0 := by
  intro s
  induction s with
  | nil => intro t; cases t <;> simp [cmp]
  | cons a s ih =>
    intro t
    rw [List.cons_append, cmp, if_neg (by omega), if_neg (by omega)]
    exact ih t
end Go.Proofs.YtcppmghhijffpaaDoor.Tie
