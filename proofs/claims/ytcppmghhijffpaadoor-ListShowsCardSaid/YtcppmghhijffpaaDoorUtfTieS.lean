import Derived.Test.YtcppmghhijffpaaDoorEv
import Derived.Test.YtcppmghhijffpaaDoorX2
import Derived.Test.YtcppmghhijffpaaDoorX3
/-! What the references' Compare and Same come to. -/
namespace Go.Proofs.YtcppmghhijffpaaDoor.Tie
open Go.RowKit Go.Proofs.YtcppmghhijffpaaDoor.X Go.Proofs.YtcppmghhijffpaaDoorW.PrintWords

/-- By the first that are not alike; else by how many there are. -/
def cmp : List Int → List Int → Int
  | [], [] => 0
  | [], _ :: _ => -1
  | _ :: _, [] => 1
  | a :: s, b :: t => if a < b then -1 else if b < a then 1 else cmp s t
theorem cmp_zero : ∀ (s t : List Int), cmp s t = 0 ↔ s = t := by
  intro s
  induction s with
  | nil => intro t; cases t <;> simp [cmp]
  | cons a s ih =>
    intro t
    cases t with
    | nil => simp [cmp]
    | cons b t =>
      rw [cmp]
      by_cases h1 : a < b
      · rw [if_pos h1]
        simp
        omega
      · rw [if_neg h1]
        by_cases h2 : b < a
        · rw [if_pos h2]
          simp
          omega
        · rw [if_neg h2, ih t]
          have : a = b := by omega
          subst this
          simp

theorem compare_ev0 : ∀ (s t p q : List Int), p.length = q.length → p.length + s.length < 9223372036854775807 →
    Ev (fun k => redactorref01_Compare.l0 k (p ++ s) (q ++ t) (p.length : Int)) (cmp s t) := by
  intro s
  induction s with
  | nil =>
    intro t p q hpq _
    refine Ev_succ ?_
    simp only [redactorref01_Compare.l0]
    refine Ev_no (by simp) (Ev_succ ?_)
    simp only [redactorref01_Compare.j1]
    refine Ev_no (by simp) ?_
    cases t with
    | nil => exact Ev_no (by simp; omega) (Ev_no (by simp; omega) (Ev_done rfl))
    | cons b t => exact Ev_yes (by simp; omega) (Ev_done rfl)
  | cons a s ih =>
    intro t p q hpq hl
    have hlen : (p ++ a :: s).length = p.length + s.length + 1 := by simp; omega
    simp only [List.length_cons] at hl
    refine Ev_succ ?_
    simp only [redactorref01_Compare.l0]
    refine Ev_yes (by rw [hlen]; omega) ?_
    cases t with
    | nil =>
      rw [decide_eq_false (by simp; omega)]
      refine Ev_succ ?_
      simp only [redactorref01_Compare.j1]
      exact Ev_no (by simp) (Ev_no (by rw [hlen]; simp; omega) (Ev_yes (by rw [hlen]; simp; omega) (Ev_done rfl)))
    | cons b t =>
      have hlen' : (q ++ b :: t).length = q.length + t.length + 1 := by simp; omega
      rw [decide_eq_true (by rw [hlen']; omega)]
      refine Ev_succ ?_
      simp only [redactorref01_Compare.j1]
      refine Ev_yes (by trivial) (Ev_yes (by omega) (Ev_yes (by rw [hlen]; omega) (Ev_yes (by rw [hlen']; omega) ?_)))
      rw [rd_mid, show rd (q ++ b :: t) (p.length : Int) = b from by rw [hpq, rd_mid], cmp]
      by_cases h1 : a < b
      · rw [if_pos h1]
        exact Ev_yes h1 (Ev_done rfl)
      · rw [if_neg h1]
        refine Ev_no h1 ?_
        by_cases h2 : b < a
        · rw [if_pos h2]
          exact Ev_yes h2 (Ev_done rfl)
        · rw [if_neg h2]
          refine Ev_no h2 ?_
          have := ih t (p ++ [a]) (q ++ [b]) (by simp [hpq]) (by simp; omega)
          rw [List.append_assoc, List.append_assoc, show [a] ++ s = a :: s from rfl, show [b] ++ t = b :: t from rfl] at this
          rw [w64 (by omega) (by omega)]
          simpa using this
theorem compare_ev (l m : List Int) (hl : l.length < 9223372036854775807) : Ev (fun k => redactorref01_Compare.f k l m) (cmp l m) := by
  unfold redactorref01_Compare.f
  exact compare_ev0 l m [] [] rfl (by simpa using hl)
theorem same_ev (l m : List Int) (hl : l.length < 9223372036854775807) : Ev (fun k => redactorref01_Same.f k l m) (decide (l = m)) := by
  unfold redactorref01_Same.f
  refine Ev.bind (compare_ev l m hl) (Ev_done ?_)
  have := cmp_zero l m
  by_cases h : l = m
  · rw [decide_eq_true h, beq_iff_eq]
    exact this.2 h
  · rw [decide_eq_false h, beq_eq_false_iff_ne]
    exact fun e => h (this.1 e)
end Go.Proofs.YtcppmghhijffpaaDoor.Tie
