import Derived.Test.YtcppmghhijffpaaDoorEv
import Derived.Test.YtcppmghhijffpaaDoorX7
/-! What the statements' own Cells comes to: few cells. -/
namespace Go.Proofs.YtcppmghhijffpaaDoor.Tie
open Go.RowKit Go.Proofs.YtcppmghhijffpaaDoor.X Go.Proofs.YtcppmghhijffpaaDoorW.PrintWords

/-- What a choice stands for. -/
def cellOf (k : Int) : Int :=
  if k < 150 then 97 + k % 4 else if k < 180 then 65 + k % 4 else if k < 200 then 10
  else if k < 215 then rd [32, 48, 55, 59, 45, 92, 47] (k % 7) else if k < 235 then rd [233, 8364, 128512, 127, 9] (k % 5) else -1 - (128 + k % 128)
theorem cells_ev0 : ∀ (s p acc : List Int), (∀ x ∈ s, 0 ≤ x ∧ x < 256) → acc.length = p.length → p.length ≤ 60 → p.length + s.length < 9223372036854775807 →
    Ev (fun k => redactorlaw01_Cells.l0 k (p ++ s) acc (p.length : Int)) (acc ++ (s.take (60 - p.length)).map cellOf) := by
  intro s
  induction s with
  | nil =>
    intro p acc _ h1 h2 _
    refine Ev_succ ?_
    simp only [redactorlaw01_Cells.l0]
    refine Ev_no (by simp) (Ev_succ ?_)
    simp only [redactorlaw01_Cells.j1]
    exact Ev_no (by simp) (Ev_done (by simp))
  | cons c s ih =>
    intro p acc hl h1 h2 hp
    have hlen : (p ++ c :: s).length = p.length + s.length + 1 := by simp; omega
    simp only [List.length_cons] at hp
    have hc := hl c (by simp)
    have next : p.length < 60 → ∀ y, y = cellOf c → Ev (fun k => redactorlaw01_Cells.l0 k (p ++ c :: s) (acc ++ [y]) (wrap64 ((p.length : Int) + 1))) (acc ++ ((c :: s).take (60 - p.length)).map cellOf) := by
      intro h y hy
      have := ih (p ++ [c]) (acc ++ [y]) (fun x hx => hl x (by simp [hx])) (by simp; omega) (by simp; omega) (by simp; omega)
      rw [List.append_assoc, show [c] ++ s = c :: s from rfl] at this
      rw [w64 (by omega) (by omega), show 60 - p.length = (60 - (p ++ [c]).length) + 1 from by simp; omega, List.take_succ_cons, List.map_cons, ← hy]
      simpa using this
    refine Ev_succ ?_
    simp only [redactorlaw01_Cells.l0]
    refine Ev_yes (by rw [hlen]; omega) ?_
    by_cases h60 : (p.length : Int) < 60
    · rw [decide_eq_true h60]
      refine Ev_succ ?_
      simp only [redactorlaw01_Cells.j1]
      rw [rd_mid, w64 (n := c) (by omega) (by omega), Int.tmod_eq_emod_of_nonneg hc.1, Int.tmod_eq_emod_of_nonneg hc.1, Int.tmod_eq_emod_of_nonneg hc.1, Int.tmod_eq_emod_of_nonneg hc.1]
      refine Ev_yes (by trivial) (Ev_yes (by omega) (Ev_yes (by rw [hlen]; omega) ?_))
      have hacc : acc.length < 35184372088832 := by omega
      have go := next (by omega)
      unfold cellOf at go
      by_cases c1 : c < 150
      · exact Ev_yes c1 (Ev_yes hacc (go _ (by rw [if_pos c1, w64 (by omega) (by omega), w32 (by omega) (by omega)])))
      · refine Ev_no c1 ?_
        rw [if_neg c1] at go
        by_cases c2 : c < 180
        · exact Ev_yes c2 (Ev_yes hacc (go _ (by rw [if_pos c2, w64 (by omega) (by omega), w32 (by omega) (by omega)])))
        · refine Ev_no c2 ?_
          rw [if_neg c2] at go
          by_cases c3 : c < 200
          · exact Ev_yes c3 (Ev_yes hacc (go _ (by rw [if_pos c3])))
          · refine Ev_no c3 ?_
            rw [if_neg c3] at go
            by_cases c4 : c < 215
            · exact Ev_yes c4 (Ev_let rfl (Ev_yes (by omega) (Ev_yes (by simp; omega) (Ev_yes hacc (go _ (by rw [if_pos c4]))))))
            · refine Ev_no c4 ?_
              rw [if_neg c4] at go
              by_cases c5 : c < 235
              · exact Ev_yes c5 (Ev_let rfl (Ev_yes (by omega) (Ev_yes (by simp; omega) (Ev_yes hacc (go _ (by rw [if_pos c5]))))))
              · refine Ev_no c5 ?_
                rw [if_neg c5] at go
                exact Ev_yes hacc (go _ (by rw [w64 (by omega) (by omega), w32 (n := 128 + c % 128) (by omega) (by omega), w32 (by omega) (by omega)]))
    · rw [decide_eq_false h60]
      refine Ev_succ ?_
      simp only [redactorlaw01_Cells.j1]
      exact Ev_no (by simp) (Ev_done (by rw [show 60 - p.length = 0 from by omega]; simp))
/-- At most sixty of the choices, each what it stands for. -/
def cellsOf (l : List Int) : List Int := (l.take 60).map cellOf
theorem cells_ev (l : List Int) (hl : ∀ x ∈ l, 0 ≤ x ∧ x < 256) (hn : l.length < 9223372036854775807) : Ev (fun k => redactorlaw01_Cells.f k l) (cellsOf l) := by
  unfold redactorlaw01_Cells.f cellsOf
  have := cells_ev0 l [] [] hl rfl (by simp) (by simpa using hn)
  simpa using this
theorem cellsOf_length (l : List Int) : (cellsOf l).length ≤ 60 := by
  unfold cellsOf
  rw [List.length_map, List.length_take]
  omega
end Go.Proofs.YtcppmghhijffpaaDoor.Tie
