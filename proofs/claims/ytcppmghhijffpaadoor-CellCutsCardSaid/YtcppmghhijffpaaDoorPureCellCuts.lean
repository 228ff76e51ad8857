/- What is cut at a place is, one part behind the other, what it was; parts are new memory: for every input. -/
import Derived.Test.YtcppmghhijffpaaDoorFindTie
import Derived.Test.YtcppmghhijffpaaDoorX15
namespace Go.Proofs.YtcppmghhijffpaaDoor.Pure
open Go.RowKit Go.Proofs.YtcppmghhijffpaaDoor.X Go.Proofs.YtcppmghhijffpaaDoorW.PrintWords Go.Proofs.YtcppmghhijffpaaDoorW.PrintMore Go.Proofs.YtcppmghhijffpaaDoor.Tie
theorem CellCuts : redactorlaw01_CellCuts.Pure := by
  intro l0 a1 _ n0 h0 h1
  simp only [Lit.wf, Bool.and_eq_true, decide_eq_true_eq, show IntKind.u8.min = 0 from rfl, show IntKind.u8.max = 255 from rfl] at h1
  refine Ev.rounds ?_
  have e0 := cellsOf_length l0
  have c0 := cells_ev l0 (bytes_of h0) (by omega)
  unfold redactorlaw01_CellCuts.f
  refine Ev.bind c0 ?_
  generalize hx : cellsOf l0 = x at e0 c0 ⊢
  obtain ⟨at_, hat⟩ : ∃ n : Nat, a1 % ((x.length : Int) + 1) = (n : Int) := ⟨(a1 % ((x.length : Int) + 1)).toNat, by have := Int.emod_nonneg a1 (show (x.length : Int) + 1 ≠ 0 by omega); omega⟩
  have hle : at_ ≤ x.length := by
    have := Int.emod_lt_of_pos a1 (show (0 : Int) < (x.length : Int) + 1 by omega)
    omega
  rw [w64 (n := a1) (by omega) (by omega), w64 (n := (x.length : Int) + 1) (by omega) (by omega), Int.tmod_eq_emod_of_nonneg h1.1, hat]
  rw [w64 (n := (x.length : Int) - (at_ : Int)) (by omega) (by omega)]
  have cA : cell_Cut.f x 0 (at_ : Int) = some (x.take at_, 0) := by
    have := cut_in x 0 at_ (by omega) (by omega) hle
    simpa using this
  have cB : cell_Cut.f x (at_ : Int) (x.length : Int) = some (x.drop at_, 0) := by
    have := cut_in x at_ x.length (by omega) hle (by omega)
    simpa using this
  refine Ev_no (by omega) (Ev_let cA (Ev_let cB (Ev_yes (by simp; omega) ?_)))
  have hbne : (((x.drop at_, (0 : Int)).1.length : Int) != (x.length : Int) - (at_ : Int)) = false := by
    rw [bne_eq_false_iff_eq]
    simp
    omega
  rw [hbne]
  refine Ev_succ ?_
  simp only [redactorlaw01_CellCuts.j0]
  have fin : Ev (fun k => (redactorlaw01_known.f k).bind fun t323 => (if t323 = true then (if (0 : Int) = 0 then (if (0 : Int) = 0 then (if true = true then ((redactorlaw01_Cells.f k l0).bind fun t324 => ((redactorref01_Same.f k x t324).bind fun t327 => (some t327))) else (some false)) else (some false)) else (some false)) else (some false))) true :=
    Ev.bind known_ev (Ev_yes rfl (Ev_yes rfl (Ev_yes rfl (Ev_yes rfl (Ev.bind c0 (Ev.bind (same_ev x x (by omega)) (Ev_done (decide_eq_true rfl))))))))
  have sm : Ev (fun k => redactorref01_Same.f k (x.take at_ ++ x.drop at_) x) true := by
    have := same_ev (x.take at_ ++ x.drop at_) x (by rw [List.take_append_drop]; omega)
    rwa [decide_eq_true (List.take_append_drop at_ x)] at this
  refine Ev_no (by simp) (Ev_yes (by simp; omega) (Ev_let rfl (Ev_yes (by simp; omega) (Ev.bind sm ?_))))
  by_cases hp : ((x.take at_).length : Int) > 0
  · exact Ev_yes hp (Ev_yes hp fin)
  · exact Ev_no hp fin
end Go.Proofs.YtcppmghhijffpaaDoor.Pure
