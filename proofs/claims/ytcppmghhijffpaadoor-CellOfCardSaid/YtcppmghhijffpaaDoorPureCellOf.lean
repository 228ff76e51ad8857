/- Of any text, and what may be a cell, is what the chapter says: for every input. -/
import Derived.Test.YtcppmghhijffpaaDoorOfTie
import Derived.Test.YtcppmghhijffpaaDoorUtfTieS
import Derived.Test.YtcppmghhijffpaaDoorCellBase
import Derived.Test.YtcppmghhijffpaaDoorX20
namespace Go.Proofs.YtcppmghhijffpaaDoor.Pure
open Go.RowKit Go.Proofs.YtcppmghhijffpaaDoor.X Go.Proofs.YtcppmghhijffpaaDoorW.PrintWords Go.Proofs.YtcppmghhijffpaaDoorW.PrintMore Go.Proofs.YtcppmghhijffpaaDoor.Tie
theorem byte_both (c : Int) : ∃ p, cell_Byte.f c = some p ∧ redactorref01_Byte.f c = some p := by
  by_cases h : -256 ≤ c ∧ c < 0
  · exact ⟨_, cByte_yes c h.1 h.2, rByte_yes c h.1 h.2⟩
  · exact ⟨_, cByte_no c (by omega), rByte_no c (by omega)⟩
theorem CellOf : redactorlaw01_CellOf.Pure := by
  intro a0 a1 a2 a3 h0 _ h2 h3
  simp only [Lit.wf, Bool.and_eq_true, decide_eq_true_eq, show IntKind.u8.min = 0 from rfl, show IntKind.u8.max = 255 from rfl] at h2 h3
  refine Ev.rounds ?_
  have yes : Ev (fun k => redactorlaw01_CellOf.j0 k a0 a1 a2 a3 true) true := by
    refine Ev_succ ?_
    simp only [redactorlaw01_CellOf.j0]
    exact Ev_yes (by trivial) (Ev.bind known_ev (Ev_done rfl))
  unfold redactorlaw01_CellOf.f
  by_cases hs : (a0.size : Int) > 300
  · exact Ev_yes hs yes
  refine Ev_no hs (Ev.bind known_ev ?_)
  refine Ev_succ ?_
  simp only [redactorlaw01_CellOf.j0]
  have hlen := ofAll_length a0
  have ht : 0 ≤ Int.tmod a3 10 ∧ Int.tmod a3 10 < 10 := by
    rw [Int.tmod_eq_emod_of_nonneg (by omega)]
    omega
  refine Ev_no (by simp) (Ev_let rfl (Ev_yes ht.1 (Ev_yes (by simp; omega) ?_)))
  generalize wrap32 (rd [55295, 55296, 57343, 57344, 1114111, 1114112, (-256), (-257), 0, (-1)] (Int.tmod a3 10)) = d
  obtain ⟨p, cp, rp⟩ := byte_both a1
  obtain ⟨q, cq, rq⟩ := byte_both d
  refine Ev_let cp (Ev_let rp (Ev_let cq (Ev_let rq (Ev_let (cOf a0 (by omega)) (Ev.bind (rof_ev a0 (by omega)) (Ev.bind (same_ev _ _ (by omega)) (Ev_yes (by simp) ?_)))))))
  refine Ev_let (cRight a1) (Ev_let (rRight a1) (Ev_yes (by simp) (Ev_let (cRight d) (Ev_let (rRight d) (Ev_yes (by simp) (Ev_yes rfl (Ev_yes (by simp) (Ev_yes rfl (Ev_yes (by simp) ?_)))))))))
  exact Ev_let (cEsc a2 (by omega) (by omega)) (Ev_let (rEsc a2 (by omega) (by omega)) (Ev_done (by simp)))
end Go.Proofs.YtcppmghhijffpaaDoor.Pure
