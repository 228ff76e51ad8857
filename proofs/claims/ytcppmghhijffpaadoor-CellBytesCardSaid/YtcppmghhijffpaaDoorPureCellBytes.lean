/- Each byte has one escape, that is a cell, and is told back; no scalar is a byte's: for every input. -/
import Derived.Test.YtcppmghhijffpaaDoorCellBase
import Derived.Test.YtcppmghhijffpaaDoorX26
namespace Go.Proofs.YtcppmghhijffpaaDoor.Pure
open Go.RowKit Go.Proofs.YtcppmghhijffpaaDoor.X Go.Proofs.YtcppmghhijffpaaDoorW.PrintWords Go.Proofs.YtcppmghhijffpaaDoorW.PrintMore Go.Proofs.YtcppmghhijffpaaDoor.Tie
theorem CellBytes : redactorlaw01_CellBytes.Pure := by
  intro a0 a1 a2 h0 h1 h2
  simp only [Lit.wf, Bool.and_eq_true, decide_eq_true_eq, show IntKind.u8.min = 0 from rfl, show IntKind.u8.max = 255 from rfl] at h0 h1
  refine ⟨40, ?_⟩
  have hr : isCell (-1 - a0) = true := by
    unfold isCell
    simp
    omega
  have hd : ((-1 - a1 == -1 - a0) == (a0 == a1)) = true := by
    by_cases h : a0 = a1
    · subst h
      simp
    · have e1 : (a0 == a1) = false := beq_eq_false_iff_ne.mpr h
      have e2 : (-1 - a1 == -1 - a0) = false := beq_eq_false_iff_ne.mpr (by omega)
      rw [e1, e2]
      rfl
  unfold redactorlaw01_CellBytes.f
  rw [cEsc a0 h0.1 (by omega), Option.bind_some, cByte_yes (-1 - a0) (by omega) (by omega), Option.bind_some]
  by_cases hc : -256 ≤ a2 ∧ a2 < 0
  · have hr2 : isCell a2 = true := by
      unfold isCell
      simp
      omega
    rw [cByte_yes a2 hc.1 hc.2, Option.bind_some, known_is, Option.bind_some, if_pos rfl, if_pos rfl, if_pos (by show -1 - (-1 - a0) = a0; omega), if_pos (by omega), cRight, Option.bind_some, if_pos hr, cEsc a1 h1.1 (by omega), Option.bind_some, if_pos hd, if_pos hc.2, if_pos rfl, cRight, Option.bind_some, hr2]
  · rw [cByte_no a2 (by omega), Option.bind_some, known_is, Option.bind_some, if_pos rfl, if_pos rfl, if_pos (by show -1 - (-1 - a0) = a0; omega), if_pos (by omega), cRight, Option.bind_some, if_pos hr, cEsc a1 h1.1 (by omega), Option.bind_some, if_pos hd]
    by_cases h : a2 < 0
    · rw [if_pos h, if_neg (by simp)]
    · rw [if_neg h, if_neg (by simp)]
end Go.Proofs.YtcppmghhijffpaaDoor.Pure
