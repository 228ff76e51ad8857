/- A row, or either, of one is that one; of none nothing stands for it; what was laid stays: for every number of a cell of one byte. -/
import Derived.Test.YtcppmghhijffpaaDoorX84
namespace Go.Proofs.YtcppmghhijffpaaDoor.Pure
open Go.RowKit Go.Proofs.YtcppmghhijffpaaDoor.X Go.Proofs.YtcppmghhijffpaaDoorW.PrintWords Go.Proofs.YtcppmghhijffpaaDoorW.PrintLast Go.Proofs.YtcppmghhijffpaaDoorW.PrintMore
theorem TreeFew : redactorlaw09_TreeFew.Pure := by
  intro a0 h0
  simp only [Lit.wf, Bool.and_eq_true, decide_eq_true_eq, show IntKind.u8.min = 0 from rfl, show IntKind.u8.max = 255 from rfl] at h0
  unfold redactorlaw09_TreeFew.f
  rw [if_pos h0.1, if_pos h0.2]
end Go.Proofs.YtcppmghhijffpaaDoor.Pure
