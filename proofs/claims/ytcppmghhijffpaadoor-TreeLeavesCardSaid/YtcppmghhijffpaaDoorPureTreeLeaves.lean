/- Each cell alone is a tree that may be, and no number that is none: for every number of a cell and every kind. -/
import Derived.Test.YtcppmghhijffpaaDoorX33
namespace Go.Proofs.YtcppmghhijffpaaDoor.Pure
open Go.RowKit Go.Proofs.YtcppmghhijffpaaDoor.X Go.Proofs.YtcppmghhijffpaaDoorW.PrintWords Go.Proofs.YtcppmghhijffpaaDoorW.PrintLast Go.Proofs.YtcppmghhijffpaaDoorW.PrintMore
theorem TreeLeaves : redactorlaw09_TreeLeaves.Pure := by
  intro a0 a1 h0 h1
  simp only [Lit.wf, Bool.and_eq_true, decide_eq_true_eq, show IntKind.u8.min = 0 from rfl, show IntKind.u8.max = 255 from rfl] at h1
  unfold redactorlaw09_TreeLeaves.f
  rw [if_pos h1.1, if_pos h1.2]
end Go.Proofs.YtcppmghhijffpaaDoor.Pure
