import Derived.Test.YtcppmghhijffpaaDoorCards
import Derived.JoinedCond
import Derived.KernelRfl
import Derived.ProofKit
/-! The program's own closed facts, each apart (all at once are too much for the kernel); and how a row's are put together. -/
namespace Go.Proofs.YtcppmghhijffpaaDoor.Facts
open Go.ChangeShapes Go.WideShapes Go.ChangeAt Go.RowKit
theorem laid_out : laidOutB Tryd.prog = true := by kernel_rfl
theorem may_enter : Tryd.prog.mayEnter = true := by kernel_rfl
theorem lifts : (Rows.cellBytesRow.lifted == Tryd.prog.liftsFinal) = true := by kernel_rfl
theorem makes : (Tryd.prog.make == some Rows.cellBytesRow.make) = true := by kernel_rfl
theorem main_is : Tryd.prog.mainIs = some (true, "f954e6444df4a14c0be0583b896a1f3a77184345c5b88656ba799b4bcfa01caf".toList) := by kernel_rfl
theorem and_all (b0 b1 b2 b3 b4 b5 b6 b7 b8 b9 b10 b11 b12 b13 b14 b15 b16 b17 b18 b19 b20 b21 b22 b23 b24 b25 b26 b27 b28 b29 b30 b31 : Bool) (h : (b0 && b2 && b3 && b4 && b5 && b6 && b7 && b8 && b9 && b10 && b11 && b12 && b13 && b14 && b15 && b16 && b17 && b18 && b19 && b20 && b21 && b22 && b23 && b24 && b28 && b29 && b30 && b31) = true) (h1 : b1 = true) (h25 : b25 = true) (h26 : b26 = true) (h27 : b27 = true) : (b0 && b1 && b2 && b3 && b4 && b5 && b6 && b7 && b8 && b9 && b10 && b11 && b12 && b13 && b14 && b15 && b16 && b17 && b18 && b19 && b20 && b21 && b22 && b23 && b24 && b25 && b26 && b27 && b28 && b29 && b30 && b31) = true := by
  subst h1 h25 h26 h27
  simp only [Bool.and_true]
  exact h
end Go.Proofs.YtcppmghhijffpaaDoor.Facts
