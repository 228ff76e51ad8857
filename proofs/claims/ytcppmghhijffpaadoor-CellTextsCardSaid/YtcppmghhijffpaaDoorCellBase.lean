import Derived.Test.YtcppmghhijffpaaDoorX13
import Derived.Test.YtcppmghhijffpaaDoorX11
import Derived.Test.YtcppmghhijffpaaDoorX9
import Derived.Test.YtcppmghhijffpaaDoorEv
import Derived.KernelRfl
/-! What the statements on cells share: the chapter's example; one cell's functions. -/
namespace Go.Proofs.YtcppmghhijffpaaDoor.Tie
open Go.RowKit Go.Proofs.YtcppmghhijffpaaDoor.X Go.Proofs.YtcppmghhijffpaaDoorW.PrintWords Go.Proofs.YtcppmghhijffpaaDoorW.PrintMore
theorem known_is : redactorlaw01_known.f 40 = some true := by kernel_rfl
theorem known_ev : Ev (fun k => redactorlaw01_known.f k) true := Ev.of (fun k => redactorlaw01_known.mono k) known_is
theorem cEsc (a : Int) (h0 : 0 ≤ a) (h1 : a < 256) : cell_Escape.f a = some (-1 - a) := by
  unfold cell_Escape.f
  rw [w32 (by omega) (by omega), xor_all a (by omega) (by omega)]
theorem cByte_no (c : Int) (h : c < -256 ∨ 0 ≤ c) : cell_Byte.f c = some (0, false) := by
  unfold cell_Byte.f
  by_cases h0 : c ≥ 0
  · rw [if_pos h0]
  · rw [if_neg h0, if_pos (by omega)]
theorem cByte_yes (c : Int) (h0 : -256 ≤ c) (h1 : c < 0) : cell_Byte.f c = some (-1 - c, true) := by
  unfold cell_Byte.f
  rw [if_neg (by omega), if_neg (by omega), xor_all c (by omega) (by omega)]
  rw [show (-1 - c) % 256 = -1 - c from by omega]
theorem cRight (c : Int) : cell_Right.f c = some (isCell c) := by
  unfold cell_Right.f isCell
  by_cases h1 : c ≥ -256
  · rw [if_pos h1]
    by_cases h2 : c ≤ 1114111
    · rw [if_pos h2]
      by_cases h3 : c < 55296
      · rw [if_pos h3]
        simp [h2, h3]
        omega
      · rw [if_neg h3]
        simp [h2, h3]
        omega
    · rw [if_neg h2]
      simp [h2]
  · rw [if_neg h1]
    simp
    omega
end Go.Proofs.YtcppmghhijffpaaDoor.Tie
