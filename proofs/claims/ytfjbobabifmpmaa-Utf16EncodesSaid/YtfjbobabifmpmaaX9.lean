-- Written by xprint.py (a program of this claim's author) out of the translation. Not trusted: Lean checks it.
import Derived.Test.YtfjbobabifmpmaaX0
namespace Go.Proofs.Ytfjbobabifmpmaa.X
open Go.RowKit Go.Proofs.YtfjbobabifmpmaaW.PrintWords Go.Proofs.YtfjbobabifmpmaaW.PrintLast Go.Proofs.YtfjbobabifmpmaaW.PrintMore
attribute [local go_sem] max2_int min2_int max_two min_two max_three min_three max_four min_four   -- for this text's walks alone
set_option linter.unusedVariables false
set_option linter.unusedSimpArgs false

/-! ### redactorref03_unit: function 24 -/
def redactorref03_unit.f (a0 : Int) (a1 : Int) (a2 : Bool) : Option (Int) := if a2 = true then (some (wrap32 ((wrap32 ((wrap32 (a0)) * 256)) + (wrap32 (a1))))) else (some (wrap32 ((wrap32 ((wrap32 (a1)) * 256)) + (wrap32 (a0)))))
set_option maxHeartbeats 8000000 in
set_option maxRecDepth 100000 in
theorem redactorref03_unit.calls (a0 : Int) (a1 : Int) (a2 : Bool) (r : Int) (w : World) (h : redactorref03_unit.f a0 a1 a2 = some r) :
    Calls Try.prog 24 #[.int .u8 a0, .int .u8 a1, .bool a2] w fun e w' => e = .returned (.int .i32 r) ∧ Drawn0 w w' := by
  have H : (if a2 = true then (some (wrap32 ((wrap32 ((wrap32 (a0)) * 256)) + (wrap32 (a1))))) else (some (wrap32 ((wrap32 ((wrap32 (a1)) * 256)) + (wrap32 (a0)))))) = some r := h
  clear h
  by_cases c4 : a2 = true
  · subst c4
    have H1 : (some (wrap32 ((wrap32 ((wrap32 (a0)) * 256)) + (wrap32 (a1))))) = some r := by rw [if_pos rfl] at H; exact H
    clear H
    have H := H1
    clear H1
    obtain rfl := Option.some.inj H
    go_enter Try.func24, Try.ntmps24
    go_wp2
    go_ret
    exact ⟨by first | rfl | (simp; done) | (simp [*]; done), by repeat (first | exact Drawn0.refl _ | apply Drawn0.step)⟩
  · replace c4 := Bool.eq_false_iff.mpr c4
    subst c4
    have H1 : (some (wrap32 ((wrap32 ((wrap32 (a1)) * 256)) + (wrap32 (a0))))) = some r := by rw [if_neg (show ¬ (false = true) by decide)] at H; exact H
    clear H
    have H := H1
    clear H1
    obtain rfl := Option.some.inj H
    go_enter Try.func24, Try.ntmps24
    go_wp2
    go_ret
    exact ⟨by first | rfl | (simp; done) | (simp [*]; done), by repeat (first | exact Drawn0.refl _ | apply Drawn0.step)⟩

end Go.Proofs.Ytfjbobabifmpmaa.X
