-- Written by xprint.py (a program of this claim's author) out of the translation. Not trusted: Lean checks it.
import Derived.Test.YtcppmghhijffpaaDoorTreeFew
import Derived.Test.YtcppmghhijffpaaDoorX0
namespace Go.Proofs.YtcppmghhijffpaaDoor.X
open Go.RowKit Go.Proofs.YtcppmghhijffpaaDoorW.PrintWords Go.Proofs.YtcppmghhijffpaaDoorW.PrintLast Go.Proofs.YtcppmghhijffpaaDoorW.PrintMore
attribute [local go_sem] max2_int min2_int max_two min_two max_three min_three max_four min_four   -- for this text's walks alone
set_option linter.unusedVariables false
set_option linter.unusedSimpArgs false

/-! ### redactorlaw09_TreeFew: function 20 -/
def redactorlaw09_TreeFew.f (a0 : Int) : Option Bool := if 0 ≤ a0 then (if a0 ≤ 255 then some true else none) else none
theorem redactorlaw09_TreeFew.calls (a0 : Int) (r : Bool) (w : World) (ht : Tabs1 w) (h : redactorlaw09_TreeFew.f a0 = some r) :
    Calls Tryd.prog 20 #[.int .u8 a0] w fun e w' => e = .returned (.bool r) ∧ Below w.heap.size w w' := by
  unfold redactorlaw09_TreeFew.f at h
  by_cases h0 : 0 ≤ a0
  · rw [if_pos h0] at h
    by_cases h1 : a0 ≤ 255
    · rw [if_pos h1] at h
      obtain rfl := Option.some.inj h
      exact few_walk a0 h0 h1 w ht
    · rw [if_neg h1] at h
      cases h
  · rw [if_neg h0] at h
    cases h


/-- THE ONE PURE STATEMENT of redactorlaw09_TreeFew: yours. -/
def redactorlaw09_TreeFew.Pure : Prop := ∀ (a0 : Int), (Lit.int .u8 a0).wf = true → redactorlaw09_TreeFew.f a0 = some true
theorem redactorlaw09_TreeFew.walk (P : redactorlaw09_TreeFew.Pure) (a0 : Int) (w : World) (w0 : (Lit.int .u8 a0).wf = true) (ht : Tabs1 w) :
    Calls Tryd.prog 20 #[.int .u8 a0] w fun e w' => e = .returned (.bool true) ∧ Below w.heap.size w w' := by
  have h := P a0 w0
  refine (redactorlaw09_TreeFew.calls a0 true w ht h).mono ?_
  rintro e w' ⟨rfl, hd⟩
  exact ⟨rfl, hd⟩

end Go.Proofs.YtcppmghhijffpaaDoor.X
