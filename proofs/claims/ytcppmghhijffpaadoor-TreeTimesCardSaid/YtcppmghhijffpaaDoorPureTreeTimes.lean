/- A node is repeated from 0 times on, 255 at most, or any number of times: for every two numbers. -/
import Derived.Test.YtcppmghhijffpaaDoorX33
namespace Go.Proofs.YtcppmghhijffpaaDoor.Pure
open Go.RowKit Go.Proofs.YtcppmghhijffpaaDoor.X Go.Proofs.YtcppmghhijffpaaDoorW.PrintWords Go.Proofs.YtcppmghhijffpaaDoorW.PrintLast Go.Proofs.YtcppmghhijffpaaDoorW.PrintMore
theorem times_right (a b : Int) : rightL [(⟨2, 0, (⟨false, ([] : List (S105)), ([] : List (List Int))⟩ : S58), 0, 0, 0, ([] : List Int)⟩ : S60), (⟨10, 0, (⟨false, ([] : List (S105)), ([] : List (List Int))⟩ : S58), 0, a, b, (([0] : List Int))⟩ : S60)] 0
    = (decide (0 ≤ a) && decide (a ≤ 255) && ((b == -1) || (decide (a ≤ b) && decide (b ≤ 255)))) := by
  have h2 : nodeOf (⟨10, 0, (⟨false, ([] : List (S105)), ([] : List (List Int))⟩ : S58), 0, a, b, (([0] : List Int))⟩ : S60) 0 = (decide (0 ≤ a) && decide (a ≤ 255) && ((b == -1) || (decide (a ≤ b) && decide (b ≤ 255)))) := by
    unfold nodeOf nodeB
    simp
  have h1 : nodeOf (⟨2, 0, (⟨false, ([] : List (S105)), ([] : List (List Int))⟩ : S58), 0, 0, 0, ([] : List Int)⟩ : S60) 0 = true := rfl
  cases h : (decide (0 ≤ a) && decide (a ≤ 255) && ((b == -1) || (decide (a ≤ b) && decide (b ≤ 255))))
  · rw [h] at h2
    simp [rightL, rightGo, h1, h2, kidsGo]
  · rw [h] at h2
    simp [rightL, rightGo, h1, h2, kidsGo, numGo, rightEnd, wrap64]
theorem times_f (a b : Int) : tree_Right.f [(⟨2, 0, (⟨false, ([] : List (S105)), ([] : List (List Int))⟩ : S58), 0, 0, 0, ([] : List Int)⟩ : S60), (⟨10, 0, (⟨false, ([] : List (S105)), ([] : List (List Int))⟩ : S58), 0, a, b, (([0] : List Int))⟩ : S60)] 0 = some (rightL [(⟨2, 0, (⟨false, ([] : List (S105)), ([] : List (List Int))⟩ : S58), 0, 0, 0, ([] : List Int)⟩ : S60), (⟨10, 0, (⟨false, ([] : List (S105)), ([] : List (List Int))⟩ : S58), 0, a, b, (([0] : List Int))⟩ : S60)] 0) := by
  unfold tree_Right.f
  exact if_pos rfl
theorem TreeTimes : redactorlaw09_TreeTimes.Pure := by
  intro a0 a1 h0 h1
  simp only [Lit.wf, Bool.and_eq_true, decide_eq_true_eq, show IntKind.i16.min = -32768 from rfl, show IntKind.i16.max = 32767 from rfl] at h0 h1
  have w0 : wrap64 a0 = a0 := by unfold wrap64; omega
  have w1 : wrap64 a1 = a1 := by unfold wrap64; omega
  unfold redactorlaw09_TreeTimes.f redactorlaw09_known.f
  rw [Option.bind_some, if_pos rfl, w0, w1]
  rw [times_f, Option.bind_some, times_right]
  by_cases c0 : a0 ≥ 0
  · by_cases c1 : a0 ≤ 255
    · by_cases c2 : a1 = -1
      · simp [c0, c1, c2]
      · by_cases c3 : a1 ≥ a0
        · by_cases c4 : a1 ≤ 255
          · simp [c0, c1, c2, c3, c4]
          · simp [c0, c1, c2, c3, c4]
        · simp [c0, c1, c2, c3]
    · simp [c0, c1]
  · simp [c0]
end Go.Proofs.YtcppmghhijffpaaDoor.Pure
