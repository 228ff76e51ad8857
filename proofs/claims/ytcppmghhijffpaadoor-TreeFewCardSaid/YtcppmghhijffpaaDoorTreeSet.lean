import Derived.Test.YtcppmghhijffpaaDoorTreeFun
import Derived.Test.YtcppmghhijffpaaDoorTreeNode
import Derived.Laws.EntriesVeiled
/-! redactor/tree.set at a set of nothing; a node may be. -/
namespace Go.Proofs.YtcppmghhijffpaaDoorW.PrintMore
open Go.RowKit Go.Proofs.YtcppmghhijffpaaDoorW.PrintWords Go.Proofs.YtcppmghhijffpaaDoorW.PrintLast
set_option linter.unusedSimpArgs false
set_option linter.unusedVariables false
theorem index0_walk (A : Option Addr) (c : Nat) (fv : Value) (w : World) : Calls Tryd.prog 122 #[.slice A 0 c, fv] w fun e w' => e = .returned (.int .i64 (-1)) ∧ w = w' := by
  go_enter Tryd.func122, Tryd.ntmps122
  go_wp2
  go_loopg [8] 0 (fun k v8 wr => v8 = .int .i64 0 ∧ k = 0 ∧ wr = w)
  case atStart => exact ⟨rfl, rfl, rfl⟩
  case round =>
    obtain ⟨rfl, rfl, rfl⟩ := hrel
    go_wp2
    go_ret
    exact ⟨rfl, rfl⟩
theorem contains0_walk (A : Option Addr) (c : Nat) (g : FuncId) (cap : Array Value) (w : World) : Calls Tryd.prog 109 #[.slice A 0 c, .func (.func g) #[] cap] w fun e w' => e = .returned (.bool false) ∧ w = w' := by
  go_enter Tryd.func109, Tryd.ntmps109
  go_wp2_with (go_at_call 122; refine (index0_walk A c _ _).mono ?_; rintro e w' ⟨rfl, rfl⟩)
  go_ret
  exact ⟨by first | rfl | simp, rfl⟩
set_option maxHeartbeats 4000000 in
theorem tset0_walk (nt : Bool) (A3 A4 : Option Addr) (c3 c4 : Nat) (w : World) : Calls Tryd.prog 92 #[.agg #[.bool nt, .slice A3 0 c3, .slice A4 0 c4]] w fun e w' => e = .returned (.bool true) ∧ Below w.heap.size w w' := by
  go_enter Tryd.func92, Tryd.ntmps92
  go_wp2
  go_loopg [9] 0 (fun k v9 wr => v9 = .int .i64 0 ∧ k = 0 ∧ Below w.heap.size w wr ∧ wr.cell? ⟨w.heap.size, 1, none⟩ = some (.slice A3 0 c3) ∧ wr.cell? ⟨w.heap.size, 2, none⟩ = some (.slice A4 0 c4))
  case atStart =>
    have hk : ((w.alloc (.cells #[.bool nt, .slice A3 0 c3, .slice A4 0 c4] 58)).alloc (.cells #[.func (.func 108) #[] #[]] 43)).heap[w.heap.size]? = some (.cells #[.bool nt, .slice A3 0 c3, .slice A4 0 c4] 58 (0, 0)) :=
      (Below.heap_alloc _ _ _ (by simp)).trans (heap_alloc_new w _)
    exact ⟨rfl, rfl, ((Below.refl w.heap.size w).alloc (Nat.le_refl _) _).alloc (by simp) _, cell_blk hk 1, cell_blk hk 2⟩
  case round =>
    obtain ⟨rfl, rfl, hB, x1, x2⟩ := hrel
    go_wp2_with (go_at_call 109; refine (contains0_walk A4 c4 _ _ _).mono ?_; rintro e w' ⟨rfl, rfl⟩)
    go_ret
    exact ⟨by first | rfl | simp, hB⟩
end Go.Proofs.YtcppmghhijffpaaDoorW.PrintMore
