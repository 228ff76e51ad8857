import Derived.Test.YtcppmghhijffpaaDoorShelf
import Derived.Lib.LaidTab
import Derived.Lib.LaidU8T
import Derived.Below
import Derived.Shelf.Unicode.DecodeSlow
import Derived.KernelRfl
import Derived.Test.YtcppmghhijffpaaDoorWMore
/-! The library's tables as they are laid: what a contract that reads them asks of its world. -/
namespace Go.Proofs.YtcppmghhijffpaaDoorW.PrintMore
open Go.Shelf Go.RowKit
theorem tab_below {P : Program} {n : String} {g : Nat} {k : IntKind} {zs : List Int} {w w' : World} (hg : P.globalNamed n = some g) (h : Lib.TabIs P w n k zs) (hb : Below w.heap.size w w') : Lib.TabIs P w' n k zs := by
  simp only [Lib.TabIs, World.var?, hg, Option.bind_some] at h ⊢
  have hlt : g < w.heap.size := by
    by_cases h' : g < w.heap.size
    · exact h'
    · rw [Array.getElem?_eq_none (by omega)] at h
      cases h
  rw [hb.block g hlt]
  exact h
def deBruijn64 : List Int := [0, 1, 56, 2, 57, 49, 28, 3, 61, 58, 42, 50, 38, 29, 17, 4, 62, 47, 59, 36, 45, 43, 51, 22, 53, 39, 33, 30, 24, 18, 12, 5, 63, 55, 48, 27, 60, 41, 37, 16, 46, 35, 44, 21, 52, 32, 23, 11, 54, 26, 40, 15, 34, 20, 31, 10, 25, 14, 19, 9, 13, 8, 7, 6]
/-- The numbers' own tables. -/
def Tabs1 (w : World) : Prop := Lib.TabIs Tryd.prog w "math/bits.deBruijn64tab" .u8 deBruijn64 ∧ Lib.TabIs Tryd.prog w "internal/strconv.uint64pow10" .u64 Lib.pow10Tab
/-- And those of UTF-8. -/
def Tabs2 (w : World) : Prop := Tabs1 w ∧ Lib.Utf8Tabs 0 1 w
theorem gBruijn : Tryd.prog.globalNamed "math/bits.deBruijn64tab" = some 4 := by kernel_rfl
theorem gPow : Tryd.prog.globalNamed "internal/strconv.uint64pow10" = some 2 := by kernel_rfl
theorem Tabs1.below {w w' : World} (h : Tabs1 w) (hb : Below w.heap.size w w') : Tabs1 w' := ⟨tab_below gBruijn h.1 hb, tab_below gPow h.2 hb⟩
theorem Tabs2.to1 {w : World} (h : Tabs2 w) : Tabs1 w := h.1
theorem Tabs2.below {w w' : World} (h : Tabs2 w) (hb : Below w.heap.size w w') : Tabs2 w' := ⟨h.1.below hb, Utf8Tabs_below h.2 hb⟩
end Go.Proofs.YtcppmghhijffpaaDoorW.PrintMore
