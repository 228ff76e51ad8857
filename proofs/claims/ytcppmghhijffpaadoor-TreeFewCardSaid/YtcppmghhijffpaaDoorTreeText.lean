import Derived.Test.YtcppmghhijffpaaDoorTreePrint
/-! redactor/tree.Print. -/
namespace Go.Proofs.YtcppmghhijffpaaDoorW.PrintMore
open Go.RowKit Go.Proofs.YtcppmghhijffpaaDoorW.PrintWords Go.Proofs.YtcppmghhijffpaaDoorW.PrintLast Go.Proofs.YtcppmghhijffpaaDoor.X
set_option linter.unusedSimpArgs false
set_option linter.unusedVariables false
/-- The text of node k; its kids are nodes ahead of it. -/
def prN (setTxt : S58 → List UInt8) (ns : List S60) : Nat → Int → List UInt8
  | 0, _ => []
  | f + 1, k => nodeTxt setTxt (prN setTxt ns f) (rd_T60 ns k)
/-- Each node's numbers are numbers, its kids stand ahead of it. -/
def Ahead (ns : List S60) : Prop := ∀ i : Int, 0 ≤ i → i < ns.length → (In64 (rd_T60 ns i).f3 ∧ In64 (rd_T60 ns i).f4 ∧ In64 (rd_T60 ns i).f5) ∧ ∀ k ∈ (rd_T60 ns i).f6, 0 ≤ k ∧ k < i
theorem nodes_ok (w0 : World) (b : Nat) (A : Option Addr) (c : Nat) (ns : List S60) (g : Int) (hr : Kd.C k60 w0 A ns.length ns) (ht : Tabs1 w0) (setTxt : S58 → List UInt8) (ha : Ahead ns)
    (hs : ∀ i : Int, 0 ≤ i → i < ns.length → (rd_T60 ns i).f0 = 3 → SetOk w0 b (.slice A ns.length c) g (rd_T60 ns i).f2 (setTxt (rd_T60 ns i).f2)) :
    ∀ (f : Nat) (k : Int), 0 ≤ k → k < ns.length → k < f → NodeOk w0 b (.slice A ns.length c) g (rd_T60 ns k) (prN setTxt ns f k)
  | 0, k, h0, _, h2 => by omega
  | f + 1, k, h0, h1, h2 => by
    obtain ⟨⟨h3, h4, h5⟩, hk⟩ := ha k h0 h1
    exact node_walk w0 b A c ns g hr ht setTxt (prN setTxt ns f) (rd_T60 ns k) h3 h4 h5 (fun q hq => ⟨(hk q hq).1, by have := (hk q hq).2; omega⟩)
      (fun q hq => nodes_ok w0 b A c ns g hr ht setTxt ha hs f q (hk q hq).1 (by have := (hk q hq).2; omega) (by have := (hk q hq).2; omega)) (hs k h0 h1)
/-- A tree's text, if it may be. -/
def printL (setTxt : S58 → List UInt8) (ns : List S60) (r : Bool) : List UInt8 := if r = true then prN setTxt ns ns.length ((ns.length : Int) - 1) else []
theorem prN_some {setTxt : S58 → List UInt8} {kid : Int → List UInt8} {x : S60} (h : x.f0 = 1 ∨ x.f0 = 2) : nodeTxt setTxt kid x ≠ [] := by
  unfold nodeTxt
  rcases h with h | h <;> simp [h]
set_option maxHeartbeats 8000000 in
set_option maxRecDepth 100000 in
theorem tprint_walk (A : Option Addr) (c : Nat) (ns : List S60) (g : Int) (w : World) (setTxt : S58 → List UInt8) (r : Bool) (hr : Kd.C k60 w A ns.length ns) (ht : Tabs1 w)
    (hright : ∀ W : World, Below w.heap.size w W → Calls Tryd.prog 45 #[.agg #[.slice A ns.length c, .int .i64 g]] W fun e w' => e = .returned (.bool r) ∧ Below W.heap.size W w')
    (h1 : r = true → 1 ≤ ns.length ∧ ns.length ≤ 200) (ha : r = true → Ahead ns)
    (hs : r = true → ∀ (b : Nat) (i : Int), 0 ≤ i → i < ns.length → (rd_T60 ns i).f0 = 3 → SetOk w b (.slice A ns.length c) g (rd_T60 ns i).f2 (setTxt (rd_T60 ns i).f2))
    (hlen : (printL setTxt ns r).length ≤ 140737488355328) (hsome : r = true → printL setTxt ns r ≠ []) :
    Calls Tryd.prog 67 #[.agg #[.slice A ns.length c, .int .i64 g]] w fun e w' => e = .returned (.string ⟨(printL setTxt ns r).toArray⟩) ∧ Below w.heap.size w w' := by
  cases r
  · clear h1 ha hs hlen hr hsome
    have HR := Aside0.mk hright
    clear hright
    go_enter Tryd.func67, Tryd.ntmps67
    go_wp2_with (go_at_call 45; refine (HR.out _ ((Below.refl _ w).alloc (Nat.le_refl _) _)).mono ?_; rintro e w1 ⟨rfl, hb1⟩; have HB1 := Aside0.mk (((Below.refl w.heap.size w).alloc (Nat.le_refl _) _).trans (hb1.mono (by simp))); clear hb1)
    go_ret
    exact ⟨rfl, HB1.out⟩
  · obtain ⟨m, hm⟩ : ∃ m, ns.length = m + 1 := ⟨ns.length - 1, by have := h1 rfl; omega⟩
    have hmu := (h1 rfl).2
    obtain ⟨ad, A3, c3, A4, c4, A8', c8', rfl, x0, x1, x2, x3, x4, x5, x6, x7, x8, l3, i3, l4, i4, l8, i8⟩ := at_T60 hr (m : Int) (by omega) (by omega)
    have hpr : printL setTxt ns true = prN setTxt ns (m + 1) (m : Int) := by
      unfold printL
      rw [if_pos rfl, hm, show ((m + 1 : Nat) : Int) - 1 = (m : Int) by omega]
    rw [hpr] at hlen hsome
    have HPR := Aside0.mk hpr
    have HSO := Aside0.mk (hsome rfl)
    have HCS := Aside0.mk (k60_mk w (rd_T60 ns m) l3 i3 l4 i4 l8 i8)
    have HHX := Aside0.mk (And.intro x0 (And.intro x1 (And.intro x2 (And.intro x3 (And.intro x4 (And.intro x5 (And.intro x6 (And.intro x7 x8))))))))
    have HN := Aside0.mk (fun b => nodes_ok w b (some ad) c ns g hr ht setTxt (ha rfl) (hs rfl b) (m + 1) (m : Int) (by omega) (by omega) (by omega))
    have HR := Aside0.mk hright
    have HLEN := Aside0.mk hlen
    have HIX := Aside0.mk (show (m : Int).toNat * 9 = (ns.length - 1) * 9 by omega)
    have q0 : (m < ns.length) = True := eq_true (by omega)
    have q1 : ((m : Int) < (ns.length : Int)) = True := eq_true (by omega)
    have qi0 : (0 ≤ (ns.length : Int) - 1) = True := eq_true (by omega)
    have qi1 : ((ns.length : Int) - 1 < (ns.length : Int)) = True := eq_true (by omega)
    have qi2 : (1 ≤ (ns.length : Int)) = True := eq_true (by omega)
    have qi3 : (1 ≤ ns.length) = True := eq_true (by omega)
    have qi4 : (ns.length = 0) = False := eq_false (by omega)
    have qw : wrap64 ((ns.length : Int) - 1) = (m : Int) := by rw [w64' _ (by omega) (by omega)]; omega
    clear h1 ha hs hlen hright hr ht x0 x1 x2 x3 x4 x5 x6 x7 x8 l3 i3 l4 i4 l8 i8 hsome hpr hm
    go_enter Tryd.func67, Tryd.ntmps67
    go_wp2_with (first | (go_at_call 45; refine (HR.out _ ((Below.refl _ w).alloc (Nat.le_refl _) _)).mono ?_; rintro e w1 ⟨rfl, hb1⟩; have HB1 := Aside0.mk (((Below.refl w.heap.size w).alloc (Nat.le_refl _) (.cells #[.slice (some ad) ns.length c, .int .i64 g] 63)).trans (hb1.mono (by simp))); have hx1 := (hb1.block _ (by simp)).trans (heap_alloc_new w (.cells #[.slice (some ad) ns.length c, .int .i64 g] 63)); have y0 := cell_blk hx1 0; have y1 := cell_blk hx1 1; simp only [List.getElem?_toArray, List.getElem?_cons_zero, List.getElem?_cons_succ] at y0 y1; have HX1 := Aside0.mk hx1; have y0b := fun o : Obj => (Below.cell ((Below.refl _ w1).alloc (Nat.le_refl _) o) (p := ⟨w.heap.size, 0, none⟩) (lt_of_block hx1)).trans y0; have x0 := fun o : Obj => ((HB1.out.alloc HB1.out.size o).cell (World.block_lt_of_cell? w _ HHX.out.1)).trans HHX.out.1; have x1 := fun o : Obj => ((HB1.out.alloc HB1.out.size o).cell (World.block_lt_of_cell? w _ HHX.out.2.1)).trans HHX.out.2.1; have x2 := fun o : Obj => ((HB1.out.alloc HB1.out.size o).cell (World.block_lt_of_cell? w _ HHX.out.2.2.1)).trans HHX.out.2.2.1; have x3 := fun o : Obj => ((HB1.out.alloc HB1.out.size o).cell (World.block_lt_of_cell? w _ HHX.out.2.2.2.1)).trans HHX.out.2.2.2.1; have x4 := fun o : Obj => ((HB1.out.alloc HB1.out.size o).cell (World.block_lt_of_cell? w _ HHX.out.2.2.2.2.1)).trans HHX.out.2.2.2.2.1; have x5 := fun o : Obj => ((HB1.out.alloc HB1.out.size o).cell (World.block_lt_of_cell? w _ HHX.out.2.2.2.2.2.1)).trans HHX.out.2.2.2.2.2.1; have x6 := fun o : Obj => ((HB1.out.alloc HB1.out.size o).cell (World.block_lt_of_cell? w _ HHX.out.2.2.2.2.2.2.1)).trans HHX.out.2.2.2.2.2.2.1; have x7 := fun o : Obj => ((HB1.out.alloc HB1.out.size o).cell (World.block_lt_of_cell? w _ HHX.out.2.2.2.2.2.2.2.1)).trans HHX.out.2.2.2.2.2.2.2.1; have x8 := fun o : Obj => ((HB1.out.alloc HB1.out.size o).cell (World.block_lt_of_cell? w _ HHX.out.2.2.2.2.2.2.2.2)).trans HHX.out.2.2.2.2.2.2.2.2; simp only [HIX.out] at x0 x1 x2 x3 x4 x5 x6 x7 x8; have HPP := Aside0.mk (show PS w w1.heap.size (.slice (some ad) ns.length c) g [] (w1.alloc (.cells #[.pointer none, .slice none 0 0, .slice (some ad) ns.length c, .int .i64 g] 123)) from ⟨Or.inl ⟨HB1.out.size, _, heap_alloc_new w1 _, World.ownsRow_nil _ _ _ _⟩, HB1.out.alloc HB1.out.size _⟩); clear hb1 hx1) | (go_at_call 90; refine (HN.out w1.heap.size [] _ _ HPP.out HCS.out (by have := HLEN.out; simpa using this)).mono ?_; rintro e w2 ⟨rfl, hp2, hf2⟩; have HP2 := Aside0.mk hp2; clear hp2 hf2) | (go_at_call 63; refine (pb_done w.heap.size w1.heap.size (.slice (some ad) ns.length c) g (prN setTxt ns (m + 1) (m : Int)) _ HP2.out.p HSO.out).mono ?_; rintro e w3 ⟨rfl, hb3⟩))
    go_ret
    rw [HPR.out]
    exact ⟨rfl, HP2.out.b.trans hb3⟩
end Go.Proofs.YtcppmghhijffpaaDoorW.PrintMore
