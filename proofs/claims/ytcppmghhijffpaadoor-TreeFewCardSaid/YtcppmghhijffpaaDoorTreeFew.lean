import Derived.Test.YtcppmghhijffpaaDoorTreeKnown
/-! redactorlaw09.TreeFew. -/
namespace Go.Proofs.YtcppmghhijffpaaDoorW.PrintMore
open Go.RowKit Go.Proofs.YtcppmghhijffpaaDoorW.PrintWords Go.Proofs.YtcppmghhijffpaaDoorW.PrintLast Go.Proofs.YtcppmghhijffpaaDoor.X
set_option linter.unusedSimpArgs false
set_option linter.unusedVariables false
theorem several_one (b : Nat) (k x : Int) (a cc : Nat) (w : World) (h : w.cell? ⟨a, 0, none⟩ = some (.int .i64 x)) :
    Calls Tryd.prog 79 #[.pointer (some ⟨b, 0, none⟩), .int .u8 k, .slice (some ⟨a, 0, none⟩) 1 cc] w fun e w' => e = .returned (.int .i64 x) ∧ w = w' := by
  go_enter Tryd.func79, Tryd.ntmps79
  go_wp2_with fail
  go_ret
  exact ⟨rfl, rfl⟩
theorem row_one (b : Nat) (x : Int) (a cc : Nat) (w : World) (h : w.cell? ⟨a, 0, none⟩ = some (.int .i64 x)) :
    Calls Tryd.prog 50 #[.pointer (some ⟨b, 0, none⟩), .slice (some ⟨a, 0, none⟩) 1 cc] w fun e w' => e = .returned (.int .i64 x) ∧ w = w' := by
  go_enter Tryd.func50, Tryd.ntmps50
  go_wp2_with (go_at_call 79; refine (several_one b 8 x a cc _ h).mono ?_; rintro e w1 ⟨rfl, rfl⟩)
  go_ret
  exact ⟨rfl, rfl⟩
theorem either_one (b : Nat) (x : Int) (a cc : Nat) (w : World) (h : w.cell? ⟨a, 0, none⟩ = some (.int .i64 x)) :
    Calls Tryd.prog 51 #[.pointer (some ⟨b, 0, none⟩), .slice (some ⟨a, 0, none⟩) 1 cc] w fun e w' => e = .returned (.int .i64 x) ∧ w = w' := by
  go_enter Tryd.func51, Tryd.ntmps51
  go_wp2_with (go_at_call 79; refine (several_one b 9 x a cc _ h).mono ?_; rintro e w1 ⟨rfl, rfl⟩)
  go_ret
  exact ⟨rfl, rfl⟩
theorem several_none (k : Int) (B b : Nat) (bv : Value) (g : Int) (m : Nat) (xs : List Value) (w : World) (hb : w.heap[b]? = some (.cells #[bv, .int .i64 g] 110 (0, 0))) (hown : w.ownsRow B 60 9 bv m xs) (hB : B ≤ b) (hm : m ≤ 1000) :
    Calls Tryd.prog 79 #[.pointer (some ⟨b, 0, none⟩), .int .u8 k, .slice none 0 0] w fun e w' => e = .returned (.int .i64 m) ∧
      ∃ bv' kv', w'.heap[b]? = some (.cells #[bv', .int .i64 g] 110 (0, 0)) ∧ w'.ownsRow B 60 9 bv' (m + 1) (xs ++ nodeC 11 0 false 0 0 0 kv') ∧ w'.ownsRow w.heap.size 3 1 kv' 0 [] ∧ Below B w w' ∧ FrB w w' := by
  go_enter Tryd.func79, Tryd.ntmps79
  go_wp2_with (go_at_call 49; refine (leaf_walk B b 11 0 false 0 0 0 (.slice none 0 0) [] bv g m xs _ (by decide) (Or.inl ⟨rfl, rfl⟩) hb hown hB hm).mono ?_; rintro e w1 ⟨rfl, h1⟩)
  go_ret
  exact ⟨rfl, h1⟩
theorem row_none (B b : Nat) (bv : Value) (g : Int) (m : Nat) (xs : List Value) (w : World) (hb : w.heap[b]? = some (.cells #[bv, .int .i64 g] 110 (0, 0))) (hown : w.ownsRow B 60 9 bv m xs) (hB : B ≤ b) (hm : m ≤ 1000) :
    Calls Tryd.prog 50 #[.pointer (some ⟨b, 0, none⟩), .slice none 0 0] w fun e w' => e = .returned (.int .i64 m) ∧
      ∃ bv' kv', w'.heap[b]? = some (.cells #[bv', .int .i64 g] 110 (0, 0)) ∧ w'.ownsRow B 60 9 bv' (m + 1) (xs ++ nodeC 11 0 false 0 0 0 kv') ∧ w'.ownsRow w.heap.size 3 1 kv' 0 [] ∧ Below B w w' ∧ FrB w w' := by
  go_enter Tryd.func50, Tryd.ntmps50
  go_wp2_with (go_at_call 79; refine (several_none 8 B b bv g m xs _ hb hown hB hm).mono ?_; rintro e w1 ⟨rfl, h1⟩)
  go_ret
  exact ⟨rfl, h1⟩
def fewDs (c : Int) : List ND := [⟨1, c, false, 0, 0, 0, []⟩, ⟨11, 0, false, 0, 0, 0, []⟩]
theorem few_kids {w : World} {B : Nat} {c : Int} {kv2 kv3 : Value} (h2 : w.ownsRow B 3 1 kv2 0 []) (h3 : w.ownsRow B 3 1 kv3 0 []) (i : Nat) (d : ND) (v : Value) (hd : (fewDs c)[i]? = some d) (hv : [kv2, kv3][i]? = some v) : w.ownsRow B 3 1 v d.l.length (d.l.map (Value.int .i64)) ∧ d.l.length ≤ 1000 := by
  match i, hd, hv with
  | 0, hd, hv =>
    obtain rfl := Option.some.inj hd
    obtain rfl := Option.some.inj hv
    exact ⟨h2, by simp⟩
  | 1, hd, hv =>
    obtain rfl := Option.some.inj hd
    obtain rfl := Option.some.inj hv
    exact ⟨h3, by simp⟩
  | i + 2, hd, hv => cases hv
theorem few_kid {w : World} {B : Nat} {c : Int} {kv2 : Value} (h2 : w.ownsRow B 3 1 kv2 0 []) (i : Nat) (d : ND) (v : Value) (hd : ([⟨1, c, false, 0, 0, 0, []⟩] : List ND)[i]? = some d) (hv : [kv2][i]? = some v) : w.ownsRow B 3 1 v d.l.length (d.l.map (Value.int .i64)) ∧ d.l.length ≤ 1000 := by
  match i, hd, hv with
  | 0, hd, hv =>
    obtain rfl := Option.some.inj hd
    obtain rfl := Option.some.inj hv
    exact ⟨h2, by simp⟩
  | i + 1, hd, hv => cases hv
set_option maxHeartbeats 16000000 in
set_option maxRecDepth 100000 in
theorem few_walk (c : Int) (hc0 : 0 ≤ c) (hc1 : c ≤ 255) (w : World) (ht : Tabs1 w) : Calls Tryd.prog 20 #[.int .u8 c] w fun e w' => e = .returned (.bool true) ∧ Below w.heap.size w w' := by
  have HT := Aside0.mk ht
  clear ht
  have hw : IntKind.i32.wrap c = c := by rw [IntKind.wrap_i32]; omega
  have HC := Aside0.mk (And.intro hc0 hc1)
  clear hc0 hc1
  go_enter Tryd.func20, Tryd.ntmps20
  go_wp2_with (first | (go_at_call 48; refine (new_walk _).mono ?_; rintro e w1 ⟨rfl, rfl⟩))
  refine (leaf_walk w.heap.size w.heap.size 1 c false 0 0 0 (.slice none 0 0) [] (.slice none 0 0) 0 0 [] _ (by decide) (Or.inl ⟨rfl, rfl⟩) (heap_alloc_new w _) (World.ownsRow_nil _ _ _ _) (Nat.le_refl _) (by decide)).mono ?_
  rintro e w2 ⟨rfl, bv2, kv2, hb2, ho2, hk2, hB2, hF2⟩
  have HX2 := Aside0.mk (And.intro hb2 (And.intro ho2 (own_le hk2 (show w.heap.size ≤ (w.alloc (.cells #[.slice none 0 0, .int .i64 0] 110)).heap.size by simp))))
  have HB2 := Aside0.mk (((Below.refl _ w).alloc (Nat.le_refl _) (.cells #[.slice none 0 0, .int .i64 0] 110)).trans hB2)
  clear hb2 ho2 hk2 hB2 hF2
  go_wp2_with fail
  refine (row_one w.heap.size 0 w2.heap.size 1 _ (cell_blk (heap_alloc_new w2 _) 0)).mono ?_
  rintro e w3 ⟨rfl, rfl⟩
  have HX3 := Aside0.mk (And.intro ((Below.heap_alloc w2 (.cells #[.int .i64 0] 3) w.heap.size (lt_of_block HX2.out.1)).trans HX2.out.1) (And.intro (HX2.out.2.1.alloc (.cells #[.int .i64 0] 3)) (HX2.out.2.2.alloc (.cells #[.int .i64 0] 3))))
  have HB3 := Aside0.mk (HB2.out.alloc HB2.out.size (.cells #[.int .i64 0] 3))
  generalize w2.alloc (.cells #[.int .i64 0] 3) = w3 at HX3 HB3 ⊢
  clear HX2 HB2
  go_wp2_with fail
  refine (either_one w.heap.size 0 w3.heap.size 1 _ (cell_blk (heap_alloc_new w3 _) 0)).mono ?_
  rintro e w4 ⟨rfl, rfl⟩
  have HX4 := Aside0.mk (And.intro ((Below.heap_alloc w3 (.cells #[.int .i64 0] 3) w.heap.size (lt_of_block HX3.out.1)).trans HX3.out.1) (And.intro (HX3.out.2.1.alloc (.cells #[.int .i64 0] 3)) (HX3.out.2.2.alloc (.cells #[.int .i64 0] 3))))
  have HB4 := Aside0.mk (HB3.out.alloc HB3.out.size (.cells #[.int .i64 0] 3))
  generalize w3.alloc (.cells #[.int .i64 0] 3) = w4 at HX4 HB4 ⊢
  clear HX3 HB3
  go_wp2_with fail
  refine (bt_walk w.heap.size w.heap.size bv2 0 1 [⟨1, c, false, 0, 0, 0, []⟩] [kv2] _ HX4.out.1 (by simpa [rowsN, nodeC] using HX4.out.2.1) rfl ⟨rfl, fun i d v hd hv => few_kid HX4.out.2.2 i d v hd hv⟩ (by decide) (by decide)).mono ?_
  rintro e w5 ⟨A5, c5, vs5, rfl, ho5, hk5, hB5⟩
  have HX5 := Aside0.mk (And.intro ((hB5.block w.heap.size (lt_of_block HX4.out.1)).trans HX4.out.1) (And.intro (own_keep HX4.out.2.1 (fun q _ hq => hB5.block q hq)) (own_keep HX4.out.2.2 (fun q _ hq => hB5.block q hq))))
  have HB5 := Aside0.mk (HB4.out.trans (hB5.mono HB4.out.size))
  clear HX4 HB4 ho5 hk5 hB5
  go_wp2_with fail
  have HX6 := Aside0.mk (And.intro ((Below.heap_alloc w5 (.cells #[.slice A5 1 c5, .int .i64 0] 63) w.heap.size (lt_of_block HX5.out.1)).trans HX5.out.1) (And.intro (HX5.out.2.1.alloc (.cells #[.slice A5 1 c5, .int .i64 0] 63)) (HX5.out.2.2.alloc (.cells #[.slice A5 1 c5, .int .i64 0] 63))))
  have HB6 := Aside0.mk (HB5.out.alloc HB5.out.size (.cells #[.slice A5 1 c5, .int .i64 0] 63))
  have HG6 := Aside0.mk (heap_alloc_new w5 (.cells #[.slice A5 1 c5, .int .i64 0] 63))
  generalize w5.alloc (.cells #[.slice A5 1 c5, .int .i64 0] 63) = w6 at HX6 HB6 HG6 ⊢
  clear HX5 HB5
  refine (row_none w.heap.size w.heap.size bv2 0 1 _ _ HX6.out.1 HX6.out.2.1 (Nat.le_refl _) (by decide)).mono ?_
  rintro e w7 ⟨rfl, bv7, kv7, hb7, ho7, hk7, hB7, hF7⟩
  have HX7 := Aside0.mk (And.intro hb7 (And.intro ho7 (And.intro (hF7.own (by decide) (by decide) HX6.out.2.2) (own_le hk7 HB6.out.size))))
  have HB7 := Aside0.mk (HB6.out.trans hB7)
  have HG7 := Aside0.mk (hF7 _ _ _ (by decide) (by decide) HG6.out)
  clear HX6 HB6 HG6 hb7 ho7 hk7 hB7 hF7
  go_wp2_with fail
  refine (bt_walk w.heap.size w.heap.size bv7 0 2 (fewDs c) [kv2, kv7] _ HX7.out.1 (by simpa [rowsN, fewDs, nodeC] using HX7.out.2.1) rfl ⟨rfl, fun i d v hd hv => few_kids HX7.out.2.2.1 HX7.out.2.2.2 i d v hd hv⟩ (by decide) (by decide)).mono ?_
  rintro e w8 ⟨A8, c8, vs8, rfl, ho8, hk8, hB8⟩
  obtain ⟨q8, cc8, he8⟩ := own_form ho8 (by decide)
  injection he8 with he8 _ he9
  subst he8
  have HB8 := Aside0.mk (HB7.out.trans (hB8.mono HB7.out.size))
  have HG8 := Aside0.mk ((hB8.block w5.heap.size (lt_of_block HG7.out)).trans HG7.out)
  obtain ⟨v80, v81, hv8⟩ : ∃ a b, vs8 = [a, b] := by
    have := hk8.1
    match vs8, this with
    | [a, b], _ => exact ⟨a, b, rfl⟩
  subst hv8
  have HO8 := Aside0.mk ho8
  clear HX7 HB7 HG7 ho8 hk8 hB8
  have z0 := fun o : Obj => (Below.cell ((Below.refl _ w8).alloc (Nat.le_refl _) o) (p := ⟨w5.heap.size, 0, none⟩) (lt_of_block HG8.out)).trans (cell_blk HG8.out 0)
  simp only [List.getElem?_toArray, List.getElem?_cons_zero, List.getElem?_cons_succ] at z0
  go_wp2_with fail
  refine (known_walk _ (HT.out.below (HB8.out.alloc HB8.out.size _))).mono ?_
  rintro e w10 ⟨rfl, hb10⟩
  have HB10 := Aside0.mk (((Below.refl w8.heap.size w8).alloc (Nat.le_refl _) (.cells #[.slice (some ⟨q8, 0, none⟩) 2 cc8, .int .i64 0] 63)).trans (hb10.mono (by simp)))
  have hx10 := (hb10.block w8.heap.size (by simp)).trans (heap_alloc_new w8 (.cells #[.slice (some ⟨q8, 0, none⟩) 2 cc8, .int .i64 0] 63))
  have y0 := cell_blk hx10 0
  have hq9 := HO8.out.cells (g := q8) rfl 9 (.int .u8 11) rfl
  have hq1 := HO8.out.cells (g := q8) rfl 1 (.int .i32 c) rfl
  rw [addr0] at hq9 hq1
  replace hq9 := (HB10.out.cell (World.block_lt_of_cell? w8 _ hq9)).trans hq9
  replace hq1 := (HB10.out.cell (World.block_lt_of_cell? w8 _ hq1)).trans hq1
  simp only [List.getElem?_toArray, List.getElem?_cons_zero, List.getElem?_cons_succ] at y0
  clear hb10 hx10 z0
  go_wp2_with fail
  go_ret
  exact ⟨by first | rfl | simp, HB8.out.trans (HB10.out.mono HB8.out.size)⟩
end Go.Proofs.YtcppmghhijffpaaDoorW.PrintMore
