import Derived.Test.YtcppmghhijffpaaDoorTreeClone
/-! (*tree.Builder).Leaf: a node without set. -/
namespace Go.Proofs.YtcppmghhijffpaaDoorW.PrintMore
open Go.RowKit Go.Proofs.YtcppmghhijffpaaDoorW.PrintWords Go.Proofs.YtcppmghhijffpaaDoorW.PrintLast Go.Proofs.YtcppmghhijffpaaDoor.X
set_option linter.unusedSimpArgs false
set_option linter.unusedVariables false
theorem addr0 (b j : Nat) : (⟨b, 0, none⟩ : Addr).add j = ⟨b, j, none⟩ := by
  unfold Addr.add
  split
  · rename_i h0
    have h0 : j = 0 := by simpa using h0
    subst h0
    rfl
  · simp
theorem own_le {w : World} {B B' n s : Nat} {t : TypeId} {v : Value} {xs : List Value} (h : w.ownsRow B t s v n xs) (hb : B' ≤ B) : w.ownsRow B' t s v n xs := by
  refine ⟨h.1, ?_⟩
  rcases h.2 with h0 | ⟨g, cap, cur, hv, hg, hr⟩
  · exact Or.inl h0
  · exact Or.inr ⟨g, cap, cur, hv, Nat.le_trans hb hg, hr⟩
theorem kept_apart {w w' : World} {B n s : Nat} {t : TypeId} {v : Value} {xs : List Value} {row : Option Nat} (h : w.ownsRow B t s v n xs) (hg : w.grownBy w' row) (hr : ∀ q, row = some q → q < B) : w'.ownsRow B t s v n xs := by
  refine h.kept hg ?_
  rcases hv : v.ownBlock with _ | q
  · exact Or.inl rfl
  · refine Or.inr (fun he => ?_)
    have h1 := (h.lt q hv).1
    have h2 := hr q he.symm
    omega
theorem own_row_other {w : World} {B n s : Nat} {t : TypeId} {v : Value} {xs : List Value} (h : w.ownsRow B t s v n xs) {b : Nat} (hb : some b ≠ v.ownBlock) (cs : Array Value) : (w.setRow b cs).ownsRow B t s v n xs := by
  refine ⟨h.1, ?_⟩
  rcases h.2 with h0 | ⟨g, cap, cur, hv, hg, hk, hr⟩
  · exact Or.inl h0
  · refine Or.inr ⟨g, cap, cur, hv, hg, (setRow_other w b g cs (fun he => hb ?_)).trans hk, hr⟩
    rw [hv, ← he]
    rfl
theorem val_step {ops : Array Oper} {o : Oper} {a : Act} {W w1 : World} {v : Value} {Q : Exit → Act → World → Prop} {Kc : Act → World → Prop} (hw : Region.wanted o (yielded ops a.tmps) = true) (hrun : (execOp a.eval o).run Tryd.prog W = .ok (.value v) w1) (h : Kc (a.put o.dst v) w1) :
    if Region.wanted o (yielded ops a.tmps) = true then Oper.wp Tryd.prog o a W Kc Q else Kc (a.put o.dst undef) W := by
  rw [if_pos hw]
  unfold Oper.wp
  rw [hrun]
  exact h
/-- Kids: none, or some numbers. -/
def KidsIn (w : World) (kv : Value) (l : List Int) : Prop := (kv = .slice none 0 0 ∧ l = []) ∨ ∃ ad c, kv = .slice (some ad) l.length c ∧ l.length ≤ 1000 ∧ ∀ j u, (l.map (Value.int .i64))[j]? = some u → w.cell? (ad.add j) = some u
theorem KidsIn.drew {w : World} {kv : Value} {l : List Int} (h : KidsIn w kv l) : KidsIn w.drew kv l := h
theorem clone_kids (kv : Value) (l : List Int) (w : World) (h : KidsIn w kv l) :
    Calls Tryd.prog 77 #[kv] w fun e w' => ∃ v, e = .returned v ∧ w'.ownsRow w.heap.size 3 1 v l.length (l.map (Value.int .i64)) ∧ Below w.heap.size w w' := by
  rcases h with ⟨rfl, rfl⟩ | ⟨ad, c, rfl, hm, hc⟩
  · refine (clone_nil77 w).mono ?_
    rintro e w' ⟨rfl, rfl⟩
    exact ⟨_, rfl, World.ownsRow_nil _ _ _ _, Below.refl _ _⟩
  · exact clone_row77 ad l.length c (l.map (Value.int .i64)) w (by simp) hc (by intro u hu; obtain ⟨x, _, rfl⟩ := List.mem_map.1 hu; rfl) hm
theorem KidsIn.below {w w' : World} {B : Nat} {kv : Value} {l : List Int} (h : KidsIn w kv l) (hb : Below B w w') (hB : w.heap.size ≤ B) : KidsIn w' kv l := by
  rcases h with h | ⟨ad, c, hv, hm, hc⟩
  · exact Or.inl h
  · exact Or.inr ⟨ad, c, hv, hm, fun j u hu => (hb.cell (Nat.lt_of_lt_of_le (World.block_lt_of_cell? w _ (hc j u hu)) hB)).trans (hc j u hu)⟩
/-- Blocks that are no builder's and no nodes stay. -/
def FrB (w w' : World) : Prop := ∀ (q : Nat) (cs : Array Value) (t : TypeId), t ≠ 60 → t ≠ 110 → w.heap[q]? = some (.cells cs t (0, 0)) → w'.heap[q]? = some (.cells cs t (0, 0))
theorem FrB.refl (w : World) : FrB w w := fun _ _ _ _ _ h => h
theorem FrB.trans {a b c : World} (h : FrB a b) (k : FrB b c) : FrB a c := fun q cs t h5 h1 hq => k q cs t h5 h1 (h q cs t h5 h1 hq)
theorem FrB.below {w w' : World} (h : Below w.heap.size w w') : FrB w w' := fun q cs t _ _ hq => (h.block q (lt_of_block hq)).trans hq
theorem FrB.own {w w' : World} (h : FrB w w') {B n s : Nat} {t : TypeId} {v : Value} {xs : List Value} (h60 : t ≠ 60) (h110 : t ≠ 110) (ho : w.ownsRow B t s v n xs) : w'.ownsRow B t s v n xs := by
  refine ⟨ho.1, ?_⟩
  rcases ho.2 with h0 | ⟨g, cap, cur, hv, hg, hk, hr⟩
  · exact Or.inl h0
  · exact Or.inr ⟨g, cap, cur, hv, hg, h g cur t h60 h110 hk, hr⟩
/-- A node's cells. -/
def nodeC (k c : Int) (nt : Bool) (n mn mx : Int) (kv : Value) : List Value := [.int .u8 k, .int .i32 c, .bool nt, .slice none 0 0, .slice none 0 0, .int .i64 n, .int .i64 mn, .int .i64 mx, kv]
set_option maxHeartbeats 8000000 in
set_option maxRecDepth 100000 in
theorem leaf_walk (B b : Nat) (k c : Int) (nt : Bool) (n mn mx : Int) (kv : Value) (l : List Int) (bv : Value) (g : Int) (m : Nat) (xs : List Value) (w : World)
    (hk : k ≠ 7) (hkid : KidsIn w kv l) (hb : w.heap[b]? = some (.cells #[bv, .int .i64 g] 110 (0, 0))) (hown : w.ownsRow B 60 9 bv m xs) (hB : B ≤ b) (hm : m ≤ 1000) :
    Calls Tryd.prog 49 #[.pointer (some ⟨b, 0, none⟩), .agg #[.int .u8 k, .int .i32 c, .bool nt, .slice none 0 0, .slice none 0 0, .int .i64 n, .int .i64 mn, .int .i64 mx, kv]] w fun e w' => e = .returned (.int .i64 m) ∧
      ∃ bv' kv', w'.heap[b]? = some (.cells #[bv', .int .i64 g] 110 (0, 0)) ∧ w'.ownsRow B 60 9 bv' (m + 1) (xs ++ nodeC k c nt n mn mx kv') ∧ w'.ownsRow w.heap.size 3 1 kv' l.length (l.map (Value.int .i64)) ∧ Below B w w' ∧ FrB w w' := by
  go_enter Tryd.func49, Tryd.ntmps49
  go_wp2
  rename_i K' ha
  have hkid1 : KidsIn (w.alloc (.cells #[.int .u8 k, .int .i32 c, .bool nt, .slice none 0 0, .slice none 0 0, .int .i64 n, .int .i64 mn, .int .i64 mx, kv] 60)) kv l := hkid.below ((Below.refl _ w).alloc (Nat.le_refl _) _) (Nat.le_refl _)
  have hbx := Below.refl w.heap.size (w.alloc (.cells #[.int .u8 k, .int .i32 c, .bool nt, .slice none 0 0, .slice none 0 0, .int .i64 n, .int .i64 mn, .int .i64 mx, kv] 60))
  clear hkid
  rename KidsIn _ _ _ => hkid
  refine start_ (n := 10) (S := fun w' => w'.heap[w.heap.size]? = some (.cells #[.int .u8 k, .int .i32 c, .bool nt, .slice none 0 0, .slice none 0 0, .int .i64 n, .int .i64 mn, .int .i64 mx, kv] 60 (0, 0))) (ds := [7, 9]) #[false, false, false, false, false, false, false, false, false, false] (by kernel_rfl) rfl rfl ?hS (fun hHeld => ?_)
  case hS => exact heap_alloc_new w _
  refine pure_ (i := 0) (N := some 5) (v := ?_) (a' := ?_) #[true, false, false, false, false, false, false, false, false, false] rfl rfl (by kernel_rfl) (fun _ _ _ h => h) (Or.inl ⟨by rfl, ?_⟩) ?_ ?_
  rotate_left
  · intro w'
    go_simp
    with_reducible rfl
  rotate_left
  · simp only [Act.put, List.setIfInBounds_toArray, List.set_cons_zero, List.set_cons_succ, i64_w, i32_w]
    rfl
  refine take_ (i := 1) (N := some 6) (v := ?_) (a' := ?_) #[true, true, false, false, false, false, false, false, false, false] rfl rfl (by kernel_rfl) (fun _ _ _ h => h) (Or.inl ⟨by rfl, ?_⟩) hHeld ?_ ?_
  rotate_left
  · intro w' s0
    have s8 := cell_blk s0 8
    simp only [List.getElem?_toArray, List.getElem?_cons_zero, List.getElem?_cons_succ] at *
    go_simp
    with_reducible rfl
  rotate_left
  · simp only [Act.put, List.setIfInBounds_toArray, List.set_cons_zero, List.set_cons_succ, i64_w, i32_w]
    rfl
  refine pure_ (i := 3) (N := some 8) (v := ?_) (a' := ?_) #[true, true, false, true, false, false, false, false, false, false] rfl rfl (by kernel_rfl) (fun _ _ _ h => h) (Or.inl ⟨by rfl, ?_⟩) ?_ ?_
  rotate_left
  · intro w'
    go_simp
    with_reducible rfl
  rotate_left
  · simp only [Act.put, List.setIfInBounds_toArray, List.set_cons_zero, List.set_cons_succ, i64_w, i32_w]
    rfl
  refine take_ (i := 4) (N := some 9) (v := ?_) (a' := ?_) #[true, true, false, true, true, false, false, false, false, false] rfl rfl (by kernel_rfl) (fun _ _ _ h => h) (Or.inl ⟨by rfl, ?_⟩) hHeld ?_ ?_
  rotate_left
  · intro w' s0
    have s2 := cell_blk s0 2
    have s3 := cell_blk s0 3
    have s4 := cell_blk s0 4
    simp only [List.getElem?_toArray, List.getElem?_cons_zero, List.getElem?_cons_succ] at *
    go_simp
    with_reducible rfl
  rotate_left
  · simp only [Act.put, List.setIfInBounds_toArray, List.set_cons_zero, List.set_cons_succ, i64_w, i32_w]
    rfl
  refine one_ (i := 2) (N := some 7) #[true, true, true, true, true, false, false, false, false, false] rfl rfl (by kernel_rfl) (by decide) ?_
  intro K hK0
  have hK := Aside0.mk hK0
  clear hK0
  refine goes_ Tryd.func77 (by kernel_rfl) rfl #[kv] (by rfl) rfl rfl (by simp [Act.eval]) ?_
  refine (clone_kids kv l _ hkid.drew).mono ?_
  rintro e w1 ⟨v1, rfl, hown1, hb1⟩
  refine ⟨_, rfl, ?_⟩
  refine hK.out _ _ ?_ (fun hHeld => ?_)
  · exact (hb1.block _ (lt_of_block hHeld)).trans hHeld
  clear hK K
  refine norm_ (a' := ?_) ?_ ?_
  rotate_left
  · show Act.put _ (some 7) _ = _
    simp only [Act.put, List.setIfInBounds_toArray, List.set_cons_zero, List.set_cons_succ, i64_w, i32_w]
    rfl
  refine pure_ (i := 6) (N := some 11) (v := ?_) (a' := ?_) #[true, true, true, true, true, false, true, false, false, false] rfl rfl (by kernel_rfl) (fun _ _ _ h => h) (Or.inl ⟨by rfl, ?_⟩) ?_ ?_
  rotate_left
  · intro w'
    go_simp
    with_reducible rfl
  rotate_left
  · simp only [Act.put, List.setIfInBounds_toArray, List.set_cons_zero, List.set_cons_succ, i64_w, i32_w]
    rfl
  refine one_ (i := 5) (N := some 10) #[true, true, true, true, true, true, true, false, false, false] rfl rfl (by kernel_rfl) (by decide) ?_
  intro K hK0
  have hK := Aside0.mk hK0
  clear hK0
  refine goes_ Tryd.func78 (by kernel_rfl) rfl #[.agg #[.bool nt, .slice none 0 0, .slice none 0 0]] (by rfl) rfl rfl (by simp [Act.eval]) ?_
  refine (copied0_walk nt _).mono ?_
  rintro e w2 ⟨rfl, hb2⟩
  refine ⟨_, rfl, ?_⟩
  refine hK.out _ _ ?_ (fun hHeld => ?_)
  · exact (hb2.block _ (lt_of_block hHeld)).trans hHeld
  clear hK K
  refine norm_ (a' := ?_) ?_ ?_
  rotate_left
  · show Act.put _ (some 10) _ = _
    simp only [Act.put, List.setIfInBounds_toArray, List.set_cons_zero, List.set_cons_succ, i64_w, i32_w]
    rfl
  refine last_ (i := 7) (N := none) #[true, true, true, true, true, true, true, true, false, false] rfl rfl (by kernel_rfl) (by decide) ?_
  intro K hK0
  have hK := Aside0.mk hK0
  clear hK0
  have c8 := cell_blk hHeld 8
  simp only [List.getElem?_toArray, List.getElem?_cons_zero, List.getElem?_cons_succ] at c8
  have f8 := blk_frozen hHeld 8
  have hown2 := own_keep hown1 (fun g _ hg => hb2.block g hg)
  obtain ⟨A1, m1, rfl⟩ := own_slice hown1
  refine skip_step (by rfl) (by first | (go_simp; done) | (go_simp; rfl)) ?_
  refine hK.out _ _ ?_
  clear hK K
  refine norm_ (a' := ?_) ?_ ?_
  rotate_left
  · show Act.put _ none _ = _
    rfl
  have e8 : w2.setCell ⟨w.heap.size, 8, none⟩ (.slice A1 l.length m1) = w2.setRow w.heap.size #[.int .u8 k, .int .i32 c, .bool nt, .slice none 0 0, .slice none 0 0, .int .i64 n, .int .i64 mn, .int .i64 mx, .slice A1 l.length m1] := by
    rw [setCell_eq_setRow w2 _ 8 _ _ _ _ hHeld]
    rfl
  rw [e8]
  have hx3 := setRow_heap w2 _ _ #[.int .u8 k, .int .i32 c, .bool nt, .slice none 0 0, .slice none 0 0, .int .i64 n, .int .i64 mn, .int .i64 mx, .slice A1 l.length m1] _ _ hHeld
  have hB12 : Below w.heap.size w (w2.setRow w.heap.size #[.int .u8 k, .int .i32 c, .bool nt, .slice none 0 0, .slice none 0 0, .int .i64 n, .int .i64 mn, .int .i64 mx, .slice A1 l.length m1]) :=
    below_setRow ((((Below.refl w.heap.size w).alloc (Nat.le_refl _) _).drew.trans (hb1.mono (by simp [World.drew]))).trans (hb2.mono (Nat.le_trans (by simp [World.drew]) hb1.size))) (Nat.le_refl _) _
  have hkv3 : (w2.setRow w.heap.size #[.int .u8 k, .int .i32 c, .bool nt, .slice none 0 0, .slice none 0 0, .int .i64 n, .int .i64 mn, .int .i64 mx, .slice A1 l.length m1]).ownsRow (w.heap.size + 1) 3 1 (.slice A1 l.length m1) l.length (l.map (Value.int .i64)) :=
    own_keep (own_le hown2 (by simp [World.drew])) (fun g hg _ => setRow_other _ _ _ _ (by omega))
  generalize w2.setRow w.heap.size #[.int .u8 k, .int .i32 c, .bool nt, .slice none 0 0, .slice none 0 0, .int .i64 n, .int .i64 mn, .int .i64 mx, .slice A1 l.length m1] = w3 at hx3 hB12 hkv3
  clear e8 hown1 hown2 hb1 hb2 hkid hbx c8 f8
  refine pure_ (i := 8) (N := some 12) (v := ?_) (a' := ?_) #[true, true, true, true, true, true, true, true, true, false] rfl rfl (by kernel_rfl) (fun _ _ _ h => h) (Or.inl ⟨by rfl, ?_⟩) ?_ ?_
  rotate_left
  · intro w'
    go_simp
    with_reducible rfl
  rotate_left
  · simp only [Act.put, List.setIfInBounds_toArray, List.set_cons_zero, List.set_cons_succ, i64_w, i32_w]
    rfl
  refine last_ (i := 9) (N := none) #[true, true, true, true, true, true, true, true, true, true] rfl rfl (by kernel_rfl) (by decide) ?_
  intro K hK0
  have hK := Aside0.mk hK0
  clear hK0
  have c2 := cell_blk hx3 2
  have c3 := cell_blk hx3 3
  have c4 := cell_blk hx3 4
  simp only [List.getElem?_toArray, List.getElem?_cons_zero, List.getElem?_cons_succ] at c2 c3 c4
  have f2 := blk_frozen hx3 2
  have f3 := blk_frozen hx3 3
  have f4 := blk_frozen hx3 4
  refine skip_step (by rfl) (by first | (go_simp; done) | (go_simp; rfl)) ?_
  refine hK.out _ _ ?_
  clear hK K
  refine norm_ (a' := ?_) ?_ ?_
  rotate_left
  · show Act.put _ none _ = _
    rfl
  refine done_ (by kernel_rfl) ?_
  have e9 := setRow_same w3 _ _ _ _ hx3
  have e2 : ((w3.setCell ⟨w.heap.size, 2, none⟩ (.bool nt)).setCell ⟨w.heap.size, 3, none⟩ (.slice none 0 0)).setCell ⟨w.heap.size, 4, none⟩ (.slice none 0 0) = w3 := by
    rw [setCell_eq_setRow w3 _ 2 _ _ _ _ hx3, setCell_eq_setRow _ _ 3 _ _ _ _ (setRow_heap w3 _ _ _ _ _ hx3), setRow_setRow, setCell_eq_setRow _ _ 4 _ _ _ _ (setRow_heap w3 _ _ _ _ _ hx3), setRow_setRow]
    exact e9
  rw [e2]
  clear e2 e9 c2 c3 c4 f2 f3 f4
  show K' _ _
  refine ha _ _ ?_
  clear ha
  have hb3 := (hB12.block b (lt_of_block hb)).trans hb
  have hown3 := own_keep hown (fun q _ hq => hB12.block q hq)
  have hnx : b ≠ w.heap.size := by have := lt_of_block hb; omega
  clear hHeld
  have hbb := lt_of_block hb
  have hlt := hown.lt
  clear hb hown
  go_wp2
  rename_i K2 ha2
  refine start_ (n := 13) (S := fun w' => w'.heap[b]? = some (.cells #[bv, .int .i64 g] 110 (0, 0)) ∧ w'.heap[w.heap.size]? = some (.cells #[.int .u8 k, .int .i32 c, .bool nt, .slice none 0 0, .slice none 0 0, .int .i64 n, .int .i64 mn, .int .i64 mx, .slice A1 l.length m1] 60 (0, 0))) (ds := [12]) #[false, false, false, false, false, false, false, false, false, false, false, false, false] (by kernel_rfl) rfl rfl ⟨hb3, hx3⟩ (fun hHeld => ?_)
  refine pure_ (i := 0) (N := some 13) (v := ?_) (a' := ?_) #[true, false, false, false, false, false, false, false, false, false, false, false, false] rfl rfl (by kernel_rfl) (fun _ _ _ h => h) (Or.inl ⟨by rfl, ?_⟩) ?_ ?_
  rotate_left
  · intro w'
    go_simp
    with_reducible rfl
  rotate_left
  · simp only [Act.put, List.setIfInBounds_toArray, List.set_cons_zero, List.set_cons_succ, i64_w, i32_w]
    rfl
  refine pure_ (i := 1) (N := some 14) (v := ?_) (a' := ?_) #[true, true, false, false, false, false, false, false, false, false, false, false, false] rfl rfl (by kernel_rfl) (fun _ _ _ h => h) (Or.inl ⟨by rfl, ?_⟩) ?_ ?_
  rotate_left
  · intro w'
    go_simp
    with_reducible rfl
  rotate_left
  · simp only [Act.put, List.setIfInBounds_toArray, List.set_cons_zero, List.set_cons_succ, i64_w, i32_w]
    rfl
  refine pure_ (i := 2) (N := some 15) (v := ?_) (a' := ?_) #[true, true, true, false, false, false, false, false, false, false, false, false, false] rfl rfl (by kernel_rfl) (fun _ _ _ h => h) (Or.inl ⟨by rfl, ?_⟩) ?_ ?_
  rotate_left
  · intro w'
    go_simp
    with_reducible rfl
  rotate_left
  · simp only [Act.put, List.setIfInBounds_toArray, List.set_cons_zero, List.set_cons_succ, i64_w, i32_w]
    rfl
  refine pure_ (i := 3) (N := some 16) (v := ?_) (a' := ?_) #[true, true, true, true, false, false, false, false, false, false, false, false, false] rfl rfl (by kernel_rfl) (fun _ _ _ h => h) (Or.inl ⟨by rfl, ?_⟩) ?_ ?_
  rotate_left
  · intro w'
    go_simp
    with_reducible rfl
  rotate_left
  · simp only [Act.put, List.setIfInBounds_toArray, List.set_cons_zero, List.set_cons_succ, i64_w, i32_w]
    rfl
  refine pure_ (i := 4) (N := some 17) (v := ?_) (a' := ?_) #[true, true, true, true, true, false, false, false, false, false, false, false, false] rfl rfl (by kernel_rfl) (fun _ _ _ h => h) (Or.inl ⟨by rfl, ?_⟩) ?_ ?_
  rotate_left
  · intro w'
    go_simp
    with_reducible rfl
  rotate_left
  · simp only [Act.put, List.setIfInBounds_toArray, List.set_cons_zero, List.set_cons_succ, i64_w, i32_w]
    rfl
  refine take_ (i := 5) (N := some 18) (v := ?_) (a' := ?_) #[true, true, true, true, true, true, false, false, false, false, false, false, false] rfl rfl (by kernel_rfl) (fun _ _ _ h => h) (Or.inl ⟨by rfl, ?_⟩) hHeld ?_ ?_
  rotate_left
  · intro w' s0
    have s1 := cell_blk s0.1 0
    simp only [List.getElem?_toArray, List.getElem?_cons_zero, List.getElem?_cons_succ] at *
    go_simp
    with_reducible rfl
  rotate_left
  · simp only [Act.put, List.setIfInBounds_toArray, List.set_cons_zero, List.set_cons_succ, i64_w, i32_w]
    rfl
  refine take_ (i := 6) (N := some 19) (v := ?_) (a' := ?_) #[true, true, true, true, true, true, true, false, false, false, false, false, false] rfl rfl (by kernel_rfl) (fun _ _ _ h => h) (Or.inl ⟨by rfl, ?_⟩) hHeld ?_ ?_
  rotate_left
  · intro w' s0
    have s10 := cell_blk s0.2 0
    have s11 := cell_blk s0.2 1
    have s12 := cell_blk s0.2 2
    have s13 := cell_blk s0.2 3
    have s14 := cell_blk s0.2 4
    have s15 := cell_blk s0.2 5
    have s16 := cell_blk s0.2 6
    have s17 := cell_blk s0.2 7
    have s18 := cell_blk s0.2 8
    simp only [List.getElem?_toArray, List.getElem?_cons_zero, List.getElem?_cons_succ] at *
    go_simp
    with_reducible rfl
  rotate_left
  · simp only [Act.put, List.setIfInBounds_toArray, List.set_cons_zero, List.set_cons_succ, i64_w, i32_w]
    rfl
  refine one_ (i := 7) (N := some 20) #[true, true, true, true, true, true, true, true, false, false, false, false, false] rfl rfl (by kernel_rfl) (by decide) ?_
  intro K hK0
  have hK := Aside0.mk hK0
  clear hK0
  refine val_step (by rfl) (by go_simp; exact ⟨rfl, rfl⟩) ?_
  have hS4 := And.intro ((Below.heap_alloc w3 (.cells #[.int .u8 k, .int .i32 c, .bool nt, .slice none 0 0, .slice none 0 0, .int .i64 n, .int .i64 mn, .int .i64 mx, .slice A1 l.length m1] 60) b (lt_of_block hb3)).trans hb3) ((Below.heap_alloc w3 (.cells #[.int .u8 k, .int .i32 c, .bool nt, .slice none 0 0, .slice none 0 0, .int .i64 n, .int .i64 mn, .int .i64 mx, .slice A1 l.length m1] 60) w.heap.size (lt_of_block hx3)).trans hx3)
  refine hK.out _ _ hS4 (fun hHeld => ?_)
  clear hK K
  refine norm_ (a' := ?_) ?_ ?_
  rotate_left
  · show Act.put _ (some 20) _ = _
    simp only [Act.put, List.setIfInBounds_toArray, List.set_cons_zero, List.set_cons_succ, i64_w, i32_w]
    rfl
  refine one_ (i := 8) (N := some 21) #[true, true, true, true, true, true, true, true, true, false, false, false, false] rfl rfl (by kernel_rfl) (by decide) ?_
  intro K hK0
  have hK := Aside0.mk hK0
  clear hK0
  obtain ⟨i0, hi, hzz⟩ := Option.map_eq_some_iff.1 node_info
  simp only [Prod.mk.injEq, Option.map_eq_some_iff] at hzz
  obtain ⟨⟨z, hz0, hz3⟩, hz1, hz2⟩ := hzz
  have hml : maxLen = 9223372036854775807 := rfl
  have h4 := heap_alloc_new w3 (.cells #[.int .u8 k, .int .i32 c, .bool nt, .slice none 0 0, .slice none 0 0, .int .i64 n, .int .i64 mn, .int .i64 mx, .slice A1 l.length m1] 60)
  have hown4 : ((w3.alloc (.cells #[.int .u8 k, .int .i32 c, .bool nt, .slice none 0 0, .slice none 0 0, .int .i64 n, .int .i64 mn, .int .i64 mx, .slice A1 l.length m1] 60)).drew).ownsRow B 60 9 bv m xs := (hown3.alloc _).drew
  have hB4 : Below B w ((w3.alloc (.cells #[.int .u8 k, .int .i32 c, .bool nt, .slice none 0 0, .slice none 0 0, .int .i64 n, .int .i64 mn, .int .i64 mx, .slice A1 l.length m1] 60)).drew) := (hB12.mono (by omega)).trans (((Below.refl B w3).alloc (by have := lt_of_block hx3; omega) _).drew)
  have hkv4 : ((w3.alloc (.cells #[.int .u8 k, .int .i32 c, .bool nt, .slice none 0 0, .slice none 0 0, .int .i64 n, .int .i64 mn, .int .i64 mx, .slice A1 l.length m1] 60)).drew).ownsRow (w.heap.size + 1) 3 1 (.slice A1 l.length m1) l.length (l.map (Value.int .i64)) := (hkv3.alloc _).drew
  have hsz4 : w3.heap.size < ((w3.alloc (.cells #[.int .u8 k, .int .i32 c, .bool nt, .slice none 0 0, .slice none 0 0, .int .i64 n, .int .i64 mn, .int .i64 mx, .slice A1 l.length m1] 60)).drew).heap.size := by simp [World.drew]
  rw [if_pos (by rfl)]
  refine wp_append_own _ (.tmp 18) (.tmp 20) 61 rfl B 60 i0 z 9 112 Tryd.underlying61 hi hz0 hz1 hz2 hz3 (by decide) bv m xs rfl hown4 ⟨w3.heap.size, 0, none⟩ 1 1 (nodeC k c nt n mn mx (.slice A1 l.length m1)) rfl rfl ?c1 ?c2 (by omega) (by omega) (by have := lt_of_block hx3; omega) ?_
  case c1 =>
    intro j u hu
    have e : ((⟨w3.heap.size, 0, none⟩ : Addr).add j) = ⟨w3.heap.size, j, none⟩ := addr0 _ _
    rw [e]
    exact (cell_blk (W := (w3.alloc (.cells #[.int .u8 k, .int .i32 c, .bool nt, .slice none 0 0, .slice none 0 0, .int .i64 n, .int .i64 mn, .int .i64 mx, .slice A1 l.length m1] 60)).drew) h4 j).trans (by simpa [nodeC] using hu)
  case c2 =>
    intro u hu
    unfold nodeC at hu
    simp only [List.mem_cons, List.not_mem_nil, or_false] at hu
    rcases hu with rfl | rfl | rfl | rfl | rfl | rfl | rfl | rfl | rfl <;> rfl
  intro v5 w5 hown5 hg5 _
  have hne5 := own_not hown4 hHeld.1 (by decide)
  have hnx5 : some w.heap.size ≠ bv.ownBlock := fun he => by have := (hlt _ he.symm).2; omega
  have hkv5 := kept_apart hkv4 hg5 (fun q hq => by have := (hlt q hq).2; omega)
  have hb5 := (hg5.block b (lt_of_block hHeld.1) hne5).trans hHeld.1
  have hx5 := (hg5.block w.heap.size (lt_of_block hHeld.2) hnx5).trans hHeld.2
  have hB5 : Below B w w5 := hB4.grown hg5 (by have := lt_of_block hHeld.2; omega) (fun q hq => (hlt q hq).1)
  have hF5 : FrB w w5 := fun q cs t h6 h1 hq => by
    have e3 := (hB12.block q (lt_of_block hq)).trans hq
    have e4 := (Below.heap_alloc w3 (.cells #[.int .u8 k, .int .i32 c, .bool nt, .slice none 0 0, .slice none 0 0, .int .i64 n, .int .i64 mn, .int .i64 mx, .slice A1 l.length m1] 60) q (lt_of_block e3)).trans e3
    exact (hg5.block q (lt_of_block e4) (own_not hown4 e4 (fun he => h6 he.symm))).trans e4
  refine hK.out _ _ ⟨hb5, hx5⟩ (fun hHeld => ?_)
  clear hK K
  have hb6 := own_not hown5 hb5 (by decide)
  have hbw := hbb
  generalize ((w3.alloc (.cells #[.int .u8 k, .int .i32 c, .bool nt, .slice none 0 0, .slice none 0 0, .int .i64 n, .int .i64 mn, .int .i64 mx, .slice A1 l.length m1] 60)).drew) = w4 at hg5
  clear hown4 hB4 hkv4 hS4 h4 hsz4 hg5 hown3 hkv3 hB12 hx3 hb3
  refine norm_ (a' := ?_) ?_ ?_
  rotate_left
  · show Act.put _ (some 21) _ = _
    simp only [Act.put, List.setIfInBounds_toArray, List.set_cons_zero, List.set_cons_succ, i64_w, i32_w]
    rfl
  refine pure_ (i := 9) (N := some 22) (v := ?_) (a' := ?_) #[true, true, true, true, true, true, true, true, true, true, false, false, false] rfl rfl (by kernel_rfl) (fun _ _ _ h => h) (Or.inl ⟨by rfl, ?_⟩) ?_ ?_
  rotate_left
  · intro w'
    go_simp
    with_reducible rfl
  rotate_left
  · simp only [Act.put, List.setIfInBounds_toArray, List.set_cons_zero, List.set_cons_succ, i64_w, i32_w]
    rfl
  refine pure_ (i := 10) (N := some 23) (v := ?_) (a' := ?_) #[true, true, true, true, true, true, true, true, true, true, true, false, false] rfl rfl (by kernel_rfl) (fun _ _ _ h => h) (Or.inl ⟨by rfl, ?_⟩) ?_ ?_
  rotate_left
  · intro w'
    go_simp
    with_reducible rfl
  rotate_left
  · simp only [Act.put, List.setIfInBounds_toArray, List.set_cons_zero, List.set_cons_succ, i64_w, i32_w]
    rfl
  refine pure_ (i := 11) (N := some 24) (v := ?_) (a' := ?_) #[true, true, true, true, true, true, true, true, true, true, true, true, false] rfl rfl (by kernel_rfl) (fun _ _ _ h => h) (Or.inl ⟨by rfl, ?_⟩) ?_ ?_
  rotate_left
  · intro w'
    go_simp
    with_reducible rfl
  rotate_left
  · simp only [Act.put, List.setIfInBounds_toArray, List.set_cons_zero, List.set_cons_succ, i64_w, i32_w]
    rfl
  refine last_ (i := 12) (N := none) #[true, true, true, true, true, true, true, true, true, true, true, true, true] rfl rfl (by kernel_rfl) (by decide) ?_
  intro K hK0
  have hK := Aside0.mk hK0
  clear hK0
  have c0 := cell_blk hb5 0
  simp only [List.getElem?_toArray, List.getElem?_cons_zero, List.getElem?_cons_succ] at c0
  have f0 := blk_frozen hb5 0
  obtain ⟨A5, c5, rfl⟩ := own_slice hown5
  refine skip_step (by rfl) (by first | (go_simp; done) | (go_simp; rfl)) ?_
  refine hK.out _ _ ?_
  clear hK K
  refine norm_ (a' := ?_) ?_ ?_
  rotate_left
  · show Act.put _ none _ = _
    rfl
  refine done_ (by kernel_rfl) ?_
  have e8 : w5.setCell ⟨b, 0, none⟩ (.slice A5 (m + 1) c5) = w5.setRow b #[.slice A5 (m + 1) c5, .int .i64 g] := by
    rw [setCell_eq_setRow w5 _ 0 _ _ _ _ hb5]
    rfl
  rw [e8]
  have gb := setRow_heap w5 _ _ #[.slice A5 (m + 1) c5, .int .i64 g] _ _ hb5
  have gx := (setRow_other w5 b w.heap.size #[.slice A5 (m + 1) c5, .int .i64 g] (by omega)).trans hx5
  have gown : (w5.setRow b #[.slice A5 (m + 1) c5, .int .i64 g]).ownsRow B 60 9 (.slice A5 (m + 1) c5) (m + 1) (xs ++ nodeC k c nt n mn mx (.slice A1 l.length m1)) := own_row_other hown5 hb6 _
  have gkv : (w5.setRow b #[.slice A5 (m + 1) c5, .int .i64 g]).ownsRow (w.heap.size + 1) 3 1 (.slice A1 l.length m1) l.length (l.map (Value.int .i64)) := own_row_other hkv5 (own_not hkv5 hb5 (by decide)) _
  have gB : Below B w (w5.setRow b #[.slice A5 (m + 1) c5, .int .i64 g]) := below_setRow hB5 hB _
  have gF : FrB w (w5.setRow b #[.slice A5 (m + 1) c5, .int .i64 g]) := fun q cs t h6 h1 hq => (setRow_other w5 b q _ (fun he => by
    have h7 := hF5 q cs t h6 h1 hq
    subst he
    rw [hb5] at h7
    injection h7 with h7
    injection h7 with _ h8 _
    exact h1 h8.symm)).trans (hF5 q cs t h6 h1 hq)
  generalize w5.setRow b #[.slice A5 (m + 1) c5, .int .i64 g] = w6 at gb gx gown gkv gB gF
  clear hF5 e8 hkv5 hb5 hx5 hB5 hown5 hHeld c0 f0
  show K2 _ _
  refine ha2 _ _ ?_
  clear ha2
  have d0 := cell_blk gb 0
  have d1 := cell_blk gx 0
  simp only [List.getElem?_toArray, List.getElem?_cons_zero, List.getElem?_cons_succ] at d0 d1
  have k7 : (k == 7) = false := beq_eq_false_iff_ne.mpr hk
  have k7b : decide (k = 7) = false := decide_eq_false hk
  have hwm : wrap64 (((m + 1 : Nat) : Int) - 1) = (m : Int) := by rw [w64' _ (by omega) (by omega)]; omega
  have HF := Aside0.mk (And.intro gb (And.intro gown (And.intro gkv (And.intro gB gF))))
  clear gb gx gown gkv gB gF
  go_wp2
  go_ret
  exact ⟨rfl, _, _, HF.out.1, HF.out.2.1, own_le HF.out.2.2.1 (Nat.le_succ _), HF.out.2.2.2⟩
theorem new_walk (w : World) : Calls Tryd.prog 48 #[] w fun e w' => e = .returned (.pointer (some ⟨w.heap.size, 0, none⟩)) ∧ w' = w.alloc (.cells #[.slice none 0 0, .int .i64 0] 110) := by
  go_enter Tryd.func48, Tryd.ntmps48
  go_wp2
  go_ret
  exact ⟨rfl, rfl⟩
set_option maxHeartbeats 8000000 in
theorem times_walk (B b : Nat) (kid mn mx : Int) (bv : Value) (g : Int) (m : Nat) (xs : List Value) (w : World)
    (hb : w.heap[b]? = some (.cells #[bv, .int .i64 g] 110 (0, 0))) (hown : w.ownsRow B 60 9 bv m xs) (hB : B ≤ b) (hm : m ≤ 1000) :
    Calls Tryd.prog 54 #[.pointer (some ⟨b, 0, none⟩), .int .i64 kid, .int .i64 mn, .int .i64 mx] w fun e w' => e = .returned (.int .i64 m) ∧
      ∃ bv' kv', w'.heap[b]? = some (.cells #[bv', .int .i64 g] 110 (0, 0)) ∧ w'.ownsRow B 60 9 bv' (m + 1) (xs ++ nodeC 10 0 false 0 mn mx kv') ∧ w'.ownsRow w.heap.size 3 1 kv' 1 [.int .i64 kid] ∧ Below B w w' ∧ FrB w w' := by
  have hbw := lt_of_block hb
  go_enter Tryd.func54, Tryd.ntmps54
  go_wp2_with (go_at_call 49; refine (leaf_walk B b 10 0 false 0 mn mx (.slice (some ⟨w.heap.size, 0, none⟩) 1 1) [kid] bv g m xs _ (by decide) ?kk ((Below.heap_alloc w _ b hbw).trans hb) (hown.alloc _) hB hm).mono ?_)
  case kk =>
    refine Or.inr ⟨_, _, rfl, by simp, fun j u hu => ?_⟩
    rw [addr0]
    exact (cell_blk (heap_alloc_new w _) j).trans (by simpa using hu)
  rintro e w' ⟨rfl, bv', kv', h1, h2, h3, h4, h5⟩
  go_wp2
  go_ret
  exact ⟨rfl, _, _, h1, h2, own_le h3 (by simp), ((Below.refl B w).alloc (by omega) _).trans h4, (FrB.below ((Below.refl _ w).alloc (Nat.le_refl _) _)).trans h5⟩
end Go.Proofs.YtcppmghhijffpaaDoorW.PrintMore
