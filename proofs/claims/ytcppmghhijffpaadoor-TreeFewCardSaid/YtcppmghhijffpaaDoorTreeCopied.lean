import Derived.Test.YtcppmghhijffpaaDoorTreeSet
/-! redactor/tree.copied at a set of nothing. -/
namespace Go.Proofs.YtcppmghhijffpaaDoorW.PrintMore
open Go.RowKit Go.Proofs.YtcppmghhijffpaaDoorW.PrintWords Go.Proofs.YtcppmghhijffpaaDoorW.PrintLast
set_option linter.unusedSimpArgs false
set_option linter.unusedVariables false
theorem skip_step {ops : Array Oper} {o : Oper} {a : Act} {W w1 : World} {Q : Exit → Act → World → Prop} {Kc : Act → World → Prop} (hw : Region.wanted o (yielded ops a.tmps) = true) (hrun : (execOp a.eval o).run Tryd.prog W = .ok .skip w1) (h : Kc (a.put o.dst undef) w1) :
    if Region.wanted o (yielded ops a.tmps) = true then Oper.wp Tryd.prog o a W Kc Q else Kc (a.put o.dst undef) W := by
  rw [if_pos hw]
  unfold Oper.wp
  rw [hrun]
  exact h
theorem setRow_same (w : World) (g : Nat) (cs : Array Value) (t : TypeId) (fr : Nat × Nat) (hg : w.heap[g]? = some (.cells cs t fr)) : w.setRow g cs = w := by
  have hlt : g < w.heap.size := (Array.getElem?_eq_some_iff.1 hg).1
  have hv : w.heap[g] = .cells cs t fr := (Array.getElem?_eq_some_iff.1 hg).2
  show w.setRow g cs = { w with heap := w.heap }
  unfold World.setRow
  congr 1
  apply Array.ext
  · simp
  · intro k h1 h2
    simp only [Array.getElem_modify]
    split
    · rename_i hk
      subst hk
      simp [hv]
    · rfl
theorem below_setRow {B : Nat} {a w : World} (h : Below B a w) {g : Nat} (hg : B ≤ g) (cs : Array Value) : Below B a (w.setRow g cs) :=
  ⟨h.os, h.tape, h.output, by rw [setRow_size]; exact h.size, fun k hk => (setRow_other w g k cs (by omega)).trans (h.block k hk)⟩
theorem clone_nil97 (w : World) : Calls Tryd.prog 97 #[.slice none 0 0] w fun e w' => e = .returned (.slice none 0 0) ∧ w = w' := by
  have qe : ∀ (w : World) (a : Option Addr) (n c n' c' : Nat), (binOp .eql 55 (.slice a n c) (.slice none n' c')).run Tryd.prog w = .ok (.bool a.isNone) w := fun w a n c n' c' => Lib.run_eql_slice_nil w _ _ a n c n' c' Tryd.underlying55
  go_enter Tryd.func97, Tryd.ntmps97
  go_wp2
  go_ret
  exact ⟨rfl, rfl⟩
theorem clone_nil98 (w : World) : Calls Tryd.prog 98 #[.slice none 0 0] w fun e w' => e = .returned (.slice none 0 0) ∧ w = w' := by
  have qe : ∀ (w : World) (a : Option Addr) (n c n' c' : Nat), (binOp .eql 56 (.slice a n c) (.slice none n' c')).run Tryd.prog w = .ok (.bool a.isNone) w := fun w a n c n' c' => Lib.run_eql_slice_nil w _ _ a n c n' c' Tryd.underlying56
  go_enter Tryd.func98, Tryd.ntmps98
  go_wp2
  go_ret
  exact ⟨rfl, rfl⟩
set_option maxHeartbeats 4000000 in
set_option maxRecDepth 100000 in
theorem copied0_walk (nt : Bool) (w : World) : Calls Tryd.prog 78 #[.agg #[.bool nt, .slice none 0 0, .slice none 0 0]] w fun e w' => e = .returned (.agg #[.bool nt, .slice none 0 0, .slice none 0 0]) ∧ Below w.heap.size w w' := by
  go_enter Tryd.func78, Tryd.ntmps78
  go_wp2
  rename_i K' ha
  refine start_ (n := 10) (S := fun w' => w'.heap[w.heap.size]? = some (.cells #[.bool nt, .slice none 0 0, .slice none 0 0] 58 (0, 0))) (ds := []) #[false, false, false, false, false, false, false, false, false, false] (by kernel_rfl) rfl rfl ?hS (fun hHeld => ?_)
  case hS => exact (Below.heap_alloc _ _ _ (by simp)).trans (heap_alloc_new w _)
  have hHeld1 := hHeld
  refine pure_ (i := 0) (N := some 5) (v := ?_) (a' := ?_) #[true, false, false, false, false, false, false, false, false, false] rfl rfl (by kernel_rfl) (fun _ _ _ h => h) (Or.inl ⟨by rfl, ?_⟩) ?_ ?_
  rotate_left
  · intro w'
    go_simp
    with_reducible rfl
  rotate_left
  · simp only [Act.put, List.setIfInBounds_toArray, List.set_cons_zero, List.set_cons_succ, i64_w, i32_w]
    rfl
  refine take_ (i := 1) (N := some 6) (v := ?_) (a' := ?_) #[true, true, false, false, false, false, false, false, false, false] rfl rfl (by kernel_rfl) (fun _ _ _ h => h) (Or.inl ⟨by rfl, ?_⟩) hHeld ?_ ?_
  rotate_left
  · intro w' s0
    have s1 := cell_blk s0 1
    simp only [List.getElem?_toArray, List.getElem?_cons_zero, List.getElem?_cons_succ] at s1
    go_simp
    with_reducible rfl
  rotate_left
  · simp only [Act.put, List.setIfInBounds_toArray, List.set_cons_zero, List.set_cons_succ, i64_w, i32_w]
    rfl
  refine pure_ (i := 3) (N := some 8) (v := ?_) (a' := ?_) #[true, true, false, true, false, false, false, false, false, false] rfl rfl (by kernel_rfl) (fun _ _ _ h => h) (Or.inl ⟨by rfl, ?_⟩) ?_ ?_
  rotate_left
  · intro w'
    go_simp
    with_reducible rfl
  rotate_left
  · simp only [Act.put, List.setIfInBounds_toArray, List.set_cons_zero, List.set_cons_succ, i64_w, i32_w]
    rfl
  refine take_ (i := 4) (N := some 9) (v := ?_) (a' := ?_) #[true, true, false, true, true, false, false, false, false, false] rfl rfl (by kernel_rfl) (fun _ _ _ h => h) (Or.inl ⟨by rfl, ?_⟩) hHeld ?_ ?_
  rotate_left
  · intro w' s0
    have s1 := cell_blk s0 2
    simp only [List.getElem?_toArray, List.getElem?_cons_zero, List.getElem?_cons_succ] at s1
    go_simp
    with_reducible rfl
  rotate_left
  · simp only [Act.put, List.setIfInBounds_toArray, List.set_cons_zero, List.set_cons_succ, i64_w, i32_w]
    rfl
  refine one_ (i := 2) (N := some 7) #[true, true, true, true, true, false, false, false, false, false] rfl rfl (by kernel_rfl) (by decide) ?_
  intro K hK0
  have hK := Aside0.mk hK0
  clear hK0
  refine goes_ Tryd.func97 (by kernel_rfl) rfl #[.slice none 0 0] (by rfl) rfl rfl (by simp [Act.eval]) ?_
  refine (clone_nil97 _).mono ?_
  rintro e w' ⟨rfl, rfl⟩
  refine ⟨_, rfl, ?_⟩
  refine hK.out _ _ hHeld (fun hHeld => ?_)
  clear hK K
  refine norm_ (a' := ?_) ?_ ?_
  rotate_left
  · show Act.put _ (some 7) _ = _
    simp only [Act.put, List.setIfInBounds_toArray, List.set_cons_zero, List.set_cons_succ, i64_w, i32_w]
    rfl
  refine pure_ (i := 6) (N := some 11) (v := ?_) (a' := ?_) #[true, true, true, true, true, false, true, false, false, false] rfl rfl (by kernel_rfl) (fun _ _ _ h => h) (Or.inl ⟨by rfl, ?_⟩) ?_ ?_
  rotate_left
  · intro w'
    go_simp
    with_reducible rfl
  rotate_left
  · simp only [Act.put, List.setIfInBounds_toArray, List.set_cons_zero, List.set_cons_succ, i64_w, i32_w]
    rfl
  refine one_ (i := 5) (N := some 10) #[true, true, true, true, true, true, true, false, false, false] rfl rfl (by kernel_rfl) (by decide) ?_
  intro K hK0
  have hK := Aside0.mk hK0
  clear hK0
  refine goes_ Tryd.func98 (by kernel_rfl) rfl #[.slice none 0 0] (by rfl) rfl rfl (by simp [Act.eval]) ?_
  refine (clone_nil98 _).mono ?_
  rintro e w' ⟨rfl, rfl⟩
  refine ⟨_, rfl, ?_⟩
  refine hK.out _ _ hHeld (fun hHeld => ?_)
  clear hK K
  refine norm_ (a' := ?_) ?_ ?_
  rotate_left
  · show Act.put _ (some 10) _ = _
    simp only [Act.put, List.setIfInBounds_toArray, List.set_cons_zero, List.set_cons_succ, i64_w, i32_w]
    rfl
  refine one_ (i := 7) (N := none) #[true, true, true, true, true, true, true, true, false, false] rfl rfl (by kernel_rfl) (by decide) ?_
  intro K hK0
  have hK := Aside0.mk hK0
  clear hK0
  have hc_ := cell_blk hHeld 1
  simp only [List.getElem?_toArray, List.getElem?_cons_zero, List.getElem?_cons_succ] at hc_
  have hf_ := blk_frozen hHeld 1
  have hh_ := setRow_heap _ _ _ (#[.bool nt, .slice none 0 0, .slice none 0 0] : Array Value) 58 _ hHeld
  have he_ := setCell_eq_setRow _ _ 1 _ _ _ (.slice none 0 0) hHeld
  refine skip_step (by rfl) (by first | (go_simp; done) | (go_simp; rfl)) ?_
  refine hK.out _ _ ?_ (fun hHeld => ?_)
  · exact hh_
  clear hK K hc_ hf_ hh_ he_
  refine norm_ (a' := ?_) ?_ ?_
  rotate_left
  · show Act.put _ none _ = _
    rfl
  refine pure_ (i := 8) (N := some 12) (v := ?_) (a' := ?_) #[true, true, true, true, true, true, true, true, true, false] rfl rfl (by kernel_rfl) (fun _ _ _ h => h) (Or.inl ⟨by rfl, ?_⟩) ?_ ?_
  rotate_left
  · intro w'
    go_simp
    with_reducible rfl
  rotate_left
  · simp only [Act.put, List.setIfInBounds_toArray, List.set_cons_zero, List.set_cons_succ, i64_w, i32_w]
    rfl
  refine one_ (i := 9) (N := none) #[true, true, true, true, true, true, true, true, true, true] rfl rfl (by kernel_rfl) (by decide) ?_
  intro K hK0
  have hK := Aside0.mk hK0
  clear hK0
  have hc_ := cell_blk hHeld 2
  simp only [List.getElem?_toArray, List.getElem?_cons_zero, List.getElem?_cons_succ] at hc_
  have hf_ := blk_frozen hHeld 2
  have hh_ := setRow_heap _ _ _ (#[.bool nt, .slice none 0 0, .slice none 0 0] : Array Value) 58 _ hHeld
  have he_ := setCell_eq_setRow _ _ 2 _ _ _ (.slice none 0 0) hHeld
  refine skip_step (by rfl) (by first | (go_simp; done) | (go_simp; rfl)) ?_
  refine hK.out _ _ ?_ (fun hHeld => ?_)
  · exact hh_
  clear hK K hc_ hf_ hh_ he_
  refine norm_ (a' := ?_) ?_ ?_
  rotate_left
  · show Act.put _ none _ = _
    rfl
  refine done_ (by kernel_rfl) ?_
  show K' _ _
  refine ha _ _ ?_
  have e1 := setRow_same _ _ _ _ _ hHeld1
  rw [e1, e1]
  have hb : Below w.heap.size w ((w.alloc (.cells #[.bool nt, .slice none 0 0, .slice none 0 0] 58)).alloc (.cells #[.bool false, .slice none 0 0, .slice none 0 0] 58)).drew := (((Below.refl w.heap.size w).alloc (Nat.le_refl _) (.cells #[.bool nt, .slice none 0 0, .slice none 0 0] 58)).alloc (by simp) (.cells #[.bool false, .slice none 0 0, .slice none 0 0] 58)).drew
  have hR2 : ((w.alloc (.cells #[.bool nt, .slice none 0 0, .slice none 0 0] 58)).alloc (.cells #[.bool false, .slice none 0 0, .slice none 0 0] 58)).drew.heap[w.heap.size + 1]? = some (.cells #[.bool false, .slice none 0 0, .slice none 0 0] 58 (0, 0)) := by
    have := heap_alloc_new (w.alloc (.cells #[.bool nt, .slice none 0 0, .slice none 0 0] 58)) (.cells #[.bool false, .slice none 0 0, .slice none 0 0] 58)
    rw [World.size_alloc] at this
    exact this
  generalize ((w.alloc (.cells #[.bool nt, .slice none 0 0, .slice none 0 0] 58)).alloc (.cells #[.bool false, .slice none 0 0, .slice none 0 0] 58)).drew = wz at hHeld1 hb hR2
  clear ha e1
  have t0 := cell_blk hHeld1 0
  have t1 := cell_blk hHeld1 1
  have t2 := cell_blk hHeld1 2
  simp only [List.getElem?_toArray, List.getElem?_cons_zero, List.getElem?_cons_succ] at t0 t1 t2
  have r0 := cell_blk hR2 0
  have r1 := cell_blk hR2 1
  have r2 := cell_blk hR2 2
  simp only [List.getElem?_toArray, List.getElem?_cons_zero, List.getElem?_cons_succ] at r0 r1 r2
  have f0 := blk_frozen hR2 0
  have f1 := blk_frozen hR2 1
  have f2 := blk_frozen hR2 2
  go_wp2
  go_loopg [16] 0 (fun k v16 wr => v16 = .int .i64 0 ∧ k = 0 ∧ wr = wz)
  case atStart => exact ⟨rfl, rfl, rfl⟩
  case round =>
    obtain ⟨rfl, rfl, rfl⟩ := hrel
    go_wp2
    have e2 : ((wr.setCell ⟨w.heap.size + 1, 0, none⟩ (.bool nt)).setCell ⟨w.heap.size + 1, 1, none⟩ (.slice none 0 0)).setCell ⟨w.heap.size + 1, 2, none⟩ (.slice none 0 0) = wr.setRow (w.heap.size + 1) #[.bool nt, .slice none 0 0, .slice none 0 0] := by
      rw [setCell_eq_setRow wr _ 0 _ _ _ _ hR2, setCell_eq_setRow _ _ 1 _ _ _ _ (setRow_heap wr _ _ _ _ _ hR2), setRow_setRow, setCell_eq_setRow _ _ 2 _ _ _ _ (setRow_heap wr _ _ _ _ _ hR2), setRow_setRow]
      rfl
    rw [e2]
    have h3 := setRow_heap wr _ _ #[.bool nt, .slice none 0 0, .slice none 0 0] _ _ hR2
    have hbz : Below w.heap.size w (wr.setRow (w.heap.size + 1) #[.bool nt, .slice none 0 0, .slice none 0 0]) := below_setRow hb (Nat.le_succ _) _
    generalize wr.setRow (w.heap.size + 1) #[.bool nt, .slice none 0 0, .slice none 0 0] = wq at h3 hbz
    clear e2
    refine bodyPost_ret (results_cell_row (by rfl) _ _ _ _ _ _ _ (by rfl) h3 Tryd.underlying58 rfl (by kernel_rfl)) rfl ?_
    exact ⟨rfl, hbz⟩
end Go.Proofs.YtcppmghhijffpaaDoorW.PrintMore
