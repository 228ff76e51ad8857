import Derived.Test.YtcppmghhijffpaaDoorShapes
import Derived.Test.YtcppmghhijffpaaDoorText
import Derived.Deep.QuietTactic
import Derived.Laws.CopyOwn
import Derived.Laws.Tables
/-! redactor/tree.right: may a node be? -/
namespace Go.Proofs.YtcppmghhijffpaaDoorW.PrintMore
open Go.RowKit Go.Proofs.YtcppmghhijffpaaDoorW.PrintWords Go.Proofs.YtcppmghhijffpaaDoorW.PrintLast
set_option linter.unusedSimpArgs false
set_option linter.unusedVariables false
theorem look_yes (w : World) (k : Int) (i : Nat) (v : Value) (h : Instr.findNow (.int .u8) (.int .u8 k) shapeMap.toList 0 = some (some (i, v))) :
    (Instr.lookup 128 (.map (some w.heap.size)) (.int .u8 k) true).run Tryd.prog (w.alloc (.map shapeMap 11)) = .ok (.tuple #[v, .bool true]) (w.alloc (.map shapeMap 11)) := by
  have hb : (w.alloc (.map shapeMap 11)).heap[w.heap.size]? = some (.map shapeMap 11) := heap_alloc_new w _
  simp [Instr.lookup, run_underlying Tryd.underlying128, MapKept.run_getObj_map hb, MapKept.run_checkKey Tryd.underlying5 (show MapKept.IsKey (.int .u8) (.int .u8 k) from rfl), MapKept.run_findKey Tryd.underlying5 h, Result.andThen]
theorem tempty_walk (nt : Bool) (A3 A4 : Option Addr) (rl c3 tl c4 : Nat) (w : World) : Calls Tryd.prog 93 #[.agg #[.bool nt, .slice A3 rl c3, .slice A4 tl c4]] w fun e w' => e = .returned (.bool (!nt && decide (rl = 0) && decide (tl = 0))) ∧ Below w.heap.size w w' := by
  cases nt
  · by_cases h1 : rl = 0
    · subst h1
      by_cases h2 : tl = 0
      · subst h2
        go_enter Tryd.func93, Tryd.ntmps93
        go_wp2
        go_ret
        exact ⟨by simp, (Below.refl _ _).alloc (Nat.le_refl _) _⟩
      · have d : decide ((tl : Int) = 0) = false := decide_eq_false (by omega)
        have d2 : ((tl : Int) == 0) = false := beq_eq_false_iff_ne.mpr (by omega)
        go_enter Tryd.func93, Tryd.ntmps93
        go_wp2
        go_ret
        exact ⟨by simp [h2], (Below.refl _ _).alloc (Nat.le_refl _) _⟩
    · have d : decide ((rl : Int) = 0) = false := decide_eq_false (by omega)
      have d2 : ((rl : Int) == 0) = false := beq_eq_false_iff_ne.mpr (by omega)
      go_enter Tryd.func93, Tryd.ntmps93
      go_wp2
      go_ret
      exact ⟨by simp [h1], (Below.refl _ _).alloc (Nat.le_refl _) _⟩
  · go_enter Tryd.func93, Tryd.ntmps93
    go_wp2
    go_ret
    exact ⟨by simp, (Below.refl _ _).alloc (Nat.le_refl _) _⟩
theorem store_row_step {ops : Array Oper} {o : Oper} {a : Act} {W : World} {Q : Exit → Act → World → Prop} {Kc : Act → World → Prop} (hw : Region.wanted o (yielded ops a.tmps) = true) {t : TypeId} {x y : Operand} {g : Nat} {old cells : Array Value} (hop : o.op = .store t x y) (hx : a.eval x = .pointer (some ⟨g, 0, none⟩)) (hy : a.eval y = .agg cells)
    (hg : W.heap[g]? = some (.cells old t (0, 0))) (hi : (Tryd.prog.info? t).map (·.size) = some cells.size) (ho : old.size = cells.size) (h1 : cells.all (·.oneCell') = true) (h : Kc (a.put o.dst undef) (W.setRow g cells)) :
    if Region.wanted o (yielded ops a.tmps) = true then Oper.wp Tryd.prog o a W Kc Q else Kc (a.put o.dst undef) W := by
  rw [if_pos hw]
  unfold Oper.wp execOp
  simp only [hop, hx, hy, Instr.storeAt, Instr.sureAddr, Sem.run_bind, Sem.run_pure, Result.andThen_ok, run_storeVar_row W g t t old cells hg hi ho h1]
  exact h
/-- What stands behind the second region. -/
def restOf : Option Code → Code
  | some (.seq _ (.seq _ c)) => c
  | _ => .skip
set_option maxHeartbeats 4000000 in
set_option maxRecDepth 100000 in
theorem tr_main (k c : Int) (nt : Bool) (A3 A4 A8 : Option Addr) (rl c3 tl c4 kl c8 : Nat) (n mn mx g : Int) (s0 s1 : Int) (s2 s3 s4 s5 is : Bool) (w : World) (R : Ending → World → Prop)
    (hlk : ∀ W : World, (Instr.lookup 128 (.map (some W.heap.size)) (.int .u8 k) true).run Tryd.prog (W.alloc (.map shapeMap 11)) = .ok (.tuple #[.agg #[.int .i64 s0, .int .i64 s1, .bool s2, .bool s3, .bool s4, .bool s5], .bool is]) (W.alloc (.map shapeMap 11)))
    (hlk2 : ∀ (W : World) (o : Obj), (Instr.lookup 128 (.map (some W.heap.size)) (.int .u8 k) true).run Tryd.prog ((W.alloc (.map shapeMap 11)).alloc o) = .ok (.tuple #[.agg #[.int .i64 s0, .int .i64 s1, .bool s2, .bool s3, .bool s4, .bool s5], .bool is]) ((W.alloc (.map shapeMap 11)).alloc o))
    (hrest : ∀ (bm b5 : Nat) (W' : World), Below w.heap.size w W' → W'.heap[w.heap.size]? = some (.cells #[.int .u8 k, .int .i32 c, .bool nt, .slice A3 rl c3, .slice A4 tl c4, .int .i64 n, .int .i64 mn, .int .i64 mx, .slice A8 kl c8] 60 (0, 0)) → W'.heap[b5]? = some (.cells #[.int .i64 s0, .int .i64 s1, .bool s2, .bool s3, .bool s4, .bool s5] 126 (0, 0)) →
      Code.wp Tryd.prog (restOf Tryd.f68.body) (bodyPost Tryd.prog Tryd.f68 R) { tmps := #[.agg #[.int .u8 k, .int .i32 c, .bool nt, .slice A3 rl c3, .slice A4 tl c4, .int .i64 n, .int .i64 mn, .int .i64 mx, .slice A8 kl c8], .int .i64 g, .pointer (some ⟨w.heap.size, 0, none⟩), undef, .bool false, .pointer (some ⟨b5, 0, none⟩), .bool is, .tuple #[.agg #[.int .i64 s0, .int .i64 s1, .bool s2, .bool s3, .bool s4, .bool s5], .bool is], .map (some bm), .pointer (some ⟨w.heap.size, 0, none⟩), .int .u8 k, .tuple #[.agg #[.int .i64 s0, .int .i64 s1, .bool s2, .bool s3, .bool s4, .bool s5], .bool is], .agg #[.int .i64 s0, .int .i64 s1, .bool s2, .bool s3, .bool s4, .bool s5], .bool is, undef, undef, undef, undef, undef, undef, undef, undef, undef, undef, undef, undef, undef, undef, undef, undef, undef, undef, undef, undef, undef, undef, undef, undef, undef, undef, undef, undef, undef, undef, undef, undef, undef, undef, undef, undef, undef, undef, undef, undef, undef, undef, undef, undef, undef, undef, undef, undef, undef, undef, undef, undef, undef, undef, undef, undef, undef, undef, undef, undef, undef, undef, undef, undef, undef, undef, undef, undef, undef, undef, undef, undef, undef, undef, undef, undef, undef, undef, undef, undef, undef, undef, undef, undef, undef, undef, undef, undef, undef, undef, undef, undef, undef, undef, undef, undef, undef, undef, undef, undef, undef, undef, undef, undef, undef, undef, undef, undef, undef, undef, undef, undef, undef, undef, undef, undef, undef, undef], defers := [] } W') :
    Calls Tryd.prog 68 #[.agg #[.int .u8 k, .int .i32 c, .bool nt, .slice A3 rl c3, .slice A4 tl c4, .int .i64 n, .int .i64 mn, .int .i64 mx, .slice A8 kl c8], .int .i64 g] w R := by
  have hbx : (w.alloc (.cells #[.int .u8 k, .int .i32 c, .bool nt, .slice A3 rl c3, .slice A4 tl c4, .int .i64 n, .int .i64 mn, .int .i64 mx, .slice A8 kl c8] 60)).drew.heap[w.heap.size]? = some (.cells #[.int .u8 k, .int .i32 c, .bool nt, .slice A3 rl c3, .slice A4 tl c4, .int .i64 n, .int .i64 mn, .int .i64 mx, .slice A8 kl c8] 60 (0, 0)) := heap_alloc_new w _
  have hB1 : Below w.heap.size w (w.alloc (.cells #[.int .u8 k, .int .i32 c, .bool nt, .slice A3 rl c3, .slice A4 tl c4, .int .i64 n, .int .i64 mn, .int .i64 mx, .slice A8 kl c8] 60)).drew := ((Below.refl _ w).alloc (Nat.le_refl _) _).drew
  go_enter Tryd.func68, Tryd.ntmps68
  go_wp2
  rename_i K' hSh
  refine start_ (n := 10) (S := fun w' => w'.cell? ⟨w.heap.size, 0, none⟩ = some (.int .u8 k)) (ds := []) #[false, false, false, false, false, false, false, false, false, false] (by kernel_rfl) rfl rfl ?hS (fun hHeld => ?_)
  case hS => simp [heap_alloc_new]
  generalize (w.alloc (.cells #[.int .u8 k, .int .i32 c, .bool nt, .slice A3 rl c3, .slice A4 tl c4, .int .i64 n, .int .i64 mn, .int .i64 mx, .slice A8 kl c8] 60)).drew = W1 at hbx hB1 hHeld ⊢
  have hlt : w.heap.size < W1.heap.size := (Array.getElem?_eq_some_iff.1 hbx).1
  refine pure_ (i := 1) (N := some 9) (v := ?_) (a' := ?_) #[false, true, false, false, false, false, false, false, false, false] rfl rfl (by kernel_rfl) (fun _ _ _ h => h) (Or.inl ⟨by rfl, ?_⟩) ?_ ?_
  rotate_left
  · intro w'
    go_simp
    with_reducible rfl
  rotate_left
  · simp only [Act.put, List.setIfInBounds_toArray, List.set_cons_zero, List.set_cons_succ, i64_w, i32_w]
    rfl
  refine take_ (i := 2) (N := some 10) (v := ?_) (a' := ?_) #[false, true, true, false, false, false, false, false, false, false] rfl rfl (by kernel_rfl) (fun _ _ _ h => h) (Or.inl ⟨by rfl, ?_⟩) hHeld ?_ ?_
  rotate_left
  · intro w' s0
    go_simp
    with_reducible rfl
  rotate_left
  · simp only [Act.put, List.setIfInBounds_toArray, List.set_cons_zero, List.set_cons_succ, i64_w, i32_w]
    rfl
  refine two_ (i := 0) (j := 7) (Ni := some 8) (Nj := some 5) #[true, true, true, false, false, false, false, false, false, false] #[false, true, true, false, false, false, false, true, false, false] rfl rfl rfl rfl (by kernel_rfl) (by decide) (by decide) ?_ ?_
  · intro K hK0
    have hK := Aside0.mk hK0
    clear hK0
    refine goes_ Tryd.func91 (by kernel_rfl) rfl #[] (by rfl) rfl rfl (by simp) ?_
    refine (shapes_walk _).mono ?_
    rintro e w' ⟨rfl, rfl⟩
    refine ⟨_, rfl, ?_⟩
    refine hK.out _ _ ?_ (fun hHeld => ?_)
    · exact (Below.cell ((Below.refl _ _).alloc (Nat.le_refl _) _) (p := ⟨w.heap.size, 0, none⟩) hlt).trans hHeld
    clear hK K
    refine norm_ (a' := ?_) ?_ ?_
    rotate_left
    · show Act.put _ (some 8) _ = _
      simp only [Act.put, List.setIfInBounds_toArray, List.set_cons_zero, List.set_cons_succ, i64_w, i32_w]
      rfl
    refine two_ (i := 3) (j := 7) (Ni := some 11) (Nj := some 5) #[true, true, true, true, false, false, false, false, false, false] #[true, true, true, false, false, false, false, true, false, false] rfl rfl rfl rfl (by kernel_rfl) (by decide) (by decide) ?_ ?_
    · intro K hK0
      have hK := Aside0.mk hK0
      clear hK0
      have hq := hlk W1
      try simp only [World.size_alloc] at hq
      refine event_step (v := .tuple #[.agg #[.int .i64 s0, .int .i64 s1, .bool s2, .bool s3, .bool s4, .bool s5], .bool is]) (w1 := (W1.alloc (.map shapeMap 11))) (by rfl) ?_ ?_
      · first | (go_simp; done) | (go_simp; rfl)
      clear hq
      refine hK.out _ _ hHeld (fun hHeld => ?_)
      clear hK K
      refine norm_ (a' := ?_) ?_ ?_
      rotate_left
      · show Act.put _ (some 11) _ = _
        simp only [Act.put, List.setIfInBounds_toArray, List.set_cons_zero, List.set_cons_succ, i64_w, i32_w]
        rfl
      refine pure_ (i := 4) (N := some 7) (v := ?_) (a' := ?_) #[true, true, true, true, true, false, false, false, false, false] rfl rfl (by kernel_rfl) (fun _ _ _ h => h) (Or.inl ⟨by rfl, ?_⟩) ?_ ?_
      rotate_left
      · intro w'
        go_simp
        with_reducible rfl
      rotate_left
      · simp only [Act.put, List.setIfInBounds_toArray, List.set_cons_zero, List.set_cons_succ, i64_w, i32_w]
        rfl
      refine pure_ (i := 5) (N := some 12) (v := ?_) (a' := ?_) #[true, true, true, true, true, true, false, false, false, false] rfl rfl (by kernel_rfl) (fun _ _ _ h => h) (Or.inl ⟨by rfl, ?_⟩) ?_ ?_
      rotate_left
      · intro w'
        go_simp
        with_reducible rfl
      rotate_left
      · simp only [Act.put, List.setIfInBounds_toArray, List.set_cons_zero, List.set_cons_succ, i64_w, i32_w]
        rfl
      refine pure_ (i := 6) (N := some 13) (v := ?_) (a' := ?_) #[true, true, true, true, true, true, true, false, false, false] rfl rfl (by kernel_rfl) (fun _ _ _ h => h) (Or.inl ⟨by rfl, ?_⟩) ?_ ?_
      rotate_left
      · intro w'
        go_simp
        with_reducible rfl
      rotate_left
      · simp only [Act.put, List.setIfInBounds_toArray, List.set_cons_zero, List.set_cons_succ, i64_w, i32_w]
        rfl
      refine one_ (i := 7) (N := some 5) #[true, true, true, true, true, true, true, true, false, false] rfl rfl (by kernel_rfl) (by decide) ?_
      intro K hK0
      have hK := Aside0.mk hK0
      clear hK0
      refine event_step (v := .pointer (some ⟨(W1.alloc (.map shapeMap 11)).heap.size, 0, none⟩)) (w1 := (W1.alloc (.map shapeMap 11)).alloc (.cells #[.int .i64 0, .int .i64 0, .bool false, .bool false, .bool false, .bool false] 126)) (by rfl) ?_ ?_
      · first | (go_simp; done) | (go_simp; rfl)
      refine hK.out _ _ ?_ (fun hHeld => ?_)
      · exact (Below.cell ((Below.refl _ _).alloc (Nat.le_refl _) _) (p := ⟨w.heap.size, 0, none⟩) (by simp; omega)).trans hHeld
      clear hK K
      refine norm_ (a' := ?_) ?_ ?_
      rotate_left
      · show Act.put _ (some 5) _ = _
        simp only [Act.put, List.setIfInBounds_toArray, List.set_cons_zero, List.set_cons_succ, i64_w, i32_w]
        rfl
      refine one_ (i := 8) (N := none) #[true, true, true, true, true, true, true, true, true, false] rfl rfl (by kernel_rfl) (by decide) ?_
      intro K hK0
      have hK := Aside0.mk hK0
      clear hK0
      refine store_row_step (by rfl) (t := 126) (old := #[.int .i64 0, .int .i64 0, .bool false, .bool false, .bool false, .bool false]) (cells := #[.int .i64 s0, .int .i64 s1, .bool s2, .bool s3, .bool s4, .bool s5]) (g := (W1.alloc (.map shapeMap 11)).heap.size) rfl (by first | rfl | simp) (by first | rfl | simp) (heap_alloc_new _ _) (by kernel_rfl) rfl (by simp [Value.oneCell']) ?_
      refine hK.out _ _ ?_ (fun hHeld => ?_)
      · exact (World.cell?_of_block (w := ((W1.alloc (.map shapeMap 11)).alloc (.cells #[.int .i64 0, .int .i64 0, .bool false, .bool false, .bool false, .bool false] 126))) (setRow_other ((W1.alloc (.map shapeMap 11)).alloc (.cells #[.int .i64 0, .int .i64 0, .bool false, .bool false, .bool false, .bool false] 126)) (W1.alloc (.map shapeMap 11)).heap.size w.heap.size #[.int .i64 s0, .int .i64 s1, .bool s2, .bool s3, .bool s4, .bool s5] (by simp; omega))).trans hHeld
      clear hK K
      refine norm_ (a' := ?_) ?_ ?_
      rotate_left
      · show Act.put _ none _ = _
        rfl
      refine pure_ (i := 9) (N := some 6) (v := ?_) (a' := ?_) #[true, true, true, true, true, true, true, true, true, true] rfl rfl (by kernel_rfl) (fun _ _ _ h => h) (Or.inl ⟨by rfl, ?_⟩) ?_ ?_
      rotate_left
      · intro w'
        go_simp
        with_reducible rfl
      rotate_left
      · simp only [Act.put, List.setIfInBounds_toArray, List.set_cons_zero, List.set_cons_succ, i64_w, i32_w]
        rfl
      refine done_ (by kernel_rfl) ?_
      refine hSh _ _ ?_
      exact hrest _ _ _ (hB1.trans (below_setRow (((Below.refl _ _).alloc (by omega) _).alloc (by simp; omega) _) (by simp; omega) _)) ((setRow_other _ _ _ _ (by simp; omega)).trans ((Below.heap_alloc _ _ _ (by simp; omega)).trans ((Below.heap_alloc _ _ _ hlt).trans hbx))) (setRow_heap _ _ _ _ 126 (0, 0) (heap_alloc_new _ _))
    · intro K hK0
      have hK := Aside0.mk hK0
      clear hK0
      refine event_step (v := .pointer (some ⟨(W1.alloc (.map shapeMap 11)).heap.size, 0, none⟩)) (w1 := (W1.alloc (.map shapeMap 11)).alloc (.cells #[.int .i64 0, .int .i64 0, .bool false, .bool false, .bool false, .bool false] 126)) (by rfl) ?_ ?_
      · first | (go_simp; done) | (go_simp; rfl)
      refine hK.out _ _ ?_ (fun hHeld => ?_)
      · exact (Below.cell ((Below.refl _ _).alloc (Nat.le_refl _) _) (p := ⟨w.heap.size, 0, none⟩) (by simp; omega)).trans hHeld
      clear hK K
      refine norm_ (a' := ?_) ?_ ?_
      rotate_left
      · show Act.put _ (some 5) _ = _
        simp only [Act.put, List.setIfInBounds_toArray, List.set_cons_zero, List.set_cons_succ, i64_w, i32_w]
        rfl
      refine one_ (i := 3) (N := some 11) #[true, true, true, true, false, false, false, true, false, false] rfl rfl (by kernel_rfl) (by decide) ?_
      intro K hK0
      have hK := Aside0.mk hK0
      clear hK0
      have hq := hlk2 W1 (.cells #[.int .i64 0, .int .i64 0, .bool false, .bool false, .bool false, .bool false] 126)
      try simp only [World.size_alloc] at hq
      refine event_step (v := .tuple #[.agg #[.int .i64 s0, .int .i64 s1, .bool s2, .bool s3, .bool s4, .bool s5], .bool is]) (w1 := ((W1.alloc (.map shapeMap 11)).alloc (.cells #[.int .i64 0, .int .i64 0, .bool false, .bool false, .bool false, .bool false] 126))) (by rfl) ?_ ?_
      · first | (go_simp; done) | (go_simp; rfl)
      clear hq
      refine hK.out _ _ hHeld (fun hHeld => ?_)
      clear hK K
      refine norm_ (a' := ?_) ?_ ?_
      rotate_left
      · show Act.put _ (some 11) _ = _
        simp only [Act.put, List.setIfInBounds_toArray, List.set_cons_zero, List.set_cons_succ, i64_w, i32_w]
        rfl
      refine pure_ (i := 4) (N := some 7) (v := ?_) (a' := ?_) #[true, true, true, true, true, false, false, true, false, false] rfl rfl (by kernel_rfl) (fun _ _ _ h => h) (Or.inl ⟨by rfl, ?_⟩) ?_ ?_
      rotate_left
      · intro w'
        go_simp
        with_reducible rfl
      rotate_left
      · simp only [Act.put, List.setIfInBounds_toArray, List.set_cons_zero, List.set_cons_succ, i64_w, i32_w]
        rfl
      refine pure_ (i := 5) (N := some 12) (v := ?_) (a' := ?_) #[true, true, true, true, true, true, false, true, false, false] rfl rfl (by kernel_rfl) (fun _ _ _ h => h) (Or.inl ⟨by rfl, ?_⟩) ?_ ?_
      rotate_left
      · intro w'
        go_simp
        with_reducible rfl
      rotate_left
      · simp only [Act.put, List.setIfInBounds_toArray, List.set_cons_zero, List.set_cons_succ, i64_w, i32_w]
        rfl
      refine pure_ (i := 6) (N := some 13) (v := ?_) (a' := ?_) #[true, true, true, true, true, true, true, true, false, false] rfl rfl (by kernel_rfl) (fun _ _ _ h => h) (Or.inl ⟨by rfl, ?_⟩) ?_ ?_
      rotate_left
      · intro w'
        go_simp
        with_reducible rfl
      rotate_left
      · simp only [Act.put, List.setIfInBounds_toArray, List.set_cons_zero, List.set_cons_succ, i64_w, i32_w]
        rfl
      refine one_ (i := 8) (N := none) #[true, true, true, true, true, true, true, true, true, false] rfl rfl (by kernel_rfl) (by decide) ?_
      intro K hK0
      have hK := Aside0.mk hK0
      clear hK0
      refine store_row_step (by rfl) (t := 126) (old := #[.int .i64 0, .int .i64 0, .bool false, .bool false, .bool false, .bool false]) (cells := #[.int .i64 s0, .int .i64 s1, .bool s2, .bool s3, .bool s4, .bool s5]) (g := (W1.alloc (.map shapeMap 11)).heap.size) rfl (by first | rfl | simp) (by first | rfl | simp) (heap_alloc_new _ _) (by kernel_rfl) rfl (by simp [Value.oneCell']) ?_
      refine hK.out _ _ ?_ (fun hHeld => ?_)
      · exact (World.cell?_of_block (w := ((W1.alloc (.map shapeMap 11)).alloc (.cells #[.int .i64 0, .int .i64 0, .bool false, .bool false, .bool false, .bool false] 126))) (setRow_other ((W1.alloc (.map shapeMap 11)).alloc (.cells #[.int .i64 0, .int .i64 0, .bool false, .bool false, .bool false, .bool false] 126)) (W1.alloc (.map shapeMap 11)).heap.size w.heap.size #[.int .i64 s0, .int .i64 s1, .bool s2, .bool s3, .bool s4, .bool s5] (by simp; omega))).trans hHeld
      clear hK K
      refine norm_ (a' := ?_) ?_ ?_
      rotate_left
      · show Act.put _ none _ = _
        rfl
      refine pure_ (i := 9) (N := some 6) (v := ?_) (a' := ?_) #[true, true, true, true, true, true, true, true, true, true] rfl rfl (by kernel_rfl) (fun _ _ _ h => h) (Or.inl ⟨by rfl, ?_⟩) ?_ ?_
      rotate_left
      · intro w'
        go_simp
        with_reducible rfl
      rotate_left
      · simp only [Act.put, List.setIfInBounds_toArray, List.set_cons_zero, List.set_cons_succ, i64_w, i32_w]
        rfl
      refine done_ (by kernel_rfl) ?_
      refine hSh _ _ ?_
      exact hrest _ _ _ (hB1.trans (below_setRow (((Below.refl _ _).alloc (by omega) _).alloc (by simp; omega) _) (by simp; omega) _)) ((setRow_other _ _ _ _ (by simp; omega)).trans ((Below.heap_alloc _ _ _ (by simp; omega)).trans ((Below.heap_alloc _ _ _ hlt).trans hbx))) (setRow_heap _ _ _ _ 126 (0, 0) (heap_alloc_new _ _))
  · intro K hK0
    have hK := Aside0.mk hK0
    clear hK0
    refine event_step (v := .pointer (some ⟨W1.heap.size, 0, none⟩)) (w1 := W1.alloc (.cells #[.int .i64 0, .int .i64 0, .bool false, .bool false, .bool false, .bool false] 126)) (by rfl) ?_ ?_
    · first | (go_simp; done) | (go_simp; rfl)
    refine hK.out _ _ ?_ (fun hHeld => ?_)
    · exact (Below.cell ((Below.refl _ _).alloc (Nat.le_refl _) _) (p := ⟨w.heap.size, 0, none⟩) hlt).trans hHeld
    clear hK K
    refine norm_ (a' := ?_) ?_ ?_
    rotate_left
    · show Act.put _ (some 5) _ = _
      simp only [Act.put, List.setIfInBounds_toArray, List.set_cons_zero, List.set_cons_succ, i64_w, i32_w]
      rfl
    refine one_ (i := 0) (N := some 8) #[true, true, true, false, false, false, false, true, false, false] rfl rfl (by kernel_rfl) (by decide) ?_
    intro K hK0
    have hK := Aside0.mk hK0
    clear hK0
    refine goes_ Tryd.func91 (by kernel_rfl) rfl #[] (by rfl) rfl rfl (by simp) ?_
    refine (shapes_walk _).mono ?_
    rintro e w' ⟨rfl, rfl⟩
    refine ⟨_, rfl, ?_⟩
    refine hK.out _ _ ?_ (fun hHeld => ?_)
    · exact (Below.cell ((Below.refl _ _).alloc (Nat.le_refl _) _) (p := ⟨w.heap.size, 0, none⟩) (by simp; omega)).trans hHeld
    clear hK K
    refine norm_ (a' := ?_) ?_ ?_
    rotate_left
    · show Act.put _ (some 8) _ = _
      simp only [Act.put, List.setIfInBounds_toArray, List.set_cons_zero, List.set_cons_succ, i64_w, i32_w]
      rfl
    refine one_ (i := 3) (N := some 11) #[true, true, true, true, false, false, false, true, false, false] rfl rfl (by kernel_rfl) (by decide) ?_
    intro K hK0
    have hK := Aside0.mk hK0
    clear hK0
    have hq := hlk (W1.alloc (.cells #[.int .i64 0, .int .i64 0, .bool false, .bool false, .bool false, .bool false] 126))
    try simp only [World.size_alloc] at hq
    refine event_step (v := .tuple #[.agg #[.int .i64 s0, .int .i64 s1, .bool s2, .bool s3, .bool s4, .bool s5], .bool is]) (w1 := ((W1.alloc (.cells #[.int .i64 0, .int .i64 0, .bool false, .bool false, .bool false, .bool false] 126)).alloc (.map shapeMap 11))) (by rfl) ?_ ?_
    · first | (go_simp; done) | (go_simp; rfl)
    clear hq
    refine hK.out _ _ hHeld (fun hHeld => ?_)
    clear hK K
    refine norm_ (a' := ?_) ?_ ?_
    rotate_left
    · show Act.put _ (some 11) _ = _
      simp only [Act.put, List.setIfInBounds_toArray, List.set_cons_zero, List.set_cons_succ, i64_w, i32_w]
      rfl
    refine pure_ (i := 4) (N := some 7) (v := ?_) (a' := ?_) #[true, true, true, true, true, false, false, true, false, false] rfl rfl (by kernel_rfl) (fun _ _ _ h => h) (Or.inl ⟨by rfl, ?_⟩) ?_ ?_
    rotate_left
    · intro w'
      go_simp
      with_reducible rfl
    rotate_left
    · simp only [Act.put, List.setIfInBounds_toArray, List.set_cons_zero, List.set_cons_succ, i64_w, i32_w]
      rfl
    refine pure_ (i := 5) (N := some 12) (v := ?_) (a' := ?_) #[true, true, true, true, true, true, false, true, false, false] rfl rfl (by kernel_rfl) (fun _ _ _ h => h) (Or.inl ⟨by rfl, ?_⟩) ?_ ?_
    rotate_left
    · intro w'
      go_simp
      with_reducible rfl
    rotate_left
    · simp only [Act.put, List.setIfInBounds_toArray, List.set_cons_zero, List.set_cons_succ, i64_w, i32_w]
      rfl
    refine pure_ (i := 6) (N := some 13) (v := ?_) (a' := ?_) #[true, true, true, true, true, true, true, true, false, false] rfl rfl (by kernel_rfl) (fun _ _ _ h => h) (Or.inl ⟨by rfl, ?_⟩) ?_ ?_
    rotate_left
    · intro w'
      go_simp
      with_reducible rfl
    rotate_left
    · simp only [Act.put, List.setIfInBounds_toArray, List.set_cons_zero, List.set_cons_succ, i64_w, i32_w]
      rfl
    refine one_ (i := 8) (N := none) #[true, true, true, true, true, true, true, true, true, false] rfl rfl (by kernel_rfl) (by decide) ?_
    intro K hK0
    have hK := Aside0.mk hK0
    clear hK0
    refine store_row_step (by rfl) (t := 126) (old := #[.int .i64 0, .int .i64 0, .bool false, .bool false, .bool false, .bool false]) (cells := #[.int .i64 s0, .int .i64 s1, .bool s2, .bool s3, .bool s4, .bool s5]) (g := W1.heap.size) rfl (by first | rfl | simp) (by first | rfl | simp) ((Below.heap_alloc _ _ _ (by simp)).trans (heap_alloc_new _ _)) (by kernel_rfl) rfl (by simp [Value.oneCell']) ?_
    refine hK.out _ _ ?_ (fun hHeld => ?_)
    · exact (World.cell?_of_block (w := ((W1.alloc (.cells #[.int .i64 0, .int .i64 0, .bool false, .bool false, .bool false, .bool false] 126)).alloc (.map shapeMap 11))) (setRow_other ((W1.alloc (.cells #[.int .i64 0, .int .i64 0, .bool false, .bool false, .bool false, .bool false] 126)).alloc (.map shapeMap 11)) W1.heap.size w.heap.size #[.int .i64 s0, .int .i64 s1, .bool s2, .bool s3, .bool s4, .bool s5] (by omega))).trans hHeld
    clear hK K
    refine norm_ (a' := ?_) ?_ ?_
    rotate_left
    · show Act.put _ none _ = _
      rfl
    refine pure_ (i := 9) (N := some 6) (v := ?_) (a' := ?_) #[true, true, true, true, true, true, true, true, true, true] rfl rfl (by kernel_rfl) (fun _ _ _ h => h) (Or.inl ⟨by rfl, ?_⟩) ?_ ?_
    rotate_left
    · intro w'
      go_simp
      with_reducible rfl
    rotate_left
    · simp only [Act.put, List.setIfInBounds_toArray, List.set_cons_zero, List.set_cons_succ, i64_w, i32_w]
      rfl
    refine done_ (by kernel_rfl) ?_
    refine hSh _ _ ?_
    exact hrest _ _ _ (hB1.trans (below_setRow (((Below.refl _ _).alloc (by omega) _).alloc (by simp; omega) _) (by omega) _)) ((setRow_other _ _ _ _ (by omega)).trans ((Below.heap_alloc _ _ _ (by simp; omega)).trans ((Below.heap_alloc _ _ _ hlt).trans hbx))) (setRow_heap _ _ _ _ 126 (0, 0) ((Below.heap_alloc _ _ _ (by simp)).trans (heap_alloc_new _ _)))

end Go.Proofs.YtcppmghhijffpaaDoorW.PrintMore
