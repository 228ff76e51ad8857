import Derived.Test.YtcppmghhijffpaaDoorTreeRight
import Derived.Deep.WholeRow
import Derived.KernelRfl
/-! redactor/tree.right: may a node be? By the shapes, every way out. -/
namespace Go.Proofs.YtcppmghhijffpaaDoorW.PrintMore
open Go.RowKit Go.Proofs.YtcppmghhijffpaaDoorW.PrintWords Go.Proofs.YtcppmghhijffpaaDoorW.PrintLast
set_option linter.unusedSimpArgs false
set_option linter.unusedVariables false
theorem cell_blk {W : World} {b : Nat} {cs : Array Value} {t : TypeId} (h : W.heap[b]? = some (.cells cs t (0, 0))) (i : Nat) : W.cell? ⟨b, i, none⟩ = cs[i]? := by
  show (match W.heap[b]? with | some (.cells c _ _) => c[i]? | _ => none) = _
  rw [h]
set_option maxHeartbeats 16000000 in
set_option maxRecDepth 100000 in
theorem tn_cell (k c : Int) (nt sv : Bool) (A3 A4 A8 : Option Addr) (rl c3 tl c4 kl c8 : Nat) (n mn mx g s0 s1 : Int) (w : World)
    (bm b5 : Nat) (W' : World) (hB : Below w.heap.size w W') (hx : W'.heap[w.heap.size]? = some (.cells #[.int .u8 k, .int .i32 c, .bool nt, .slice A3 rl c3, .slice A4 tl c4, .int .i64 n, .int .i64 mn, .int .i64 mx, .slice A8 kl c8] 60 (0, 0))) (hb : W'.heap[b5]? = some (.cells #[.int .i64 s0, .int .i64 s1, .bool true, .bool false, .bool false, .bool false] 126 (0, 0))) :
    Code.wp Tryd.prog (restOf Tryd.f68.body) (bodyPost Tryd.prog Tryd.f68 fun e w' => e = .returned (.bool (!decide ((kl : Int) < s0) && !decide (s1 < (kl : Int)) && isCell c && (!nt && decide (rl = 0) && decide (tl = 0)) && (n == 0) && ((mn == 0) && (mx == 0)))) ∧ Below w.heap.size w w') { tmps := #[.agg #[.int .u8 k, .int .i32 c, .bool nt, .slice A3 rl c3, .slice A4 tl c4, .int .i64 n, .int .i64 mn, .int .i64 mx, .slice A8 kl c8], .int .i64 g, .pointer (some ⟨w.heap.size, 0, none⟩), undef, .bool false, .pointer (some ⟨b5, 0, none⟩), .bool true, .tuple #[.agg #[.int .i64 s0, .int .i64 s1, .bool true, .bool false, .bool false, .bool false], .bool true], .map (some bm), .pointer (some ⟨w.heap.size, 0, none⟩), .int .u8 k, .tuple #[.agg #[.int .i64 s0, .int .i64 s1, .bool true, .bool false, .bool false, .bool false], .bool true], .agg #[.int .i64 s0, .int .i64 s1, .bool true, .bool false, .bool false, .bool false], .bool true, undef, undef, undef, undef, undef, undef, undef, undef, undef, undef, undef, undef, undef, undef, undef, undef, undef, undef, undef, undef, undef, undef, undef, undef, undef, undef, undef, undef, undef, undef, undef, undef, undef, undef, undef, undef, undef, undef, undef, undef, undef, undef, undef, undef, undef, undef, undef, undef, undef, undef, undef, undef, undef, undef, undef, undef, undef, undef, undef, undef, undef, undef, undef, undef, undef, undef, undef, undef, undef, undef, undef, undef, undef, undef, undef, undef, undef, undef, undef, undef, undef, undef, undef, undef, undef, undef, undef, undef, undef, undef, undef, undef, undef, undef, undef, undef, undef, undef, undef, undef, undef, undef, undef, undef, undef, undef, undef, undef, undef, undef, undef, undef, undef, undef, undef, undef, undef, undef], defers := [] } W' := by
  have hltx : w.heap.size < W'.heap.size := (Array.getElem?_eq_some_iff.1 hx).1
  have hlty : b5 < W'.heap.size := (Array.getElem?_eq_some_iff.1 hb).1
  have x1 := cell_blk hx 1
  have x2 := cell_blk hx 2
  have x3 := cell_blk hx 3
  have x4 := cell_blk hx 4
  have x5 := cell_blk hx 5
  have x6 := cell_blk hx 6
  have x7 := cell_blk hx 7
  have x8 := cell_blk hx 8
  have y0 := cell_blk hb 0
  have y1 := cell_blk hb 1
  have y2 := cell_blk hb 2
  have y3 := cell_blk hb 3
  have y4 := cell_blk hb 4
  have y5 := cell_blk hb 5
  simp only [List.getElem?_toArray, List.getElem?_cons_zero, List.getElem?_cons_succ] at x1 x2 x3 x4 x5 x6 x7 x8 y0 y1 y2 y3 y4 y5
  simp only [restOf, Tryd.f68]
  clear hx hb
  by_cases h_ : (kl : Int) < s0
  · have d1 : decide ((kl : Int) < s0) = true := decide_eq_true h_
    clear h_
    go_wp2_with (first | (go_at_call 35; refine (right_walk _ _).mono ?_; rintro e w' ⟨rfl, rfl⟩; rw [d3]) | (go_at_call 93; refine (tempty_walk _ _ _ _ _ _ _ _).mono ?_; rintro e w2 ⟨rfl, hb2⟩; have x5b := (hb2.cell (p := ⟨w.heap.size, 5, none⟩) hltx).trans x5; have x6b := (hb2.cell (p := ⟨w.heap.size, 6, none⟩) hltx).trans x6; have x7b := (hb2.cell (p := ⟨w.heap.size, 7, none⟩) hltx).trans x7; have y3b := (hb2.cell (p := ⟨b5, 3, none⟩) hlty).trans y3; have y4b := (hb2.cell (p := ⟨b5, 4, none⟩) hlty).trans y4; have y5b := (hb2.cell (p := ⟨b5, 5, none⟩) hlty).trans y5; have hB3 := hB.trans (hb2.mono hB.size); rw [d4]))
    go_ret
    exact ⟨by simp [d1], hB⟩
  · have d1 : decide ((kl : Int) < s0) = false := decide_eq_false h_
    clear h_
    by_cases h_ : s1 < (kl : Int)
    · have d2 : decide (s1 < (kl : Int)) = true := decide_eq_true h_
      clear h_
      go_wp2_with (first | (go_at_call 35; refine (right_walk _ _).mono ?_; rintro e w' ⟨rfl, rfl⟩; rw [d3]) | (go_at_call 93; refine (tempty_walk _ _ _ _ _ _ _ _).mono ?_; rintro e w2 ⟨rfl, hb2⟩; have x5b := (hb2.cell (p := ⟨w.heap.size, 5, none⟩) hltx).trans x5; have x6b := (hb2.cell (p := ⟨w.heap.size, 6, none⟩) hltx).trans x6; have x7b := (hb2.cell (p := ⟨w.heap.size, 7, none⟩) hltx).trans x7; have y3b := (hb2.cell (p := ⟨b5, 3, none⟩) hlty).trans y3; have y4b := (hb2.cell (p := ⟨b5, 4, none⟩) hlty).trans y4; have y5b := (hb2.cell (p := ⟨b5, 5, none⟩) hlty).trans y5; have hB3 := hB.trans (hb2.mono hB.size); rw [d4]))
      go_ret
      exact ⟨by simp [d1, d2], hB⟩
    · have d2 : decide (s1 < (kl : Int)) = false := decide_eq_false h_
      clear h_
      by_cases h_ : isCell c = true
      · have d3 : isCell c = true := h_
        clear h_
        by_cases h_ : (!nt && decide (rl = 0) && decide (tl = 0)) = true
        · have d4 : (!nt && decide (rl = 0) && decide (tl = 0)) = true := h_
          clear h_
          by_cases h_ : n = 0
          · have d5 : (n == 0) = true := beq_iff_eq.mpr h_
            have d5d : decide (n = 0) = true := decide_eq_true h_
            have d5n : (n != 0) = false := bne_eq_false_iff_eq.mpr h_
            clear h_
            by_cases h_ : mn = 0
            · have e1 : (mn == 0) = true := beq_iff_eq.mpr h_
              have e1d : decide (mn = 0) = true := decide_eq_true h_
              have e1n : (mn != 0) = false := bne_eq_false_iff_eq.mpr h_
              clear h_
              by_cases h_ : mx = 0
              · have e2 : (mx == 0) = true := beq_iff_eq.mpr h_
                have e2d : decide (mx = 0) = true := decide_eq_true h_
                have e2n : (mx != 0) = false := bne_eq_false_iff_eq.mpr h_
                clear h_
                go_wp2_with (first | (go_at_call 35; refine (right_walk _ _).mono ?_; rintro e w' ⟨rfl, rfl⟩; rw [d3]) | (go_at_call 93; refine (tempty_walk _ _ _ _ _ _ _ _).mono ?_; rintro e w2 ⟨rfl, hb2⟩; have x5b := (hb2.cell (p := ⟨w.heap.size, 5, none⟩) hltx).trans x5; have x6b := (hb2.cell (p := ⟨w.heap.size, 6, none⟩) hltx).trans x6; have x7b := (hb2.cell (p := ⟨w.heap.size, 7, none⟩) hltx).trans x7; have y3b := (hb2.cell (p := ⟨b5, 3, none⟩) hlty).trans y3; have y4b := (hb2.cell (p := ⟨b5, 4, none⟩) hlty).trans y4; have y5b := (hb2.cell (p := ⟨b5, 5, none⟩) hlty).trans y5; have hB3 := hB.trans (hb2.mono hB.size); rw [d4]))
                go_ret
                exact ⟨by simp [d1, d2, d3, d4, d5, d5d, d5n, e1, e1d, e1n, e2, e2d, e2n], hB3⟩
              · have e2 : (mx == 0) = false := beq_eq_false_iff_ne.mpr h_
                have e2d : decide (mx = 0) = false := decide_eq_false h_
                have e2n : (mx != 0) = true := bne_iff_ne.mpr h_
                clear h_
                go_wp2_with (first | (go_at_call 35; refine (right_walk _ _).mono ?_; rintro e w' ⟨rfl, rfl⟩; rw [d3]) | (go_at_call 93; refine (tempty_walk _ _ _ _ _ _ _ _).mono ?_; rintro e w2 ⟨rfl, hb2⟩; have x5b := (hb2.cell (p := ⟨w.heap.size, 5, none⟩) hltx).trans x5; have x6b := (hb2.cell (p := ⟨w.heap.size, 6, none⟩) hltx).trans x6; have x7b := (hb2.cell (p := ⟨w.heap.size, 7, none⟩) hltx).trans x7; have y3b := (hb2.cell (p := ⟨b5, 3, none⟩) hlty).trans y3; have y4b := (hb2.cell (p := ⟨b5, 4, none⟩) hlty).trans y4; have y5b := (hb2.cell (p := ⟨b5, 5, none⟩) hlty).trans y5; have hB3 := hB.trans (hb2.mono hB.size); rw [d4]))
                go_ret
                exact ⟨by simp [d1, d2, d3, d4, d5, d5d, d5n, e1, e1d, e1n, e2, e2d, e2n], hB3⟩
            · have e1 : (mn == 0) = false := beq_eq_false_iff_ne.mpr h_
              have e1d : decide (mn = 0) = false := decide_eq_false h_
              have e1n : (mn != 0) = true := bne_iff_ne.mpr h_
              clear h_
              go_wp2_with (first | (go_at_call 35; refine (right_walk _ _).mono ?_; rintro e w' ⟨rfl, rfl⟩; rw [d3]) | (go_at_call 93; refine (tempty_walk _ _ _ _ _ _ _ _).mono ?_; rintro e w2 ⟨rfl, hb2⟩; have x5b := (hb2.cell (p := ⟨w.heap.size, 5, none⟩) hltx).trans x5; have x6b := (hb2.cell (p := ⟨w.heap.size, 6, none⟩) hltx).trans x6; have x7b := (hb2.cell (p := ⟨w.heap.size, 7, none⟩) hltx).trans x7; have y3b := (hb2.cell (p := ⟨b5, 3, none⟩) hlty).trans y3; have y4b := (hb2.cell (p := ⟨b5, 4, none⟩) hlty).trans y4; have y5b := (hb2.cell (p := ⟨b5, 5, none⟩) hlty).trans y5; have hB3 := hB.trans (hb2.mono hB.size); rw [d4]))
              go_ret
              exact ⟨by simp [d1, d2, d3, d4, d5, d5d, d5n, e1, e1d, e1n], hB3⟩
          · have d5 : (n == 0) = false := beq_eq_false_iff_ne.mpr h_
            have d5d : decide (n = 0) = false := decide_eq_false h_
            have d5n : (n != 0) = true := bne_iff_ne.mpr h_
            clear h_
            go_wp2_with (first | (go_at_call 35; refine (right_walk _ _).mono ?_; rintro e w' ⟨rfl, rfl⟩; rw [d3]) | (go_at_call 93; refine (tempty_walk _ _ _ _ _ _ _ _).mono ?_; rintro e w2 ⟨rfl, hb2⟩; have x5b := (hb2.cell (p := ⟨w.heap.size, 5, none⟩) hltx).trans x5; have x6b := (hb2.cell (p := ⟨w.heap.size, 6, none⟩) hltx).trans x6; have x7b := (hb2.cell (p := ⟨w.heap.size, 7, none⟩) hltx).trans x7; have y3b := (hb2.cell (p := ⟨b5, 3, none⟩) hlty).trans y3; have y4b := (hb2.cell (p := ⟨b5, 4, none⟩) hlty).trans y4; have y5b := (hb2.cell (p := ⟨b5, 5, none⟩) hlty).trans y5; have hB3 := hB.trans (hb2.mono hB.size); rw [d4]))
            go_ret
            exact ⟨by simp [d1, d2, d3, d4, d5, d5d, d5n], hB3⟩
        · have d4 : (!nt && decide (rl = 0) && decide (tl = 0)) = false := Bool.eq_false_iff.mpr h_
          clear h_
          go_wp2_with (first | (go_at_call 35; refine (right_walk _ _).mono ?_; rintro e w' ⟨rfl, rfl⟩; rw [d3]) | (go_at_call 93; refine (tempty_walk _ _ _ _ _ _ _ _).mono ?_; rintro e w2 ⟨rfl, hb2⟩; have x5b := (hb2.cell (p := ⟨w.heap.size, 5, none⟩) hltx).trans x5; have x6b := (hb2.cell (p := ⟨w.heap.size, 6, none⟩) hltx).trans x6; have x7b := (hb2.cell (p := ⟨w.heap.size, 7, none⟩) hltx).trans x7; have y3b := (hb2.cell (p := ⟨b5, 3, none⟩) hlty).trans y3; have y4b := (hb2.cell (p := ⟨b5, 4, none⟩) hlty).trans y4; have y5b := (hb2.cell (p := ⟨b5, 5, none⟩) hlty).trans y5; have hB3 := hB.trans (hb2.mono hB.size); rw [d4]))
          go_ret
          exact ⟨by simp [d1, d2, d3, d4], hB3⟩
      · have d3 : isCell c = false := by simpa using h_
        clear h_
        go_wp2_with (first | (go_at_call 35; refine (right_walk _ _).mono ?_; rintro e w' ⟨rfl, rfl⟩; rw [d3]) | (go_at_call 93; refine (tempty_walk _ _ _ _ _ _ _ _).mono ?_; rintro e w2 ⟨rfl, hb2⟩; have x5b := (hb2.cell (p := ⟨w.heap.size, 5, none⟩) hltx).trans x5; have x6b := (hb2.cell (p := ⟨w.heap.size, 6, none⟩) hltx).trans x6; have x7b := (hb2.cell (p := ⟨w.heap.size, 7, none⟩) hltx).trans x7; have y3b := (hb2.cell (p := ⟨b5, 3, none⟩) hlty).trans y3; have y4b := (hb2.cell (p := ⟨b5, 4, none⟩) hlty).trans y4; have y5b := (hb2.cell (p := ⟨b5, 5, none⟩) hlty).trans y5; have hB3 := hB.trans (hb2.mono hB.size); rw [d4]))
        go_ret
        exact ⟨by simp [d1, d2, d3], hB⟩
set_option maxHeartbeats 16000000 in
set_option maxRecDepth 100000 in
theorem tn_bare (k c : Int) (nt sv : Bool) (A3 A4 A8 : Option Addr) (rl c3 tl c4 kl c8 : Nat) (n mn mx g s0 s1 : Int) (w : World)
    (bm b5 : Nat) (W' : World) (hB : Below w.heap.size w W') (hx : W'.heap[w.heap.size]? = some (.cells #[.int .u8 k, .int .i32 c, .bool nt, .slice A3 rl c3, .slice A4 tl c4, .int .i64 n, .int .i64 mn, .int .i64 mx, .slice A8 kl c8] 60 (0, 0))) (hb : W'.heap[b5]? = some (.cells #[.int .i64 s0, .int .i64 s1, .bool false, .bool false, .bool false, .bool false] 126 (0, 0))) :
    Code.wp Tryd.prog (restOf Tryd.f68.body) (bodyPost Tryd.prog Tryd.f68 fun e w' => e = .returned (.bool (!decide ((kl : Int) < s0) && !decide (s1 < (kl : Int)) && (c == 0) && (!nt && decide (rl = 0) && decide (tl = 0)) && (n == 0) && ((mn == 0) && (mx == 0)))) ∧ Below w.heap.size w w') { tmps := #[.agg #[.int .u8 k, .int .i32 c, .bool nt, .slice A3 rl c3, .slice A4 tl c4, .int .i64 n, .int .i64 mn, .int .i64 mx, .slice A8 kl c8], .int .i64 g, .pointer (some ⟨w.heap.size, 0, none⟩), undef, .bool false, .pointer (some ⟨b5, 0, none⟩), .bool true, .tuple #[.agg #[.int .i64 s0, .int .i64 s1, .bool false, .bool false, .bool false, .bool false], .bool true], .map (some bm), .pointer (some ⟨w.heap.size, 0, none⟩), .int .u8 k, .tuple #[.agg #[.int .i64 s0, .int .i64 s1, .bool false, .bool false, .bool false, .bool false], .bool true], .agg #[.int .i64 s0, .int .i64 s1, .bool false, .bool false, .bool false, .bool false], .bool true, undef, undef, undef, undef, undef, undef, undef, undef, undef, undef, undef, undef, undef, undef, undef, undef, undef, undef, undef, undef, undef, undef, undef, undef, undef, undef, undef, undef, undef, undef, undef, undef, undef, undef, undef, undef, undef, undef, undef, undef, undef, undef, undef, undef, undef, undef, undef, undef, undef, undef, undef, undef, undef, undef, undef, undef, undef, undef, undef, undef, undef, undef, undef, undef, undef, undef, undef, undef, undef, undef, undef, undef, undef, undef, undef, undef, undef, undef, undef, undef, undef, undef, undef, undef, undef, undef, undef, undef, undef, undef, undef, undef, undef, undef, undef, undef, undef, undef, undef, undef, undef, undef, undef, undef, undef, undef, undef, undef, undef, undef, undef, undef, undef, undef, undef, undef, undef, undef], defers := [] } W' := by
  have hltx : w.heap.size < W'.heap.size := (Array.getElem?_eq_some_iff.1 hx).1
  have hlty : b5 < W'.heap.size := (Array.getElem?_eq_some_iff.1 hb).1
  have x1 := cell_blk hx 1
  have x2 := cell_blk hx 2
  have x3 := cell_blk hx 3
  have x4 := cell_blk hx 4
  have x5 := cell_blk hx 5
  have x6 := cell_blk hx 6
  have x7 := cell_blk hx 7
  have x8 := cell_blk hx 8
  have y0 := cell_blk hb 0
  have y1 := cell_blk hb 1
  have y2 := cell_blk hb 2
  have y3 := cell_blk hb 3
  have y4 := cell_blk hb 4
  have y5 := cell_blk hb 5
  simp only [List.getElem?_toArray, List.getElem?_cons_zero, List.getElem?_cons_succ] at x1 x2 x3 x4 x5 x6 x7 x8 y0 y1 y2 y3 y4 y5
  simp only [restOf, Tryd.f68]
  clear hx hb
  by_cases h_ : (kl : Int) < s0
  · have d1 : decide ((kl : Int) < s0) = true := decide_eq_true h_
    clear h_
    go_wp2_with (go_at_call 93; refine (tempty_walk _ _ _ _ _ _ _ _).mono ?_; rintro e w2 ⟨rfl, hb2⟩; have x5b := (hb2.cell (p := ⟨w.heap.size, 5, none⟩) hltx).trans x5; have x6b := (hb2.cell (p := ⟨w.heap.size, 6, none⟩) hltx).trans x6; have x7b := (hb2.cell (p := ⟨w.heap.size, 7, none⟩) hltx).trans x7; have y3b := (hb2.cell (p := ⟨b5, 3, none⟩) hlty).trans y3; have y4b := (hb2.cell (p := ⟨b5, 4, none⟩) hlty).trans y4; have y5b := (hb2.cell (p := ⟨b5, 5, none⟩) hlty).trans y5; have hB3 := hB.trans (hb2.mono hB.size); rw [d4])
    go_ret
    exact ⟨by simp [d1], hB⟩
  · have d1 : decide ((kl : Int) < s0) = false := decide_eq_false h_
    clear h_
    by_cases h_ : s1 < (kl : Int)
    · have d2 : decide (s1 < (kl : Int)) = true := decide_eq_true h_
      clear h_
      go_wp2_with (go_at_call 93; refine (tempty_walk _ _ _ _ _ _ _ _).mono ?_; rintro e w2 ⟨rfl, hb2⟩; have x5b := (hb2.cell (p := ⟨w.heap.size, 5, none⟩) hltx).trans x5; have x6b := (hb2.cell (p := ⟨w.heap.size, 6, none⟩) hltx).trans x6; have x7b := (hb2.cell (p := ⟨w.heap.size, 7, none⟩) hltx).trans x7; have y3b := (hb2.cell (p := ⟨b5, 3, none⟩) hlty).trans y3; have y4b := (hb2.cell (p := ⟨b5, 4, none⟩) hlty).trans y4; have y5b := (hb2.cell (p := ⟨b5, 5, none⟩) hlty).trans y5; have hB3 := hB.trans (hb2.mono hB.size); rw [d4])
      go_ret
      exact ⟨by simp [d1, d2], hB⟩
    · have d2 : decide (s1 < (kl : Int)) = false := decide_eq_false h_
      clear h_
      by_cases h_ : c = 0
      · have d3 : (c == 0) = true := beq_iff_eq.mpr h_
        have d3d : decide (c = 0) = true := decide_eq_true h_
        have d3n : (c != 0) = false := bne_eq_false_iff_eq.mpr h_
        clear h_
        by_cases h_ : (!nt && decide (rl = 0) && decide (tl = 0)) = true
        · have d4 : (!nt && decide (rl = 0) && decide (tl = 0)) = true := h_
          clear h_
          by_cases h_ : n = 0
          · have d5 : (n == 0) = true := beq_iff_eq.mpr h_
            have d5d : decide (n = 0) = true := decide_eq_true h_
            have d5n : (n != 0) = false := bne_eq_false_iff_eq.mpr h_
            clear h_
            by_cases h_ : mn = 0
            · have e1 : (mn == 0) = true := beq_iff_eq.mpr h_
              have e1d : decide (mn = 0) = true := decide_eq_true h_
              have e1n : (mn != 0) = false := bne_eq_false_iff_eq.mpr h_
              clear h_
              by_cases h_ : mx = 0
              · have e2 : (mx == 0) = true := beq_iff_eq.mpr h_
                have e2d : decide (mx = 0) = true := decide_eq_true h_
                have e2n : (mx != 0) = false := bne_eq_false_iff_eq.mpr h_
                clear h_
                go_wp2_with (go_at_call 93; refine (tempty_walk _ _ _ _ _ _ _ _).mono ?_; rintro e w2 ⟨rfl, hb2⟩; have x5b := (hb2.cell (p := ⟨w.heap.size, 5, none⟩) hltx).trans x5; have x6b := (hb2.cell (p := ⟨w.heap.size, 6, none⟩) hltx).trans x6; have x7b := (hb2.cell (p := ⟨w.heap.size, 7, none⟩) hltx).trans x7; have y3b := (hb2.cell (p := ⟨b5, 3, none⟩) hlty).trans y3; have y4b := (hb2.cell (p := ⟨b5, 4, none⟩) hlty).trans y4; have y5b := (hb2.cell (p := ⟨b5, 5, none⟩) hlty).trans y5; have hB3 := hB.trans (hb2.mono hB.size); rw [d4])
                go_ret
                exact ⟨by simp [d1, d2, d3, d3d, d3n, d4, d5, d5d, d5n, e1, e1d, e1n, e2, e2d, e2n], hB3⟩
              · have e2 : (mx == 0) = false := beq_eq_false_iff_ne.mpr h_
                have e2d : decide (mx = 0) = false := decide_eq_false h_
                have e2n : (mx != 0) = true := bne_iff_ne.mpr h_
                clear h_
                go_wp2_with (go_at_call 93; refine (tempty_walk _ _ _ _ _ _ _ _).mono ?_; rintro e w2 ⟨rfl, hb2⟩; have x5b := (hb2.cell (p := ⟨w.heap.size, 5, none⟩) hltx).trans x5; have x6b := (hb2.cell (p := ⟨w.heap.size, 6, none⟩) hltx).trans x6; have x7b := (hb2.cell (p := ⟨w.heap.size, 7, none⟩) hltx).trans x7; have y3b := (hb2.cell (p := ⟨b5, 3, none⟩) hlty).trans y3; have y4b := (hb2.cell (p := ⟨b5, 4, none⟩) hlty).trans y4; have y5b := (hb2.cell (p := ⟨b5, 5, none⟩) hlty).trans y5; have hB3 := hB.trans (hb2.mono hB.size); rw [d4])
                go_ret
                exact ⟨by simp [d1, d2, d3, d3d, d3n, d4, d5, d5d, d5n, e1, e1d, e1n, e2, e2d, e2n], hB3⟩
            · have e1 : (mn == 0) = false := beq_eq_false_iff_ne.mpr h_
              have e1d : decide (mn = 0) = false := decide_eq_false h_
              have e1n : (mn != 0) = true := bne_iff_ne.mpr h_
              clear h_
              go_wp2_with (go_at_call 93; refine (tempty_walk _ _ _ _ _ _ _ _).mono ?_; rintro e w2 ⟨rfl, hb2⟩; have x5b := (hb2.cell (p := ⟨w.heap.size, 5, none⟩) hltx).trans x5; have x6b := (hb2.cell (p := ⟨w.heap.size, 6, none⟩) hltx).trans x6; have x7b := (hb2.cell (p := ⟨w.heap.size, 7, none⟩) hltx).trans x7; have y3b := (hb2.cell (p := ⟨b5, 3, none⟩) hlty).trans y3; have y4b := (hb2.cell (p := ⟨b5, 4, none⟩) hlty).trans y4; have y5b := (hb2.cell (p := ⟨b5, 5, none⟩) hlty).trans y5; have hB3 := hB.trans (hb2.mono hB.size); rw [d4])
              go_ret
              exact ⟨by simp [d1, d2, d3, d3d, d3n, d4, d5, d5d, d5n, e1, e1d, e1n], hB3⟩
          · have d5 : (n == 0) = false := beq_eq_false_iff_ne.mpr h_
            have d5d : decide (n = 0) = false := decide_eq_false h_
            have d5n : (n != 0) = true := bne_iff_ne.mpr h_
            clear h_
            go_wp2_with (go_at_call 93; refine (tempty_walk _ _ _ _ _ _ _ _).mono ?_; rintro e w2 ⟨rfl, hb2⟩; have x5b := (hb2.cell (p := ⟨w.heap.size, 5, none⟩) hltx).trans x5; have x6b := (hb2.cell (p := ⟨w.heap.size, 6, none⟩) hltx).trans x6; have x7b := (hb2.cell (p := ⟨w.heap.size, 7, none⟩) hltx).trans x7; have y3b := (hb2.cell (p := ⟨b5, 3, none⟩) hlty).trans y3; have y4b := (hb2.cell (p := ⟨b5, 4, none⟩) hlty).trans y4; have y5b := (hb2.cell (p := ⟨b5, 5, none⟩) hlty).trans y5; have hB3 := hB.trans (hb2.mono hB.size); rw [d4])
            go_ret
            exact ⟨by simp [d1, d2, d3, d3d, d3n, d4, d5, d5d, d5n], hB3⟩
        · have d4 : (!nt && decide (rl = 0) && decide (tl = 0)) = false := Bool.eq_false_iff.mpr h_
          clear h_
          go_wp2_with (go_at_call 93; refine (tempty_walk _ _ _ _ _ _ _ _).mono ?_; rintro e w2 ⟨rfl, hb2⟩; have x5b := (hb2.cell (p := ⟨w.heap.size, 5, none⟩) hltx).trans x5; have x6b := (hb2.cell (p := ⟨w.heap.size, 6, none⟩) hltx).trans x6; have x7b := (hb2.cell (p := ⟨w.heap.size, 7, none⟩) hltx).trans x7; have y3b := (hb2.cell (p := ⟨b5, 3, none⟩) hlty).trans y3; have y4b := (hb2.cell (p := ⟨b5, 4, none⟩) hlty).trans y4; have y5b := (hb2.cell (p := ⟨b5, 5, none⟩) hlty).trans y5; have hB3 := hB.trans (hb2.mono hB.size); rw [d4])
          go_ret
          exact ⟨by simp [d1, d2, d3, d3d, d3n, d4], hB3⟩
      · have d3 : (c == 0) = false := beq_eq_false_iff_ne.mpr h_
        have d3d : decide (c = 0) = false := decide_eq_false h_
        have d3n : (c != 0) = true := bne_iff_ne.mpr h_
        clear h_
        go_wp2_with (go_at_call 93; refine (tempty_walk _ _ _ _ _ _ _ _).mono ?_; rintro e w2 ⟨rfl, hb2⟩; have x5b := (hb2.cell (p := ⟨w.heap.size, 5, none⟩) hltx).trans x5; have x6b := (hb2.cell (p := ⟨w.heap.size, 6, none⟩) hltx).trans x6; have x7b := (hb2.cell (p := ⟨w.heap.size, 7, none⟩) hltx).trans x7; have y3b := (hb2.cell (p := ⟨b5, 3, none⟩) hlty).trans y3; have y4b := (hb2.cell (p := ⟨b5, 4, none⟩) hlty).trans y4; have y5b := (hb2.cell (p := ⟨b5, 5, none⟩) hlty).trans y5; have hB3 := hB.trans (hb2.mono hB.size); rw [d4])
        go_ret
        exact ⟨by simp [d1, d2, d3, d3d, d3n], hB⟩
set_option maxHeartbeats 16000000 in
set_option maxRecDepth 100000 in
theorem tn_set (k c : Int) (nt sv : Bool) (A3 A4 A8 : Option Addr) (rl c3 tl c4 kl c8 : Nat) (n mn mx g s0 s1 : Int) (w : World) (hsv : ∀ W : World, Calls Tryd.prog 92 #[.agg #[.bool nt, .slice A3 rl c3, .slice A4 tl c4]] W fun e w' => e = .returned (.bool sv) ∧ Below W.heap.size W w')
    (bm b5 : Nat) (W' : World) (hB : Below w.heap.size w W') (hx : W'.heap[w.heap.size]? = some (.cells #[.int .u8 k, .int .i32 c, .bool nt, .slice A3 rl c3, .slice A4 tl c4, .int .i64 n, .int .i64 mn, .int .i64 mx, .slice A8 kl c8] 60 (0, 0))) (hb : W'.heap[b5]? = some (.cells #[.int .i64 s0, .int .i64 s1, .bool false, .bool true, .bool false, .bool false] 126 (0, 0))) :
    Code.wp Tryd.prog (restOf Tryd.f68.body) (bodyPost Tryd.prog Tryd.f68 fun e w' => e = .returned (.bool (!decide ((kl : Int) < s0) && !decide (s1 < (kl : Int)) && (c == 0) && sv && (n == 0) && ((mn == 0) && (mx == 0)))) ∧ Below w.heap.size w w') { tmps := #[.agg #[.int .u8 k, .int .i32 c, .bool nt, .slice A3 rl c3, .slice A4 tl c4, .int .i64 n, .int .i64 mn, .int .i64 mx, .slice A8 kl c8], .int .i64 g, .pointer (some ⟨w.heap.size, 0, none⟩), undef, .bool false, .pointer (some ⟨b5, 0, none⟩), .bool true, .tuple #[.agg #[.int .i64 s0, .int .i64 s1, .bool false, .bool true, .bool false, .bool false], .bool true], .map (some bm), .pointer (some ⟨w.heap.size, 0, none⟩), .int .u8 k, .tuple #[.agg #[.int .i64 s0, .int .i64 s1, .bool false, .bool true, .bool false, .bool false], .bool true], .agg #[.int .i64 s0, .int .i64 s1, .bool false, .bool true, .bool false, .bool false], .bool true, undef, undef, undef, undef, undef, undef, undef, undef, undef, undef, undef, undef, undef, undef, undef, undef, undef, undef, undef, undef, undef, undef, undef, undef, undef, undef, undef, undef, undef, undef, undef, undef, undef, undef, undef, undef, undef, undef, undef, undef, undef, undef, undef, undef, undef, undef, undef, undef, undef, undef, undef, undef, undef, undef, undef, undef, undef, undef, undef, undef, undef, undef, undef, undef, undef, undef, undef, undef, undef, undef, undef, undef, undef, undef, undef, undef, undef, undef, undef, undef, undef, undef, undef, undef, undef, undef, undef, undef, undef, undef, undef, undef, undef, undef, undef, undef, undef, undef, undef, undef, undef, undef, undef, undef, undef, undef, undef, undef, undef, undef, undef, undef, undef, undef, undef, undef, undef, undef], defers := [] } W' := by
  have hltx : w.heap.size < W'.heap.size := (Array.getElem?_eq_some_iff.1 hx).1
  have hlty : b5 < W'.heap.size := (Array.getElem?_eq_some_iff.1 hb).1
  have x1 := cell_blk hx 1
  have x2 := cell_blk hx 2
  have x3 := cell_blk hx 3
  have x4 := cell_blk hx 4
  have x5 := cell_blk hx 5
  have x6 := cell_blk hx 6
  have x7 := cell_blk hx 7
  have x8 := cell_blk hx 8
  have y0 := cell_blk hb 0
  have y1 := cell_blk hb 1
  have y2 := cell_blk hb 2
  have y3 := cell_blk hb 3
  have y4 := cell_blk hb 4
  have y5 := cell_blk hb 5
  simp only [List.getElem?_toArray, List.getElem?_cons_zero, List.getElem?_cons_succ] at x1 x2 x3 x4 x5 x6 x7 x8 y0 y1 y2 y3 y4 y5
  simp only [restOf, Tryd.f68]
  clear hx hb
  by_cases h_ : (kl : Int) < s0
  · have d1 : decide ((kl : Int) < s0) = true := decide_eq_true h_
    clear h_
    go_wp2_with (go_at_call 92; refine (hsv _).mono ?_; rintro e w2 ⟨rfl, hb2⟩; have x5b := (hb2.cell (p := ⟨w.heap.size, 5, none⟩) hltx).trans x5; have x6b := (hb2.cell (p := ⟨w.heap.size, 6, none⟩) hltx).trans x6; have x7b := (hb2.cell (p := ⟨w.heap.size, 7, none⟩) hltx).trans x7; have y3b := (hb2.cell (p := ⟨b5, 3, none⟩) hlty).trans y3; have y4b := (hb2.cell (p := ⟨b5, 4, none⟩) hlty).trans y4; have y5b := (hb2.cell (p := ⟨b5, 5, none⟩) hlty).trans y5; have hB3 := hB.trans (hb2.mono hB.size))
    go_ret
    exact ⟨by simp [d1], hB⟩
  · have d1 : decide ((kl : Int) < s0) = false := decide_eq_false h_
    clear h_
    by_cases h_ : s1 < (kl : Int)
    · have d2 : decide (s1 < (kl : Int)) = true := decide_eq_true h_
      clear h_
      go_wp2_with (go_at_call 92; refine (hsv _).mono ?_; rintro e w2 ⟨rfl, hb2⟩; have x5b := (hb2.cell (p := ⟨w.heap.size, 5, none⟩) hltx).trans x5; have x6b := (hb2.cell (p := ⟨w.heap.size, 6, none⟩) hltx).trans x6; have x7b := (hb2.cell (p := ⟨w.heap.size, 7, none⟩) hltx).trans x7; have y3b := (hb2.cell (p := ⟨b5, 3, none⟩) hlty).trans y3; have y4b := (hb2.cell (p := ⟨b5, 4, none⟩) hlty).trans y4; have y5b := (hb2.cell (p := ⟨b5, 5, none⟩) hlty).trans y5; have hB3 := hB.trans (hb2.mono hB.size))
      go_ret
      exact ⟨by simp [d1, d2], hB⟩
    · have d2 : decide (s1 < (kl : Int)) = false := decide_eq_false h_
      clear h_
      by_cases h_ : c = 0
      · have d3 : (c == 0) = true := beq_iff_eq.mpr h_
        have d3d : decide (c = 0) = true := decide_eq_true h_
        have d3n : (c != 0) = false := bne_eq_false_iff_eq.mpr h_
        clear h_
        cases sv
        · go_wp2_with (go_at_call 92; refine (hsv _).mono ?_; rintro e w2 ⟨rfl, hb2⟩; have x5b := (hb2.cell (p := ⟨w.heap.size, 5, none⟩) hltx).trans x5; have x6b := (hb2.cell (p := ⟨w.heap.size, 6, none⟩) hltx).trans x6; have x7b := (hb2.cell (p := ⟨w.heap.size, 7, none⟩) hltx).trans x7; have y3b := (hb2.cell (p := ⟨b5, 3, none⟩) hlty).trans y3; have y4b := (hb2.cell (p := ⟨b5, 4, none⟩) hlty).trans y4; have y5b := (hb2.cell (p := ⟨b5, 5, none⟩) hlty).trans y5; have hB3 := hB.trans (hb2.mono hB.size))
          go_ret
          exact ⟨by simp [d1, d2, d3, d3d, d3n], hB3⟩
        · by_cases h_ : n = 0
          · have d5 : (n == 0) = true := beq_iff_eq.mpr h_
            have d5d : decide (n = 0) = true := decide_eq_true h_
            have d5n : (n != 0) = false := bne_eq_false_iff_eq.mpr h_
            clear h_
            by_cases h_ : mn = 0
            · have e1 : (mn == 0) = true := beq_iff_eq.mpr h_
              have e1d : decide (mn = 0) = true := decide_eq_true h_
              have e1n : (mn != 0) = false := bne_eq_false_iff_eq.mpr h_
              clear h_
              by_cases h_ : mx = 0
              · have e2 : (mx == 0) = true := beq_iff_eq.mpr h_
                have e2d : decide (mx = 0) = true := decide_eq_true h_
                have e2n : (mx != 0) = false := bne_eq_false_iff_eq.mpr h_
                clear h_
                go_wp2_with (go_at_call 92; refine (hsv _).mono ?_; rintro e w2 ⟨rfl, hb2⟩; have x5b := (hb2.cell (p := ⟨w.heap.size, 5, none⟩) hltx).trans x5; have x6b := (hb2.cell (p := ⟨w.heap.size, 6, none⟩) hltx).trans x6; have x7b := (hb2.cell (p := ⟨w.heap.size, 7, none⟩) hltx).trans x7; have y3b := (hb2.cell (p := ⟨b5, 3, none⟩) hlty).trans y3; have y4b := (hb2.cell (p := ⟨b5, 4, none⟩) hlty).trans y4; have y5b := (hb2.cell (p := ⟨b5, 5, none⟩) hlty).trans y5; have hB3 := hB.trans (hb2.mono hB.size))
                go_ret
                exact ⟨by simp [d1, d2, d3, d3d, d3n, d5, d5d, d5n, e1, e1d, e1n, e2, e2d, e2n], hB3⟩
              · have e2 : (mx == 0) = false := beq_eq_false_iff_ne.mpr h_
                have e2d : decide (mx = 0) = false := decide_eq_false h_
                have e2n : (mx != 0) = true := bne_iff_ne.mpr h_
                clear h_
                go_wp2_with (go_at_call 92; refine (hsv _).mono ?_; rintro e w2 ⟨rfl, hb2⟩; have x5b := (hb2.cell (p := ⟨w.heap.size, 5, none⟩) hltx).trans x5; have x6b := (hb2.cell (p := ⟨w.heap.size, 6, none⟩) hltx).trans x6; have x7b := (hb2.cell (p := ⟨w.heap.size, 7, none⟩) hltx).trans x7; have y3b := (hb2.cell (p := ⟨b5, 3, none⟩) hlty).trans y3; have y4b := (hb2.cell (p := ⟨b5, 4, none⟩) hlty).trans y4; have y5b := (hb2.cell (p := ⟨b5, 5, none⟩) hlty).trans y5; have hB3 := hB.trans (hb2.mono hB.size))
                go_ret
                exact ⟨by simp [d1, d2, d3, d3d, d3n, d5, d5d, d5n, e1, e1d, e1n, e2, e2d, e2n], hB3⟩
            · have e1 : (mn == 0) = false := beq_eq_false_iff_ne.mpr h_
              have e1d : decide (mn = 0) = false := decide_eq_false h_
              have e1n : (mn != 0) = true := bne_iff_ne.mpr h_
              clear h_
              go_wp2_with (go_at_call 92; refine (hsv _).mono ?_; rintro e w2 ⟨rfl, hb2⟩; have x5b := (hb2.cell (p := ⟨w.heap.size, 5, none⟩) hltx).trans x5; have x6b := (hb2.cell (p := ⟨w.heap.size, 6, none⟩) hltx).trans x6; have x7b := (hb2.cell (p := ⟨w.heap.size, 7, none⟩) hltx).trans x7; have y3b := (hb2.cell (p := ⟨b5, 3, none⟩) hlty).trans y3; have y4b := (hb2.cell (p := ⟨b5, 4, none⟩) hlty).trans y4; have y5b := (hb2.cell (p := ⟨b5, 5, none⟩) hlty).trans y5; have hB3 := hB.trans (hb2.mono hB.size))
              go_ret
              exact ⟨by simp [d1, d2, d3, d3d, d3n, d5, d5d, d5n, e1, e1d, e1n], hB3⟩
          · have d5 : (n == 0) = false := beq_eq_false_iff_ne.mpr h_
            have d5d : decide (n = 0) = false := decide_eq_false h_
            have d5n : (n != 0) = true := bne_iff_ne.mpr h_
            clear h_
            go_wp2_with (go_at_call 92; refine (hsv _).mono ?_; rintro e w2 ⟨rfl, hb2⟩; have x5b := (hb2.cell (p := ⟨w.heap.size, 5, none⟩) hltx).trans x5; have x6b := (hb2.cell (p := ⟨w.heap.size, 6, none⟩) hltx).trans x6; have x7b := (hb2.cell (p := ⟨w.heap.size, 7, none⟩) hltx).trans x7; have y3b := (hb2.cell (p := ⟨b5, 3, none⟩) hlty).trans y3; have y4b := (hb2.cell (p := ⟨b5, 4, none⟩) hlty).trans y4; have y5b := (hb2.cell (p := ⟨b5, 5, none⟩) hlty).trans y5; have hB3 := hB.trans (hb2.mono hB.size))
            go_ret
            exact ⟨by simp [d1, d2, d3, d3d, d3n, d5, d5d, d5n], hB3⟩
      · have d3 : (c == 0) = false := beq_eq_false_iff_ne.mpr h_
        have d3d : decide (c = 0) = false := decide_eq_false h_
        have d3n : (c != 0) = true := bne_iff_ne.mpr h_
        clear h_
        go_wp2_with (go_at_call 92; refine (hsv _).mono ?_; rintro e w2 ⟨rfl, hb2⟩; have x5b := (hb2.cell (p := ⟨w.heap.size, 5, none⟩) hltx).trans x5; have x6b := (hb2.cell (p := ⟨w.heap.size, 6, none⟩) hltx).trans x6; have x7b := (hb2.cell (p := ⟨w.heap.size, 7, none⟩) hltx).trans x7; have y3b := (hb2.cell (p := ⟨b5, 3, none⟩) hlty).trans y3; have y4b := (hb2.cell (p := ⟨b5, 4, none⟩) hlty).trans y4; have y5b := (hb2.cell (p := ⟨b5, 5, none⟩) hlty).trans y5; have hB3 := hB.trans (hb2.mono hB.size))
        go_ret
        exact ⟨by simp [d1, d2, d3, d3d, d3n], hB⟩
set_option maxHeartbeats 16000000 in
set_option maxRecDepth 100000 in
theorem tn_num (k c : Int) (nt sv : Bool) (A3 A4 A8 : Option Addr) (rl c3 tl c4 kl c8 : Nat) (n mn mx g s0 s1 : Int) (w : World)
    (bm b5 : Nat) (W' : World) (hB : Below w.heap.size w W') (hx : W'.heap[w.heap.size]? = some (.cells #[.int .u8 k, .int .i32 c, .bool nt, .slice A3 rl c3, .slice A4 tl c4, .int .i64 n, .int .i64 mn, .int .i64 mx, .slice A8 kl c8] 60 (0, 0))) (hb : W'.heap[b5]? = some (.cells #[.int .i64 s0, .int .i64 s1, .bool false, .bool false, .bool true, .bool false] 126 (0, 0))) :
    Code.wp Tryd.prog (restOf Tryd.f68.body) (bodyPost Tryd.prog Tryd.f68 fun e w' => e = .returned (.bool (!decide ((kl : Int) < s0) && !decide (s1 < (kl : Int)) && (c == 0) && (!nt && decide (rl = 0) && decide (tl = 0)) && (!decide (n < 1) && !decide (g < n)) && ((mn == 0) && (mx == 0)))) ∧ Below w.heap.size w w') { tmps := #[.agg #[.int .u8 k, .int .i32 c, .bool nt, .slice A3 rl c3, .slice A4 tl c4, .int .i64 n, .int .i64 mn, .int .i64 mx, .slice A8 kl c8], .int .i64 g, .pointer (some ⟨w.heap.size, 0, none⟩), undef, .bool false, .pointer (some ⟨b5, 0, none⟩), .bool true, .tuple #[.agg #[.int .i64 s0, .int .i64 s1, .bool false, .bool false, .bool true, .bool false], .bool true], .map (some bm), .pointer (some ⟨w.heap.size, 0, none⟩), .int .u8 k, .tuple #[.agg #[.int .i64 s0, .int .i64 s1, .bool false, .bool false, .bool true, .bool false], .bool true], .agg #[.int .i64 s0, .int .i64 s1, .bool false, .bool false, .bool true, .bool false], .bool true, undef, undef, undef, undef, undef, undef, undef, undef, undef, undef, undef, undef, undef, undef, undef, undef, undef, undef, undef, undef, undef, undef, undef, undef, undef, undef, undef, undef, undef, undef, undef, undef, undef, undef, undef, undef, undef, undef, undef, undef, undef, undef, undef, undef, undef, undef, undef, undef, undef, undef, undef, undef, undef, undef, undef, undef, undef, undef, undef, undef, undef, undef, undef, undef, undef, undef, undef, undef, undef, undef, undef, undef, undef, undef, undef, undef, undef, undef, undef, undef, undef, undef, undef, undef, undef, undef, undef, undef, undef, undef, undef, undef, undef, undef, undef, undef, undef, undef, undef, undef, undef, undef, undef, undef, undef, undef, undef, undef, undef, undef, undef, undef, undef, undef, undef, undef, undef, undef], defers := [] } W' := by
  have hltx : w.heap.size < W'.heap.size := (Array.getElem?_eq_some_iff.1 hx).1
  have hlty : b5 < W'.heap.size := (Array.getElem?_eq_some_iff.1 hb).1
  have x1 := cell_blk hx 1
  have x2 := cell_blk hx 2
  have x3 := cell_blk hx 3
  have x4 := cell_blk hx 4
  have x5 := cell_blk hx 5
  have x6 := cell_blk hx 6
  have x7 := cell_blk hx 7
  have x8 := cell_blk hx 8
  have y0 := cell_blk hb 0
  have y1 := cell_blk hb 1
  have y2 := cell_blk hb 2
  have y3 := cell_blk hb 3
  have y4 := cell_blk hb 4
  have y5 := cell_blk hb 5
  simp only [List.getElem?_toArray, List.getElem?_cons_zero, List.getElem?_cons_succ] at x1 x2 x3 x4 x5 x6 x7 x8 y0 y1 y2 y3 y4 y5
  simp only [restOf, Tryd.f68]
  clear hx hb
  by_cases h_ : (kl : Int) < s0
  · have d1 : decide ((kl : Int) < s0) = true := decide_eq_true h_
    clear h_
    go_wp2_with (go_at_call 93; refine (tempty_walk _ _ _ _ _ _ _ _).mono ?_; rintro e w2 ⟨rfl, hb2⟩; have x5b := (hb2.cell (p := ⟨w.heap.size, 5, none⟩) hltx).trans x5; have x6b := (hb2.cell (p := ⟨w.heap.size, 6, none⟩) hltx).trans x6; have x7b := (hb2.cell (p := ⟨w.heap.size, 7, none⟩) hltx).trans x7; have y3b := (hb2.cell (p := ⟨b5, 3, none⟩) hlty).trans y3; have y4b := (hb2.cell (p := ⟨b5, 4, none⟩) hlty).trans y4; have y5b := (hb2.cell (p := ⟨b5, 5, none⟩) hlty).trans y5; have hB3 := hB.trans (hb2.mono hB.size); rw [d4])
    go_ret
    exact ⟨by simp [d1], hB⟩
  · have d1 : decide ((kl : Int) < s0) = false := decide_eq_false h_
    clear h_
    by_cases h_ : s1 < (kl : Int)
    · have d2 : decide (s1 < (kl : Int)) = true := decide_eq_true h_
      clear h_
      go_wp2_with (go_at_call 93; refine (tempty_walk _ _ _ _ _ _ _ _).mono ?_; rintro e w2 ⟨rfl, hb2⟩; have x5b := (hb2.cell (p := ⟨w.heap.size, 5, none⟩) hltx).trans x5; have x6b := (hb2.cell (p := ⟨w.heap.size, 6, none⟩) hltx).trans x6; have x7b := (hb2.cell (p := ⟨w.heap.size, 7, none⟩) hltx).trans x7; have y3b := (hb2.cell (p := ⟨b5, 3, none⟩) hlty).trans y3; have y4b := (hb2.cell (p := ⟨b5, 4, none⟩) hlty).trans y4; have y5b := (hb2.cell (p := ⟨b5, 5, none⟩) hlty).trans y5; have hB3 := hB.trans (hb2.mono hB.size); rw [d4])
      go_ret
      exact ⟨by simp [d1, d2], hB⟩
    · have d2 : decide (s1 < (kl : Int)) = false := decide_eq_false h_
      clear h_
      by_cases h_ : c = 0
      · have d3 : (c == 0) = true := beq_iff_eq.mpr h_
        have d3d : decide (c = 0) = true := decide_eq_true h_
        have d3n : (c != 0) = false := bne_eq_false_iff_eq.mpr h_
        clear h_
        by_cases h_ : (!nt && decide (rl = 0) && decide (tl = 0)) = true
        · have d4 : (!nt && decide (rl = 0) && decide (tl = 0)) = true := h_
          clear h_
          by_cases h_ : n < 1
          · have d5 : decide (n < 1) = true := decide_eq_true h_
            clear h_
            go_wp2_with (go_at_call 93; refine (tempty_walk _ _ _ _ _ _ _ _).mono ?_; rintro e w2 ⟨rfl, hb2⟩; have x5b := (hb2.cell (p := ⟨w.heap.size, 5, none⟩) hltx).trans x5; have x6b := (hb2.cell (p := ⟨w.heap.size, 6, none⟩) hltx).trans x6; have x7b := (hb2.cell (p := ⟨w.heap.size, 7, none⟩) hltx).trans x7; have y3b := (hb2.cell (p := ⟨b5, 3, none⟩) hlty).trans y3; have y4b := (hb2.cell (p := ⟨b5, 4, none⟩) hlty).trans y4; have y5b := (hb2.cell (p := ⟨b5, 5, none⟩) hlty).trans y5; have hB3 := hB.trans (hb2.mono hB.size); rw [d4])
            go_ret
            exact ⟨by simp [d1, d2, d3, d3d, d3n, d4, d5], hB3⟩
          · have d5 : decide (n < 1) = false := decide_eq_false h_
            clear h_
            by_cases h_ : g < n
            · have d6 : decide (g < n) = true := decide_eq_true h_
              clear h_
              go_wp2_with (go_at_call 93; refine (tempty_walk _ _ _ _ _ _ _ _).mono ?_; rintro e w2 ⟨rfl, hb2⟩; have x5b := (hb2.cell (p := ⟨w.heap.size, 5, none⟩) hltx).trans x5; have x6b := (hb2.cell (p := ⟨w.heap.size, 6, none⟩) hltx).trans x6; have x7b := (hb2.cell (p := ⟨w.heap.size, 7, none⟩) hltx).trans x7; have y3b := (hb2.cell (p := ⟨b5, 3, none⟩) hlty).trans y3; have y4b := (hb2.cell (p := ⟨b5, 4, none⟩) hlty).trans y4; have y5b := (hb2.cell (p := ⟨b5, 5, none⟩) hlty).trans y5; have hB3 := hB.trans (hb2.mono hB.size); rw [d4])
              go_ret
              exact ⟨by simp [d1, d2, d3, d3d, d3n, d4, d5, d6], hB3⟩
            · have d6 : decide (g < n) = false := decide_eq_false h_
              clear h_
              by_cases h_ : mn = 0
              · have e1 : (mn == 0) = true := beq_iff_eq.mpr h_
                have e1d : decide (mn = 0) = true := decide_eq_true h_
                have e1n : (mn != 0) = false := bne_eq_false_iff_eq.mpr h_
                clear h_
                by_cases h_ : mx = 0
                · have e2 : (mx == 0) = true := beq_iff_eq.mpr h_
                  have e2d : decide (mx = 0) = true := decide_eq_true h_
                  have e2n : (mx != 0) = false := bne_eq_false_iff_eq.mpr h_
                  clear h_
                  go_wp2_with (go_at_call 93; refine (tempty_walk _ _ _ _ _ _ _ _).mono ?_; rintro e w2 ⟨rfl, hb2⟩; have x5b := (hb2.cell (p := ⟨w.heap.size, 5, none⟩) hltx).trans x5; have x6b := (hb2.cell (p := ⟨w.heap.size, 6, none⟩) hltx).trans x6; have x7b := (hb2.cell (p := ⟨w.heap.size, 7, none⟩) hltx).trans x7; have y3b := (hb2.cell (p := ⟨b5, 3, none⟩) hlty).trans y3; have y4b := (hb2.cell (p := ⟨b5, 4, none⟩) hlty).trans y4; have y5b := (hb2.cell (p := ⟨b5, 5, none⟩) hlty).trans y5; have hB3 := hB.trans (hb2.mono hB.size); rw [d4])
                  go_ret
                  exact ⟨by simp [d1, d2, d3, d3d, d3n, d4, d5, d6, e1, e1d, e1n, e2, e2d, e2n], hB3⟩
                · have e2 : (mx == 0) = false := beq_eq_false_iff_ne.mpr h_
                  have e2d : decide (mx = 0) = false := decide_eq_false h_
                  have e2n : (mx != 0) = true := bne_iff_ne.mpr h_
                  clear h_
                  go_wp2_with (go_at_call 93; refine (tempty_walk _ _ _ _ _ _ _ _).mono ?_; rintro e w2 ⟨rfl, hb2⟩; have x5b := (hb2.cell (p := ⟨w.heap.size, 5, none⟩) hltx).trans x5; have x6b := (hb2.cell (p := ⟨w.heap.size, 6, none⟩) hltx).trans x6; have x7b := (hb2.cell (p := ⟨w.heap.size, 7, none⟩) hltx).trans x7; have y3b := (hb2.cell (p := ⟨b5, 3, none⟩) hlty).trans y3; have y4b := (hb2.cell (p := ⟨b5, 4, none⟩) hlty).trans y4; have y5b := (hb2.cell (p := ⟨b5, 5, none⟩) hlty).trans y5; have hB3 := hB.trans (hb2.mono hB.size); rw [d4])
                  go_ret
                  exact ⟨by simp [d1, d2, d3, d3d, d3n, d4, d5, d6, e1, e1d, e1n, e2, e2d, e2n], hB3⟩
              · have e1 : (mn == 0) = false := beq_eq_false_iff_ne.mpr h_
                have e1d : decide (mn = 0) = false := decide_eq_false h_
                have e1n : (mn != 0) = true := bne_iff_ne.mpr h_
                clear h_
                go_wp2_with (go_at_call 93; refine (tempty_walk _ _ _ _ _ _ _ _).mono ?_; rintro e w2 ⟨rfl, hb2⟩; have x5b := (hb2.cell (p := ⟨w.heap.size, 5, none⟩) hltx).trans x5; have x6b := (hb2.cell (p := ⟨w.heap.size, 6, none⟩) hltx).trans x6; have x7b := (hb2.cell (p := ⟨w.heap.size, 7, none⟩) hltx).trans x7; have y3b := (hb2.cell (p := ⟨b5, 3, none⟩) hlty).trans y3; have y4b := (hb2.cell (p := ⟨b5, 4, none⟩) hlty).trans y4; have y5b := (hb2.cell (p := ⟨b5, 5, none⟩) hlty).trans y5; have hB3 := hB.trans (hb2.mono hB.size); rw [d4])
                go_ret
                exact ⟨by simp [d1, d2, d3, d3d, d3n, d4, d5, d6, e1, e1d, e1n], hB3⟩
        · have d4 : (!nt && decide (rl = 0) && decide (tl = 0)) = false := Bool.eq_false_iff.mpr h_
          clear h_
          go_wp2_with (go_at_call 93; refine (tempty_walk _ _ _ _ _ _ _ _).mono ?_; rintro e w2 ⟨rfl, hb2⟩; have x5b := (hb2.cell (p := ⟨w.heap.size, 5, none⟩) hltx).trans x5; have x6b := (hb2.cell (p := ⟨w.heap.size, 6, none⟩) hltx).trans x6; have x7b := (hb2.cell (p := ⟨w.heap.size, 7, none⟩) hltx).trans x7; have y3b := (hb2.cell (p := ⟨b5, 3, none⟩) hlty).trans y3; have y4b := (hb2.cell (p := ⟨b5, 4, none⟩) hlty).trans y4; have y5b := (hb2.cell (p := ⟨b5, 5, none⟩) hlty).trans y5; have hB3 := hB.trans (hb2.mono hB.size); rw [d4])
          go_ret
          exact ⟨by simp [d1, d2, d3, d3d, d3n, d4], hB3⟩
      · have d3 : (c == 0) = false := beq_eq_false_iff_ne.mpr h_
        have d3d : decide (c = 0) = false := decide_eq_false h_
        have d3n : (c != 0) = true := bne_iff_ne.mpr h_
        clear h_
        go_wp2_with (go_at_call 93; refine (tempty_walk _ _ _ _ _ _ _ _).mono ?_; rintro e w2 ⟨rfl, hb2⟩; have x5b := (hb2.cell (p := ⟨w.heap.size, 5, none⟩) hltx).trans x5; have x6b := (hb2.cell (p := ⟨w.heap.size, 6, none⟩) hltx).trans x6; have x7b := (hb2.cell (p := ⟨w.heap.size, 7, none⟩) hltx).trans x7; have y3b := (hb2.cell (p := ⟨b5, 3, none⟩) hlty).trans y3; have y4b := (hb2.cell (p := ⟨b5, 4, none⟩) hlty).trans y4; have y5b := (hb2.cell (p := ⟨b5, 5, none⟩) hlty).trans y5; have hB3 := hB.trans (hb2.mono hB.size); rw [d4])
        go_ret
        exact ⟨by simp [d1, d2, d3, d3d, d3n], hB⟩
set_option maxHeartbeats 16000000 in
set_option maxRecDepth 100000 in
theorem tn_many (k c : Int) (nt sv : Bool) (A3 A4 A8 : Option Addr) (rl c3 tl c4 kl c8 : Nat) (n mn mx g s0 s1 : Int) (w : World)
    (bm b5 : Nat) (W' : World) (hB : Below w.heap.size w W') (hx : W'.heap[w.heap.size]? = some (.cells #[.int .u8 k, .int .i32 c, .bool nt, .slice A3 rl c3, .slice A4 tl c4, .int .i64 n, .int .i64 mn, .int .i64 mx, .slice A8 kl c8] 60 (0, 0))) (hb : W'.heap[b5]? = some (.cells #[.int .i64 s0, .int .i64 s1, .bool false, .bool false, .bool false, .bool true] 126 (0, 0))) :
    Code.wp Tryd.prog (restOf Tryd.f68.body) (bodyPost Tryd.prog Tryd.f68 fun e w' => e = .returned (.bool (!decide ((kl : Int) < s0) && !decide (s1 < (kl : Int)) && (c == 0) && (!nt && decide (rl = 0) && decide (tl = 0)) && (n == 0) && (decide (0 ≤ mn) && decide (mn ≤ 255) && ((mx == -1) || (decide (mn ≤ mx) && decide (mx ≤ 255)))))) ∧ Below w.heap.size w w') { tmps := #[.agg #[.int .u8 k, .int .i32 c, .bool nt, .slice A3 rl c3, .slice A4 tl c4, .int .i64 n, .int .i64 mn, .int .i64 mx, .slice A8 kl c8], .int .i64 g, .pointer (some ⟨w.heap.size, 0, none⟩), undef, .bool false, .pointer (some ⟨b5, 0, none⟩), .bool true, .tuple #[.agg #[.int .i64 s0, .int .i64 s1, .bool false, .bool false, .bool false, .bool true], .bool true], .map (some bm), .pointer (some ⟨w.heap.size, 0, none⟩), .int .u8 k, .tuple #[.agg #[.int .i64 s0, .int .i64 s1, .bool false, .bool false, .bool false, .bool true], .bool true], .agg #[.int .i64 s0, .int .i64 s1, .bool false, .bool false, .bool false, .bool true], .bool true, undef, undef, undef, undef, undef, undef, undef, undef, undef, undef, undef, undef, undef, undef, undef, undef, undef, undef, undef, undef, undef, undef, undef, undef, undef, undef, undef, undef, undef, undef, undef, undef, undef, undef, undef, undef, undef, undef, undef, undef, undef, undef, undef, undef, undef, undef, undef, undef, undef, undef, undef, undef, undef, undef, undef, undef, undef, undef, undef, undef, undef, undef, undef, undef, undef, undef, undef, undef, undef, undef, undef, undef, undef, undef, undef, undef, undef, undef, undef, undef, undef, undef, undef, undef, undef, undef, undef, undef, undef, undef, undef, undef, undef, undef, undef, undef, undef, undef, undef, undef, undef, undef, undef, undef, undef, undef, undef, undef, undef, undef, undef, undef, undef, undef, undef, undef, undef, undef], defers := [] } W' := by
  have hltx : w.heap.size < W'.heap.size := (Array.getElem?_eq_some_iff.1 hx).1
  have hlty : b5 < W'.heap.size := (Array.getElem?_eq_some_iff.1 hb).1
  have x1 := cell_blk hx 1
  have x2 := cell_blk hx 2
  have x3 := cell_blk hx 3
  have x4 := cell_blk hx 4
  have x5 := cell_blk hx 5
  have x6 := cell_blk hx 6
  have x7 := cell_blk hx 7
  have x8 := cell_blk hx 8
  have y0 := cell_blk hb 0
  have y1 := cell_blk hb 1
  have y2 := cell_blk hb 2
  have y3 := cell_blk hb 3
  have y4 := cell_blk hb 4
  have y5 := cell_blk hb 5
  simp only [List.getElem?_toArray, List.getElem?_cons_zero, List.getElem?_cons_succ] at x1 x2 x3 x4 x5 x6 x7 x8 y0 y1 y2 y3 y4 y5
  simp only [restOf, Tryd.f68]
  clear hx hb
  by_cases h_ : (kl : Int) < s0
  · have d1 : decide ((kl : Int) < s0) = true := decide_eq_true h_
    clear h_
    go_wp2_with (go_at_call 93; refine (tempty_walk _ _ _ _ _ _ _ _).mono ?_; rintro e w2 ⟨rfl, hb2⟩; have x5b := (hb2.cell (p := ⟨w.heap.size, 5, none⟩) hltx).trans x5; have x6b := (hb2.cell (p := ⟨w.heap.size, 6, none⟩) hltx).trans x6; have x7b := (hb2.cell (p := ⟨w.heap.size, 7, none⟩) hltx).trans x7; have y3b := (hb2.cell (p := ⟨b5, 3, none⟩) hlty).trans y3; have y4b := (hb2.cell (p := ⟨b5, 4, none⟩) hlty).trans y4; have y5b := (hb2.cell (p := ⟨b5, 5, none⟩) hlty).trans y5; have hB3 := hB.trans (hb2.mono hB.size); rw [d4])
    go_ret
    exact ⟨by simp [d1], hB⟩
  · have d1 : decide ((kl : Int) < s0) = false := decide_eq_false h_
    clear h_
    by_cases h_ : s1 < (kl : Int)
    · have d2 : decide (s1 < (kl : Int)) = true := decide_eq_true h_
      clear h_
      go_wp2_with (go_at_call 93; refine (tempty_walk _ _ _ _ _ _ _ _).mono ?_; rintro e w2 ⟨rfl, hb2⟩; have x5b := (hb2.cell (p := ⟨w.heap.size, 5, none⟩) hltx).trans x5; have x6b := (hb2.cell (p := ⟨w.heap.size, 6, none⟩) hltx).trans x6; have x7b := (hb2.cell (p := ⟨w.heap.size, 7, none⟩) hltx).trans x7; have y3b := (hb2.cell (p := ⟨b5, 3, none⟩) hlty).trans y3; have y4b := (hb2.cell (p := ⟨b5, 4, none⟩) hlty).trans y4; have y5b := (hb2.cell (p := ⟨b5, 5, none⟩) hlty).trans y5; have hB3 := hB.trans (hb2.mono hB.size); rw [d4])
      go_ret
      exact ⟨by simp [d1, d2], hB⟩
    · have d2 : decide (s1 < (kl : Int)) = false := decide_eq_false h_
      clear h_
      by_cases h_ : c = 0
      · have d3 : (c == 0) = true := beq_iff_eq.mpr h_
        have d3d : decide (c = 0) = true := decide_eq_true h_
        have d3n : (c != 0) = false := bne_eq_false_iff_eq.mpr h_
        clear h_
        by_cases h_ : (!nt && decide (rl = 0) && decide (tl = 0)) = true
        · have d4 : (!nt && decide (rl = 0) && decide (tl = 0)) = true := h_
          clear h_
          by_cases h_ : n = 0
          · have d5 : (n == 0) = true := beq_iff_eq.mpr h_
            have d5d : decide (n = 0) = true := decide_eq_true h_
            have d5n : (n != 0) = false := bne_eq_false_iff_eq.mpr h_
            clear h_
            by_cases h_ : 0 ≤ mn
            · have e1 : decide (0 ≤ mn) = true := decide_eq_true h_
              clear h_
              by_cases h_ : mn ≤ 255
              · have e2 : decide (mn ≤ 255) = true := decide_eq_true h_
                clear h_
                by_cases h_ : mx = -1
                · have e3 : (mx == -1) = true := beq_iff_eq.mpr h_
                  have e3d : decide (mx = -1) = true := decide_eq_true h_
                  have e3n : (mx != -1) = false := bne_eq_false_iff_eq.mpr h_
                  clear h_
                  go_wp2_with (go_at_call 93; refine (tempty_walk _ _ _ _ _ _ _ _).mono ?_; rintro e w2 ⟨rfl, hb2⟩; have x5b := (hb2.cell (p := ⟨w.heap.size, 5, none⟩) hltx).trans x5; have x6b := (hb2.cell (p := ⟨w.heap.size, 6, none⟩) hltx).trans x6; have x7b := (hb2.cell (p := ⟨w.heap.size, 7, none⟩) hltx).trans x7; have y3b := (hb2.cell (p := ⟨b5, 3, none⟩) hlty).trans y3; have y4b := (hb2.cell (p := ⟨b5, 4, none⟩) hlty).trans y4; have y5b := (hb2.cell (p := ⟨b5, 5, none⟩) hlty).trans y5; have hB3 := hB.trans (hb2.mono hB.size); rw [d4])
                  go_ret
                  exact ⟨by simp [d1, d2, d3, d3d, d3n, d4, d5, d5d, d5n, e1, e2, e3, e3d, e3n], hB3⟩
                · have e3 : (mx == -1) = false := beq_eq_false_iff_ne.mpr h_
                  have e3d : decide (mx = -1) = false := decide_eq_false h_
                  have e3n : (mx != -1) = true := bne_iff_ne.mpr h_
                  clear h_
                  by_cases h_ : mn ≤ mx
                  · have e4 : decide (mn ≤ mx) = true := decide_eq_true h_
                    clear h_
                    by_cases h_ : mx ≤ 255
                    · have e5 : decide (mx ≤ 255) = true := decide_eq_true h_
                      clear h_
                      go_wp2_with (go_at_call 93; refine (tempty_walk _ _ _ _ _ _ _ _).mono ?_; rintro e w2 ⟨rfl, hb2⟩; have x5b := (hb2.cell (p := ⟨w.heap.size, 5, none⟩) hltx).trans x5; have x6b := (hb2.cell (p := ⟨w.heap.size, 6, none⟩) hltx).trans x6; have x7b := (hb2.cell (p := ⟨w.heap.size, 7, none⟩) hltx).trans x7; have y3b := (hb2.cell (p := ⟨b5, 3, none⟩) hlty).trans y3; have y4b := (hb2.cell (p := ⟨b5, 4, none⟩) hlty).trans y4; have y5b := (hb2.cell (p := ⟨b5, 5, none⟩) hlty).trans y5; have hB3 := hB.trans (hb2.mono hB.size); rw [d4])
                      go_ret
                      exact ⟨by simp [d1, d2, d3, d3d, d3n, d4, d5, d5d, d5n, e1, e2, e3, e3d, e3n, e4, e5], hB3⟩
                    · have e5 : decide (mx ≤ 255) = false := decide_eq_false h_
                      clear h_
                      go_wp2_with (go_at_call 93; refine (tempty_walk _ _ _ _ _ _ _ _).mono ?_; rintro e w2 ⟨rfl, hb2⟩; have x5b := (hb2.cell (p := ⟨w.heap.size, 5, none⟩) hltx).trans x5; have x6b := (hb2.cell (p := ⟨w.heap.size, 6, none⟩) hltx).trans x6; have x7b := (hb2.cell (p := ⟨w.heap.size, 7, none⟩) hltx).trans x7; have y3b := (hb2.cell (p := ⟨b5, 3, none⟩) hlty).trans y3; have y4b := (hb2.cell (p := ⟨b5, 4, none⟩) hlty).trans y4; have y5b := (hb2.cell (p := ⟨b5, 5, none⟩) hlty).trans y5; have hB3 := hB.trans (hb2.mono hB.size); rw [d4])
                      go_ret
                      exact ⟨by simp [d1, d2, d3, d3d, d3n, d4, d5, d5d, d5n, e1, e2, e3, e3d, e3n, e4, e5], hB3⟩
                  · have e4 : decide (mn ≤ mx) = false := decide_eq_false h_
                    clear h_
                    go_wp2_with (go_at_call 93; refine (tempty_walk _ _ _ _ _ _ _ _).mono ?_; rintro e w2 ⟨rfl, hb2⟩; have x5b := (hb2.cell (p := ⟨w.heap.size, 5, none⟩) hltx).trans x5; have x6b := (hb2.cell (p := ⟨w.heap.size, 6, none⟩) hltx).trans x6; have x7b := (hb2.cell (p := ⟨w.heap.size, 7, none⟩) hltx).trans x7; have y3b := (hb2.cell (p := ⟨b5, 3, none⟩) hlty).trans y3; have y4b := (hb2.cell (p := ⟨b5, 4, none⟩) hlty).trans y4; have y5b := (hb2.cell (p := ⟨b5, 5, none⟩) hlty).trans y5; have hB3 := hB.trans (hb2.mono hB.size); rw [d4])
                    go_ret
                    exact ⟨by simp [d1, d2, d3, d3d, d3n, d4, d5, d5d, d5n, e1, e2, e3, e3d, e3n, e4], hB3⟩
              · have e2 : decide (mn ≤ 255) = false := decide_eq_false h_
                clear h_
                go_wp2_with (go_at_call 93; refine (tempty_walk _ _ _ _ _ _ _ _).mono ?_; rintro e w2 ⟨rfl, hb2⟩; have x5b := (hb2.cell (p := ⟨w.heap.size, 5, none⟩) hltx).trans x5; have x6b := (hb2.cell (p := ⟨w.heap.size, 6, none⟩) hltx).trans x6; have x7b := (hb2.cell (p := ⟨w.heap.size, 7, none⟩) hltx).trans x7; have y3b := (hb2.cell (p := ⟨b5, 3, none⟩) hlty).trans y3; have y4b := (hb2.cell (p := ⟨b5, 4, none⟩) hlty).trans y4; have y5b := (hb2.cell (p := ⟨b5, 5, none⟩) hlty).trans y5; have hB3 := hB.trans (hb2.mono hB.size); rw [d4])
                go_ret
                exact ⟨by simp [d1, d2, d3, d3d, d3n, d4, d5, d5d, d5n, e1, e2], hB3⟩
            · have e1 : decide (0 ≤ mn) = false := decide_eq_false h_
              clear h_
              go_wp2_with (go_at_call 93; refine (tempty_walk _ _ _ _ _ _ _ _).mono ?_; rintro e w2 ⟨rfl, hb2⟩; have x5b := (hb2.cell (p := ⟨w.heap.size, 5, none⟩) hltx).trans x5; have x6b := (hb2.cell (p := ⟨w.heap.size, 6, none⟩) hltx).trans x6; have x7b := (hb2.cell (p := ⟨w.heap.size, 7, none⟩) hltx).trans x7; have y3b := (hb2.cell (p := ⟨b5, 3, none⟩) hlty).trans y3; have y4b := (hb2.cell (p := ⟨b5, 4, none⟩) hlty).trans y4; have y5b := (hb2.cell (p := ⟨b5, 5, none⟩) hlty).trans y5; have hB3 := hB.trans (hb2.mono hB.size); rw [d4])
              go_ret
              exact ⟨by simp [d1, d2, d3, d3d, d3n, d4, d5, d5d, d5n, e1], hB3⟩
          · have d5 : (n == 0) = false := beq_eq_false_iff_ne.mpr h_
            have d5d : decide (n = 0) = false := decide_eq_false h_
            have d5n : (n != 0) = true := bne_iff_ne.mpr h_
            clear h_
            go_wp2_with (go_at_call 93; refine (tempty_walk _ _ _ _ _ _ _ _).mono ?_; rintro e w2 ⟨rfl, hb2⟩; have x5b := (hb2.cell (p := ⟨w.heap.size, 5, none⟩) hltx).trans x5; have x6b := (hb2.cell (p := ⟨w.heap.size, 6, none⟩) hltx).trans x6; have x7b := (hb2.cell (p := ⟨w.heap.size, 7, none⟩) hltx).trans x7; have y3b := (hb2.cell (p := ⟨b5, 3, none⟩) hlty).trans y3; have y4b := (hb2.cell (p := ⟨b5, 4, none⟩) hlty).trans y4; have y5b := (hb2.cell (p := ⟨b5, 5, none⟩) hlty).trans y5; have hB3 := hB.trans (hb2.mono hB.size); rw [d4])
            go_ret
            exact ⟨by simp [d1, d2, d3, d3d, d3n, d4, d5, d5d, d5n], hB3⟩
        · have d4 : (!nt && decide (rl = 0) && decide (tl = 0)) = false := Bool.eq_false_iff.mpr h_
          clear h_
          go_wp2_with (go_at_call 93; refine (tempty_walk _ _ _ _ _ _ _ _).mono ?_; rintro e w2 ⟨rfl, hb2⟩; have x5b := (hb2.cell (p := ⟨w.heap.size, 5, none⟩) hltx).trans x5; have x6b := (hb2.cell (p := ⟨w.heap.size, 6, none⟩) hltx).trans x6; have x7b := (hb2.cell (p := ⟨w.heap.size, 7, none⟩) hltx).trans x7; have y3b := (hb2.cell (p := ⟨b5, 3, none⟩) hlty).trans y3; have y4b := (hb2.cell (p := ⟨b5, 4, none⟩) hlty).trans y4; have y5b := (hb2.cell (p := ⟨b5, 5, none⟩) hlty).trans y5; have hB3 := hB.trans (hb2.mono hB.size); rw [d4])
          go_ret
          exact ⟨by simp [d1, d2, d3, d3d, d3n, d4], hB3⟩
      · have d3 : (c == 0) = false := beq_eq_false_iff_ne.mpr h_
        have d3d : decide (c = 0) = false := decide_eq_false h_
        have d3n : (c != 0) = true := bne_iff_ne.mpr h_
        clear h_
        go_wp2_with (go_at_call 93; refine (tempty_walk _ _ _ _ _ _ _ _).mono ?_; rintro e w2 ⟨rfl, hb2⟩; have x5b := (hb2.cell (p := ⟨w.heap.size, 5, none⟩) hltx).trans x5; have x6b := (hb2.cell (p := ⟨w.heap.size, 6, none⟩) hltx).trans x6; have x7b := (hb2.cell (p := ⟨w.heap.size, 7, none⟩) hltx).trans x7; have y3b := (hb2.cell (p := ⟨b5, 3, none⟩) hlty).trans y3; have y4b := (hb2.cell (p := ⟨b5, 4, none⟩) hlty).trans y4; have y5b := (hb2.cell (p := ⟨b5, 5, none⟩) hlty).trans y5; have hB3 := hB.trans (hb2.mono hB.size); rw [d4])
        go_ret
        exact ⟨by simp [d1, d2, d3, d3d, d3n], hB⟩
/-- May a node be, but for where its kids are? -/
def nodeB (k c : Int) (nt sv : Bool) (rl tl kl : Nat) (n mn mx g : Int) : Bool :=
  if k = 1 then (!decide ((kl : Int) < 0) && !decide (0 < (kl : Int)) && isCell c && (!nt && decide (rl = 0) && decide (tl = 0)) && (n == 0) && ((mn == 0) && (mx == 0))) else if k = 2 then (!decide ((kl : Int) < 0) && !decide (0 < (kl : Int)) && (c == 0) && (!nt && decide (rl = 0) && decide (tl = 0)) && (n == 0) && ((mn == 0) && (mx == 0))) else if k = 3 then (!decide ((kl : Int) < 0) && !decide (0 < (kl : Int)) && (c == 0) && sv && (n == 0) && ((mn == 0) && (mx == 0))) else if k = 4 then (!decide ((kl : Int) < 0) && !decide (0 < (kl : Int)) && (c == 0) && (!nt && decide (rl = 0) && decide (tl = 0)) && (n == 0) && ((mn == 0) && (mx == 0))) else if k = 5 then (!decide ((kl : Int) < 0) && !decide (0 < (kl : Int)) && (c == 0) && (!nt && decide (rl = 0) && decide (tl = 0)) && (n == 0) && ((mn == 0) && (mx == 0))) else if k = 6 then (!decide ((kl : Int) < 0) && !decide (0 < (kl : Int)) && (c == 0) && (!nt && decide (rl = 0) && decide (tl = 0)) && (!decide (n < 1) && !decide (g < n)) && ((mn == 0) && (mx == 0))) else if k = 7 then (!decide ((kl : Int) < 1) && !decide (1 < (kl : Int)) && (c == 0) && (!nt && decide (rl = 0) && decide (tl = 0)) && (!decide (n < 1) && !decide (g < n)) && ((mn == 0) && (mx == 0))) else if k = 8 then (!decide ((kl : Int) < 2) && !decide (200 < (kl : Int)) && (c == 0) && (!nt && decide (rl = 0) && decide (tl = 0)) && (n == 0) && ((mn == 0) && (mx == 0))) else if k = 9 then (!decide ((kl : Int) < 2) && !decide (200 < (kl : Int)) && (c == 0) && (!nt && decide (rl = 0) && decide (tl = 0)) && (n == 0) && ((mn == 0) && (mx == 0))) else if k = 10 then (!decide ((kl : Int) < 1) && !decide (1 < (kl : Int)) && (c == 0) && (!nt && decide (rl = 0) && decide (tl = 0)) && (n == 0) && (decide (0 ≤ mn) && decide (mn ≤ 255) && ((mx == -1) || (decide (mn ≤ mx) && decide (mx ≤ 255))))) else if k = 11 then (!decide ((kl : Int) < 0) && !decide (0 < (kl : Int)) && (c == 0) && (!nt && decide (rl = 0) && decide (tl = 0)) && (n == 0) && ((mn == 0) && (mx == 0))) else false
theorem look_at (W : World) (b : Nat) (hb : W.heap[b]? = some (.map shapeMap 11)) (k : Int) (i : Nat) (v : Value) (h : Instr.findNow (.int .u8) (.int .u8 k) shapeMap.toList 0 = some (some (i, v))) :
    (Instr.lookup 128 (.map (some b)) (.int .u8 k) true).run Tryd.prog W = .ok (.tuple #[v, .bool true]) W := by
  simp [Instr.lookup, run_underlying Tryd.underlying128, MapKept.run_getObj_map hb, MapKept.run_checkKey Tryd.underlying5 (show MapKept.IsKey (.int .u8) (.int .u8 k) from rfl), MapKept.run_findKey Tryd.underlying5 h, Result.andThen]
theorem zero126 : (Tryd.prog.info? 126).map (fun i => (i.zero, i.size)) = some (some (.agg #[.int .i64 0, .int .i64 0, .bool false, .bool false, .bool false, .bool false]), 6) := by kernel_rfl
theorem look_none (W : World) (b : Nat) (hb : W.heap[b]? = some (.map shapeMap 11)) (k : Int) (h : Instr.findNow (.int .u8) (.int .u8 k) shapeMap.toList 0 = some none) :
    (Instr.lookup 128 (.map (some b)) (.int .u8 k) true).run Tryd.prog W = .ok (.tuple #[.agg #[.int .i64 0, .int .i64 0, .bool false, .bool false, .bool false, .bool false], .bool false]) W := by
  have hz := (zero_of_info zero126).1 W
  simp [Instr.lookup, run_underlying Tryd.underlying128, MapKept.run_getObj_map hb, MapKept.run_checkKey Tryd.underlying5 (show MapKept.IsKey (.int .u8) (.int .u8 k) from rfl), MapKept.run_findKey Tryd.underlying5 h, Result.andThen, hz]
theorem map_new (W : World) : (W.alloc (.map shapeMap 11)).heap[W.heap.size]? = some (.map shapeMap 11) := heap_alloc_new W _
theorem map_new2 (W : World) (o : Obj) : ((W.alloc (.map shapeMap 11)).alloc o).heap[W.heap.size]? = some (.map shapeMap 11) := (Below.heap_alloc _ _ _ (by simp)).trans (heap_alloc_new W _)
set_option maxHeartbeats 16000000 in
set_option maxRecDepth 100000 in
theorem tn_none (k c : Int) (nt : Bool) (A3 A4 A8 : Option Addr) (rl c3 tl c4 kl c8 : Nat) (n mn mx g : Int) (w : World)
    (bm b5 : Nat) (W' : World) (hB : Below w.heap.size w W') (hx : W'.heap[w.heap.size]? = some (.cells #[.int .u8 k, .int .i32 c, .bool nt, .slice A3 rl c3, .slice A4 tl c4, .int .i64 n, .int .i64 mn, .int .i64 mx, .slice A8 kl c8] 60 (0, 0))) :
    Code.wp Tryd.prog (restOf Tryd.f68.body) (bodyPost Tryd.prog Tryd.f68 fun e w' => e = .returned (.bool false) ∧ Below w.heap.size w w') { tmps := #[.agg #[.int .u8 k, .int .i32 c, .bool nt, .slice A3 rl c3, .slice A4 tl c4, .int .i64 n, .int .i64 mn, .int .i64 mx, .slice A8 kl c8], .int .i64 g, .pointer (some ⟨w.heap.size, 0, none⟩), undef, .bool false, .pointer (some ⟨b5, 0, none⟩), .bool false, .tuple #[.agg #[.int .i64 0, .int .i64 0, .bool false, .bool false, .bool false, .bool false], .bool false], .map (some bm), .pointer (some ⟨w.heap.size, 0, none⟩), .int .u8 k, .tuple #[.agg #[.int .i64 0, .int .i64 0, .bool false, .bool false, .bool false, .bool false], .bool false], .agg #[.int .i64 0, .int .i64 0, .bool false, .bool false, .bool false, .bool false], .bool false, undef, undef, undef, undef, undef, undef, undef, undef, undef, undef, undef, undef, undef, undef, undef, undef, undef, undef, undef, undef, undef, undef, undef, undef, undef, undef, undef, undef, undef, undef, undef, undef, undef, undef, undef, undef, undef, undef, undef, undef, undef, undef, undef, undef, undef, undef, undef, undef, undef, undef, undef, undef, undef, undef, undef, undef, undef, undef, undef, undef, undef, undef, undef, undef, undef, undef, undef, undef, undef, undef, undef, undef, undef, undef, undef, undef, undef, undef, undef, undef, undef, undef, undef, undef, undef, undef, undef, undef, undef, undef, undef, undef, undef, undef, undef, undef, undef, undef, undef, undef, undef, undef, undef, undef, undef, undef, undef, undef, undef, undef, undef, undef, undef, undef, undef, undef, undef, undef], defers := [] } W' := by
  simp only [restOf, Tryd.f68]
  go_wp2
  go_ret
  exact ⟨by simp, hB⟩
theorem tright_walk (k c : Int) (nt sv : Bool) (A3 A4 A8 : Option Addr) (rl c3 tl c4 kl c8 : Nat) (n mn mx g : Int) (w : World)
    (hsv : k = 3 → ∀ W : World, Calls Tryd.prog 92 #[.agg #[.bool nt, .slice A3 rl c3, .slice A4 tl c4]] W fun e w' => e = .returned (.bool sv) ∧ Below W.heap.size W w') :
    Calls Tryd.prog 68 #[.agg #[.int .u8 k, .int .i32 c, .bool nt, .slice A3 rl c3, .slice A4 tl c4, .int .i64 n, .int .i64 mn, .int .i64 mx, .slice A8 kl c8], .int .i64 g] w fun e w' => e = .returned (.bool (nodeB k c nt sv rl tl kl n mn mx g)) ∧ Below w.heap.size w w' := by
  by_cases h1 : k = 1
  · subst h1
    refine (tr_main 1 c nt A3 A4 A8 rl c3 tl c4 kl c8 n mn mx g 0 0 true false false false true w _ (fun W => look_at _ _ (map_new W) 1 _ _ rfl) (fun W o => look_at _ _ (map_new2 W o) 1 _ _ rfl) (fun bm b5 W' hB hx hb => tn_cell 1 c nt sv A3 A4 A8 rl c3 tl c4 kl c8 n mn mx g 0 0 w bm b5 W' hB hx hb)).mono ?_
    rintro e w' ⟨rfl, hb⟩
    exact ⟨rfl, hb⟩
  by_cases h2 : k = 2
  · subst h2
    refine (tr_main 2 c nt A3 A4 A8 rl c3 tl c4 kl c8 n mn mx g 0 0 false false false false true w _ (fun W => look_at _ _ (map_new W) 2 _ _ rfl) (fun W o => look_at _ _ (map_new2 W o) 2 _ _ rfl) (fun bm b5 W' hB hx hb => tn_bare 2 c nt sv A3 A4 A8 rl c3 tl c4 kl c8 n mn mx g 0 0 w bm b5 W' hB hx hb)).mono ?_
    rintro e w' ⟨rfl, hb⟩
    exact ⟨rfl, hb⟩
  by_cases h3 : k = 3
  · subst h3
    refine (tr_main 3 c nt A3 A4 A8 rl c3 tl c4 kl c8 n mn mx g 0 0 false true false false true w _ (fun W => look_at _ _ (map_new W) 3 _ _ rfl) (fun W o => look_at _ _ (map_new2 W o) 3 _ _ rfl) (fun bm b5 W' hB hx hb => tn_set 3 c nt sv A3 A4 A8 rl c3 tl c4 kl c8 n mn mx g 0 0 w (hsv rfl) bm b5 W' hB hx hb)).mono ?_
    rintro e w' ⟨rfl, hb⟩
    exact ⟨rfl, hb⟩
  by_cases h4 : k = 4
  · subst h4
    refine (tr_main 4 c nt A3 A4 A8 rl c3 tl c4 kl c8 n mn mx g 0 0 false false false false true w _ (fun W => look_at _ _ (map_new W) 4 _ _ rfl) (fun W o => look_at _ _ (map_new2 W o) 4 _ _ rfl) (fun bm b5 W' hB hx hb => tn_bare 4 c nt sv A3 A4 A8 rl c3 tl c4 kl c8 n mn mx g 0 0 w bm b5 W' hB hx hb)).mono ?_
    rintro e w' ⟨rfl, hb⟩
    exact ⟨rfl, hb⟩
  by_cases h5 : k = 5
  · subst h5
    refine (tr_main 5 c nt A3 A4 A8 rl c3 tl c4 kl c8 n mn mx g 0 0 false false false false true w _ (fun W => look_at _ _ (map_new W) 5 _ _ rfl) (fun W o => look_at _ _ (map_new2 W o) 5 _ _ rfl) (fun bm b5 W' hB hx hb => tn_bare 5 c nt sv A3 A4 A8 rl c3 tl c4 kl c8 n mn mx g 0 0 w bm b5 W' hB hx hb)).mono ?_
    rintro e w' ⟨rfl, hb⟩
    exact ⟨rfl, hb⟩
  by_cases h6 : k = 6
  · subst h6
    refine (tr_main 6 c nt A3 A4 A8 rl c3 tl c4 kl c8 n mn mx g 0 0 false false true false true w _ (fun W => look_at _ _ (map_new W) 6 _ _ rfl) (fun W o => look_at _ _ (map_new2 W o) 6 _ _ rfl) (fun bm b5 W' hB hx hb => tn_num 6 c nt sv A3 A4 A8 rl c3 tl c4 kl c8 n mn mx g 0 0 w bm b5 W' hB hx hb)).mono ?_
    rintro e w' ⟨rfl, hb⟩
    exact ⟨rfl, hb⟩
  by_cases h7 : k = 7
  · subst h7
    refine (tr_main 7 c nt A3 A4 A8 rl c3 tl c4 kl c8 n mn mx g 1 1 false false true false true w _ (fun W => look_at _ _ (map_new W) 7 _ _ rfl) (fun W o => look_at _ _ (map_new2 W o) 7 _ _ rfl) (fun bm b5 W' hB hx hb => tn_num 7 c nt sv A3 A4 A8 rl c3 tl c4 kl c8 n mn mx g 1 1 w bm b5 W' hB hx hb)).mono ?_
    rintro e w' ⟨rfl, hb⟩
    exact ⟨rfl, hb⟩
  by_cases h8 : k = 8
  · subst h8
    refine (tr_main 8 c nt A3 A4 A8 rl c3 tl c4 kl c8 n mn mx g 2 200 false false false false true w _ (fun W => look_at _ _ (map_new W) 8 _ _ rfl) (fun W o => look_at _ _ (map_new2 W o) 8 _ _ rfl) (fun bm b5 W' hB hx hb => tn_bare 8 c nt sv A3 A4 A8 rl c3 tl c4 kl c8 n mn mx g 2 200 w bm b5 W' hB hx hb)).mono ?_
    rintro e w' ⟨rfl, hb⟩
    exact ⟨rfl, hb⟩
  by_cases h9 : k = 9
  · subst h9
    refine (tr_main 9 c nt A3 A4 A8 rl c3 tl c4 kl c8 n mn mx g 2 200 false false false false true w _ (fun W => look_at _ _ (map_new W) 9 _ _ rfl) (fun W o => look_at _ _ (map_new2 W o) 9 _ _ rfl) (fun bm b5 W' hB hx hb => tn_bare 9 c nt sv A3 A4 A8 rl c3 tl c4 kl c8 n mn mx g 2 200 w bm b5 W' hB hx hb)).mono ?_
    rintro e w' ⟨rfl, hb⟩
    exact ⟨rfl, hb⟩
  by_cases h10 : k = 10
  · subst h10
    refine (tr_main 10 c nt A3 A4 A8 rl c3 tl c4 kl c8 n mn mx g 1 1 false false false true true w _ (fun W => look_at _ _ (map_new W) 10 _ _ rfl) (fun W o => look_at _ _ (map_new2 W o) 10 _ _ rfl) (fun bm b5 W' hB hx hb => tn_many 10 c nt sv A3 A4 A8 rl c3 tl c4 kl c8 n mn mx g 1 1 w bm b5 W' hB hx hb)).mono ?_
    rintro e w' ⟨rfl, hb⟩
    exact ⟨rfl, hb⟩
  by_cases h11 : k = 11
  · subst h11
    refine (tr_main 11 c nt A3 A4 A8 rl c3 tl c4 kl c8 n mn mx g 0 0 false false false false true w _ (fun W => look_at _ _ (map_new W) 11 _ _ rfl) (fun W o => look_at _ _ (map_new2 W o) 11 _ _ rfl) (fun bm b5 W' hB hx hb => tn_bare 11 c nt sv A3 A4 A8 rl c3 tl c4 kl c8 n mn mx g 0 0 w bm b5 W' hB hx hb)).mono ?_
    rintro e w' ⟨rfl, hb⟩
    exact ⟨rfl, hb⟩
  have hn : Instr.findNow (.int .u8) (.int .u8 k) shapeMap.toList 0 = some none := by
    simp [shapeMap, Instr.findNow, Instr.sameNow, beq_eq_false_iff_ne.mpr h1, beq_eq_false_iff_ne.mpr h2, beq_eq_false_iff_ne.mpr h3, beq_eq_false_iff_ne.mpr h4, beq_eq_false_iff_ne.mpr h5, beq_eq_false_iff_ne.mpr h6, beq_eq_false_iff_ne.mpr h7, beq_eq_false_iff_ne.mpr h8, beq_eq_false_iff_ne.mpr h9, beq_eq_false_iff_ne.mpr h10, beq_eq_false_iff_ne.mpr h11]
  refine (tr_main k c nt A3 A4 A8 rl c3 tl c4 kl c8 n mn mx g 0 0 false false false false false w _ (fun W => look_none _ _ (map_new W) k hn) (fun W o => look_none _ _ (map_new2 W o) k hn) (fun bm b5 W' hB hx hb => tn_none k c nt A3 A4 A8 rl c3 tl c4 kl c8 n mn mx g w bm b5 W' hB hx)).mono ?_
  rintro e w' ⟨rfl, hb⟩
  refine ⟨?_, hb⟩
  unfold nodeB
  rw [if_neg h1, if_neg h2, if_neg h3, if_neg h4, if_neg h5, if_neg h6, if_neg h7, if_neg h8, if_neg h9, if_neg h10, if_neg h11]
end Go.Proofs.YtcppmghhijffpaaDoorW.PrintMore
