-- Written by xprint.py (a program of this claim's author) out of the translation. Not trusted: Lean checks it.
import Derived.Test.YtcppmghhijffpaaDoorX0
import Derived.Test.YtcppmghhijffpaaDoorX3
import Derived.Test.YtcppmghhijffpaaDoorX5
import Derived.Test.YtcppmghhijffpaaDoorX7
namespace Go.Proofs.YtcppmghhijffpaaDoor.X
open Go.RowKit Go.Proofs.YtcppmghhijffpaaDoorW.PrintWords Go.Proofs.YtcppmghhijffpaaDoorW.PrintLast Go.Proofs.YtcppmghhijffpaaDoorW.PrintMore
attribute [local go_sem] max2_int min2_int max_two min_two max_three min_three max_four min_four   -- for this text's walks alone
set_option linter.unusedVariables false
set_option linter.unusedSimpArgs false

/-! ### redactorlaw17_ListFolds: function 5 -/
mutual
def redactorlaw17_ListFolds.l0 : Nat → List Int → Int → List Int → List Int → Int → Int → Option (Bool)
  | 0, _, _, _, _, _, _ => none
  | k + 1, x5, x6, x7, x8, x9, x10 => if x10 < (x7.length : Int) then (if 0 ≤ x10 then (if (rd x7 x10) = 92 then (if (wrap64 (x10 + 1)) < (x7.length : Int) then (if 0 ≤ (wrap64 (x10 + 1)) then (redactorlaw17_ListFolds.j1 k x5 x6 x7 x8 x9 x10 ((rd x7 (wrap64 (x10 + 1))) == 10)) else (none)) else (redactorlaw17_ListFolds.j1 k x5 x6 x7 x8 x9 x10 false)) else (redactorlaw17_ListFolds.j1 k x5 x6 x7 x8 x9 x10 false)) else (none)) else ((redactorlaw17_known.f k).bind fun t297 => (if t297 = true then ((list_Show.f k x5 0).bind fun t298 => ((redactorref01_Same.f k x8 t298).bind fun t301 => (some t301))) else (some false)))
def redactorlaw17_ListFolds.j1 : Nat → List Int → Int → List Int → List Int → Int → Int → Bool → Option (Bool)
  | 0, _, _, _, _, _, _, _ => none
  | k + 1, x5, x6, x7, x8, x9, x10, x45 => if x45 = true then (redactorlaw17_ListFolds.l0 k x5 x6 x7 x8 0 (wrap64 ((wrap64 (x10 + 1)) + 1))) else (if 0 ≤ x10 then (if x10 < (x7.length : Int) then (if x8.length < 35184372088832 then (if (wrap64 (x9 + 1)) > (wrap64 (x6 - 1)) then (some false) else (redactorlaw17_ListFolds.l0 k x5 x6 x7 (x8 ++ [rd x7 x10]) (wrap64 (x9 + 1)) (wrap64 (x10 + 1)))) else (none)) else (none)) else (none))
end
def redactorlaw17_ListFolds.f (k : Nat) (l0 : List Int) (a1 : Int) : Option (Bool) := (redactorlaw01_Cells.f k l0).bind fun t291 => ((list_Show.f k t291 (wrap64 (12 + (wrap64 (Int.tmod a1 60))))).bind fun t294 => (redactorlaw17_ListFolds.l0 k t291 (wrap64 (12 + (wrap64 (Int.tmod a1 60)))) t294 ([] : List Int) 0 0))
theorem redactorlaw17_ListFolds.mono_l : ∀ k, (∀ y0 y1 y2 y3 y4 y5, LeO (redactorlaw17_ListFolds.l0 k y0 y1 y2 y3 y4 y5) (redactorlaw17_ListFolds.l0 (k + 1) y0 y1 y2 y3 y4 y5)) ∧ (∀ y0 y1 y2 y3 y4 y5 y6, LeO (redactorlaw17_ListFolds.j1 k y0 y1 y2 y3 y4 y5 y6) (redactorlaw17_ListFolds.j1 (k + 1) y0 y1 y2 y3 y4 y5 y6))
  | 0 => ⟨fun _ _ _ _ _ _ r h => by simp [redactorlaw17_ListFolds.l0] at h, fun _ _ _ _ _ _ _ r h => by simp [redactorlaw17_ListFolds.j1] at h⟩
  | k + 1 => by
    obtain ⟨ih0, ih1⟩ := redactorlaw17_ListFolds.mono_l k
    refine ⟨?_, ?_⟩
    · intro y0 y1 y2 y3 y4 y5
      unfold redactorlaw17_ListFolds.l0
      repeat' first
      | (with_reducible exact ih0 _ _ _ _ _ _)
      | (with_reducible exact ih1 _ _ _ _ _ _ _)
      | (with_reducible exact list_Show.mono _ _ _)
      | (with_reducible exact redactorlaw01_Cells.mono _ _)
      | (with_reducible exact redactorlaw17_known.mono _)
      | (with_reducible exact redactorref01_Same.mono _ _ _)
      | (with_reducible exact LeO.refl _)
      | (with_reducible exact LeO.none _)
      | (with_reducible refine LeO.ite ?_ ?_)
      | (with_reducible refine LeO.bind ?_ (fun _ => ?_))
      | exact ih0 _ _ _ _ _ _
      | exact ih1 _ _ _ _ _ _ _
      | exact list_Show.mono _ _ _
      | exact redactorlaw01_Cells.mono _ _
      | exact redactorlaw17_known.mono _
      | exact redactorref01_Same.mono _ _ _
      | exact LeO.none _
      | refine LeO.ite ?_ ?_
      | refine LeO.bind ?_ (fun _ => ?_)
    · intro y0 y1 y2 y3 y4 y5 y6
      unfold redactorlaw17_ListFolds.j1
      repeat' first
      | (with_reducible exact ih0 _ _ _ _ _ _)
      | (with_reducible exact ih1 _ _ _ _ _ _ _)
      | (with_reducible exact list_Show.mono _ _ _)
      | (with_reducible exact redactorlaw01_Cells.mono _ _)
      | (with_reducible exact redactorlaw17_known.mono _)
      | (with_reducible exact redactorref01_Same.mono _ _ _)
      | (with_reducible exact LeO.refl _)
      | (with_reducible exact LeO.none _)
      | (with_reducible refine LeO.ite ?_ ?_)
      | (with_reducible refine LeO.bind ?_ (fun _ => ?_))
      | exact ih0 _ _ _ _ _ _
      | exact ih1 _ _ _ _ _ _ _
      | exact list_Show.mono _ _ _
      | exact redactorlaw01_Cells.mono _ _
      | exact redactorlaw17_known.mono _
      | exact redactorref01_Same.mono _ _ _
      | exact LeO.none _
      | refine LeO.ite ?_ ?_
      | refine LeO.bind ?_ (fun _ => ?_)
theorem redactorlaw17_ListFolds.mono : ∀ a0 a1 k, LeO (redactorlaw17_ListFolds.f k a0 a1) (redactorlaw17_ListFolds.f (k + 1) a0 a1) := by
  intro a0 a1 k
  obtain ⟨ih0, ih1⟩ := redactorlaw17_ListFolds.mono_l k
  unfold redactorlaw17_ListFolds.f
  repeat' first
      | (with_reducible exact ih0 _ _ _ _ _ _)
      | (with_reducible exact ih1 _ _ _ _ _ _ _)
      | (with_reducible exact list_Show.mono _ _ _)
      | (with_reducible exact redactorlaw01_Cells.mono _ _)
      | (with_reducible exact redactorlaw17_known.mono _)
      | (with_reducible exact redactorref01_Same.mono _ _ _)
      | (with_reducible exact LeO.refl _)
      | (with_reducible exact LeO.none _)
      | (with_reducible refine LeO.ite ?_ ?_)
      | (with_reducible refine LeO.bind ?_ (fun _ => ?_))
      | exact ih0 _ _ _ _ _ _
      | exact ih1 _ _ _ _ _ _ _
      | exact list_Show.mono _ _ _
      | exact redactorlaw01_Cells.mono _ _
      | exact redactorlaw17_known.mono _
      | exact redactorref01_Same.mono _ _ _
      | exact LeO.none _
      | refine LeO.ite ?_ ?_
      | refine LeO.bind ?_ (fun _ => ?_)
set_option maxHeartbeats 8000000 in
set_option maxRecDepth 100000 in
theorem redactorlaw17_ListFolds.calls (k : Nat) (A0 : Option Addr) (c0 : Nat) (l0 : List Int) (a1 : Int) (r : Bool) (w : World) (ht : Tabs2 w) (hr0 : Kd.C (Kd.int .u8) w A0 l0.length l0) (hc0 : l0.length ≤ c0) (h : redactorlaw17_ListFolds.f k l0 a1 = some r) :
    Calls Tryd.prog 5 #[.slice A0 l0.length c0, .int .u8 a1] w fun e w' => e = .returned (.bool r) ∧ Below w.heap.size w w' := by
  have HR0 := Aside0.mk hr0
  have HC0 := Aside0.mk hc0
  clear hr0 hc0
  have HB := Aside0.mk (Below.refl w.heap.size w)
  have HT := Aside0.mk ht
  clear ht
  have H : ((redactorlaw01_Cells.f k l0).bind fun t291 => ((list_Show.f k t291 (wrap64 (12 + (wrap64 (Int.tmod a1 60))))).bind fun t294 => (redactorlaw17_ListFolds.l0 k t291 (wrap64 (12 + (wrap64 (Int.tmod a1 60)))) t294 ([] : List Int) 0 0))) = some r := h
  clear h
  replace H := Option.bind_eq_some_iff.mp H
  obtain ⟨t291, A30, H⟩ := H
  replace H : ((list_Show.f k t291 (wrap64 (12 + (wrap64 (Int.tmod a1 60))))).bind fun t294 => (redactorlaw17_ListFolds.l0 k t291 (wrap64 (12 + (wrap64 (Int.tmod a1 60)))) t294 ([] : List Int) 0 0)) = some r := H
  have A3 := Aside0.mk A30
  clear A30
  replace H := Option.bind_eq_some_iff.mp H
  obtain ⟨t294, A40, H⟩ := H
  replace H : (redactorlaw17_ListFolds.l0 k t291 (wrap64 (12 + (wrap64 (Int.tmod a1 60)))) t294 ([] : List Int) 0 0) = some r := H
  have A4 := Aside0.mk A40
  clear A40
  have H' := Aside0.mk H
  clear H
  go_enter Tryd.func5, Tryd.ntmps5
  go_wp2_with (first | ((with_reducible refine gate_callee (f := 25) rfl ?_); refine goesL_ (some 12) rfl rfl Tryd.func25 (by kernel_rfl) rfl #[.slice A0 l0.length c0] rfl (by (try simp only [List.map_toArray, List.map_cons, List.map_nil]); first | done | rfl | (simp only [List.length_drop, List.length_take]; rfl)) ?_; (with_reducible refine (redactorlaw01_Cells.calls k _ _ l0 t291 _ ?side1 ?side2 A3.out).mono ?_); (case side1 => repeat (first | exact HR0.out | (with_reducible refine Kd.C_alloc ?_ _) | (with_reducible refine Kd.C_drewN ?_ _) | (with_reducible refine Kd.C_drew ?_))); (case side2 => exact HC0.out); rintro e w5 ⟨v292, rfl, ho0, hb⟩; refine ⟨_, rfl, ?_⟩; have n0_ := Aside0.mk (Kd.R_lower ho0 (below_size (by repeat (first | (with_reducible first | exact HB.out | apply below_alloc | apply pw_below_drewN | apply below_drew1) | exact HB.out)))); have n1_ := Aside0.mk (below_step (by repeat (first | (with_reducible first | exact HB.out | apply below_alloc | apply pw_below_drewN | apply below_drew1) | exact HB.out)) hb); clear HB; have HO293 := n0_; have HB := n1_; clear n0_ n1_; (try clear hb); (try clear hb2); (try clear hk); (try clear hi); (try clear ho0); obtain ⟨Ao6, co6, eo6⟩ := Kd.R_slice HO293.out; subst eo6) | ((with_reducible refine gate_callee (f := 24) rfl ?_); refine goesL_ (some 19) rfl rfl Tryd.func24 (by kernel_rfl) rfl #[.slice Ao6 t291.length co6, .int .i64 (wrap64 (12 + (wrap64 (Int.tmod a1 60))))] rfl (by (try simp only [List.map_toArray, List.map_cons, List.map_nil]); first | done | rfl | (simp only [List.length_drop, List.length_take]; rfl)) ?_; (with_reducible refine (list_Show.calls k _ _ t291 (wrap64 (12 + (wrap64 (Int.tmod a1 60)))) t294 _ ?side3 ?side1 ?side2 A4.out).mono ?_); (case side1 => repeat (first | exact (Kd.R_reads' HO293.out).2.2 | (with_reducible refine Kd.C_alloc ?_ _) | (with_reducible refine Kd.C_drewN ?_ _) | (with_reducible refine Kd.C_drew ?_))); (case side2 => exact (Kd.R_reads' HO293.out).2.1); (case side3 => first | exact HT.out | exact Tabs2.below HT.out (by repeat (first | (with_reducible first | exact HB.out | apply below_alloc | apply pw_below_drewN | apply below_drew1) | exact HB.out))); rintro e w7 ⟨v295, rfl, ho0, hb⟩; refine ⟨_, rfl, ?_⟩; have n0_ := Aside0.mk (Kd.R_elder' (by (with_reducible repeat (first | apply Kd.R_alloc | apply Kd.R_drewN | apply Kd.R_drew)); exact HO293.out) (Kd.R_base ho0) hb); have n1_ := Aside0.mk (Kd.R_lower (Kd.R_new' ho0 (Kd.R_lt (by (with_reducible repeat (first | apply Kd.R_alloc | apply Kd.R_drewN | apply Kd.R_drew)); exact HO293.out))) (below_size (by repeat (first | (with_reducible first | exact HB.out | apply below_alloc | apply pw_below_drewN | apply below_drew1) | exact HB.out)))); have n2_ := Aside0.mk (below_step (by repeat (first | (with_reducible first | exact HB.out | apply below_alloc | apply pw_below_drewN | apply below_drew1) | exact HB.out)) hb); clear HO293; clear HB; have HO293 := n0_; have HO296 := n1_; have HB := n2_; clear n0_ n1_ n2_; (try clear hb); (try clear hb2); (try clear hk); (try clear hi); (try clear ho0)))
  go_loopg [8, 9, 10] k (fun kq v8 v9 v10 w' => ∃ (x8_1 : List Int) (x9_1 : Int) (x10_1 : Int), v9 = .int .i64 x9_1 ∧ v10 = .int .i64 x10_1 ∧ Aside0 (redactorlaw17_ListFolds.l0 kq t291 (wrap64 (12 + (wrap64 (Int.tmod a1 60)))) t294 x8_1 x9_1 x10_1 = some r) ∧ Aside0 (kq ≤ k) ∧ Aside0 (Kd.R (Kd.int .i32) 24 w' w.heap.size (fun k_ => some k_ ≠ (v295 : Value).ownBlock ∧ some k_ ≠ (v8 : Value).ownBlock) (.slice Ao6 t291.length co6) t291) ∧ Aside0 (Kd.R (Kd.int .i32) 24 w' w.heap.size (fun k_ => some k_ ≠ ((.slice Ao6 t291.length co6) : Value).ownBlock ∧ some k_ ≠ (v8 : Value).ownBlock) v295 t294) ∧ Aside0 (Kd.R (Kd.int .i32) 24 w' w.heap.size (fun k_ => some k_ ≠ ((.slice Ao6 t291.length co6) : Value).ownBlock ∧ some k_ ≠ (v295 : Value).ownBlock) v8 x8_1) ∧ Aside0 (Below w.heap.size w w'))
  case atStart => exact ⟨(([] : List Int)), (0), (0), (by first | rfl | (simp; done) | (simp [*]; done)), (by first | rfl | (simp; done) | (simp [*]; done)), H', ⟨Nat.le_refl _⟩, ⟨by (with_reducible repeat (first | apply Kd.R_alloc | apply Kd.R_drewN | apply Kd.R_drew)); exact Kd.R_mono HO293.out (fun _ hk => ⟨hk.2, (by simp [Value.ownBlock])⟩)⟩, ⟨by (with_reducible repeat (first | apply Kd.R_alloc | apply Kd.R_drewN | apply Kd.R_drew)); exact Kd.R_mono HO296.out (fun _ hk => ⟨hk.2, (by simp [Value.ownBlock])⟩)⟩, ⟨by first | exact Kd.R_nil _ _ _ _ _ | exact Kd.N_nil _ _ _ _ _ | exact Kd.V_nil _ _ _ _ _ | exact Kd.Q_nil _ _ _ _ _ | exact Kd.S_nil _ _ _ _ _⟩, ⟨by repeat (first | (with_reducible first | exact HB.out | apply below_alloc | apply pw_below_drewN | apply below_drew1) | exact HB.out)⟩⟩
  case round =>
    clear H'
    try clear c2
    try clear p2
    try clear c5
    try clear p6
    obtain ⟨x8_1, x9_1, x10_1, rfl, rfl, HA, HK1, HO_5, HO_7, HO_8, HB⟩ := hrel
    cases gk with
    | zero => exact absurd HA.out (by simp [redactorlaw17_ListFolds.l0])
    | succ k1 =>
      have H := HA.out
      clear HA
      simp only [redactorlaw17_ListFolds.l0] at H
      by_cases c8 : x10_1 < (t294.length : Int)
      · rw [if_pos c8] at H
        have c8b0 : decide (x10_1 < (t294.length : Int)) = true := decide_eq_true c8
        clear c8
        have HC9 := Aside0.mk H
        clear H
        obtain ⟨Ao10, co10, eo10⟩ := Kd.R_slice HO_7.out
        subst eo10
        go_upto_region 9 with (fail)
        go_cut [45] (fun v45 wc => ∃ (kq : Nat) (x45_8 : Bool), v45 = .bool x45_8 ∧ Aside0 (redactorlaw17_ListFolds.j1 kq t291 (wrap64 (12 + (wrap64 (Int.tmod a1 60)))) t294 x8_1 x9_1 x10_1 x45_8 = some r) ∧ Aside0 (kq ≤ k1) ∧ Aside0 (Kd.R (Kd.int .i32) 24 wc w.heap.size (fun k_ => some k_ ≠ ((.slice Ao10 t294.length co10) : Value).ownBlock ∧ some k_ ≠ (u8 : Value).ownBlock) (.slice Ao6 t291.length co6) t291) ∧ Aside0 (Kd.R (Kd.int .i32) 24 wc w.heap.size (fun k_ => some k_ ≠ ((.slice Ao6 t291.length co6) : Value).ownBlock ∧ some k_ ≠ (u8 : Value).ownBlock) (.slice Ao10 t294.length co10) t294) ∧ Aside0 (Kd.R (Kd.int .i32) 24 wc w.heap.size (fun k_ => some k_ ≠ ((.slice Ao6 t291.length co6) : Value).ownBlock ∧ some k_ ≠ ((.slice Ao10 t294.length co10) : Value).ownBlock) u8 x8_1) ∧ Aside0 (Below w.heap.size w wc))
        case first =>
          have H := HC9.out
          clear HC9
          by_cases c11 : 0 ≤ x10_1
          · rw [if_pos c11] at H
            have c11b0 : decide (0 ≤ x10_1) = true := decide_eq_true c11
            clear c11
            (first | rw [c11b0] | (simp only [i64_w, i32_w]; rw [c11b0]) | skip)
            by_cases c12 : (rd t294 x10_1) = 92
            · rw [if_pos c12] at H
              have c12b0 : ((rd t294 x10_1) == 92) = true := beq_iff_eq.mpr c12
              have c12b1 : ((rd t294 x10_1) != 92) = false := bne_eq_false_iff_eq.mpr c12
              clear c12
              by_cases c13 : (wrap64 (x10_1 + 1)) < (t294.length : Int)
              · rw [if_pos c13] at H
                have c13b0 : decide ((wrap64 (x10_1 + 1)) < (t294.length : Int)) = true := decide_eq_true c13
                clear c13
                obtain ⟨ji14, hji14⟩ : ∃ j_ : Int, (wrap64 (x10_1 + 1)) = j_ := ⟨_, rfl⟩
                replace H : (if 0 ≤ (ji14) then (redactorlaw17_ListFolds.j1 k1 t291 (wrap64 (12 + (wrap64 (Int.tmod a1 60)))) t294 x8_1 x9_1 x10_1 ((rd t294 (ji14)) == 10)) else (none)) = some r := by first | (rw [hji14] at H; exact H) | (simp only [hji14] at H ⊢; exact H)
                (try rw [hji14] at c13b0)
                have hji14w : (IntKind.i64.wrap (x10_1 + 1)) = ji14 := (i64_w _).trans hji14
                by_cases c15 : 0 ≤ (ji14)
                · rw [if_pos c15] at H
                  have c15b0 : decide (0 ≤ (ji14)) = true := decide_eq_true c15
                  clear c15
                  have H' := Aside0.mk H
                  clear H
                  have p302 : 0 ≤ (x10_1 : Int) := of_decide_eq_true (by first | (with_reducible assumption) | assumption)
                  have q302 : x10_1 < (t294.length : Int) := of_decide_eq_true (by first | (with_reducible assumption) | assumption)
                  obtain ⟨ad302, e302, hx302_0⟩ := Kd.at_int (Kd.R_reads' HO_7.out).2.2 x10_1 p302 q302
                  cases e302
                  replace p302 := eq_true p302
                  replace q302 := eq_true q302
                  have p303 : 0 ≤ ((ji14) : Int) := of_decide_eq_true (by first | (with_reducible assumption) | assumption)
                  have q303 : (ji14) < (t294.length : Int) := of_decide_eq_true (by first | (with_reducible assumption) | assumption)
                  obtain ⟨ad303, e303, hx303_0⟩ := Kd.at_int (Kd.R_reads' HO_7.out).2.2 (ji14) p303 q303
                  obtain rfl : ad302 = ad303 := (by injection e303)
                  replace p303 := eq_true p303
                  replace q303 := eq_true q303
                  go_wp2
                  go_meet
                  case rel => exact ⟨_, (((rd t294 (ji14)) == 10)), (by first | rfl | (simp; done) | (simp only [← hji14] <;> (first | rfl | simp)) | (simp [*]; done)), H', ⟨by have := HK1.out; first | omega | exact Nat.le_refl _⟩, ⟨by (with_reducible repeat (first | apply Kd.R_alloc | apply Kd.R_drewN | apply Kd.R_drew)); exact HO_5.out⟩, ⟨by (with_reducible repeat (first | apply Kd.R_alloc | apply Kd.R_drewN | apply Kd.R_drew)); exact HO_7.out⟩, ⟨by (with_reducible repeat (first | apply Kd.R_alloc | apply Kd.R_drewN | apply Kd.R_drew)); exact HO_8.out⟩, ⟨by repeat (first | (with_reducible first | exact HB.out | apply below_alloc | apply pw_below_drewN | apply below_drew1) | exact HB.out)⟩⟩
                · rw [if_neg c15] at H
                  exact absurd H (by simp)
              · rw [if_neg c13] at H
                have c13b0 : decide ((wrap64 (x10_1 + 1)) < (t294.length : Int)) = false := decide_eq_false c13
                clear c13
                have H' := Aside0.mk H
                clear H
                have p302 : 0 ≤ (x10_1 : Int) := of_decide_eq_true (by first | (with_reducible assumption) | assumption)
                have q302 : x10_1 < (t294.length : Int) := of_decide_eq_true (by first | (with_reducible assumption) | assumption)
                obtain ⟨ad302, e302, hx302_0⟩ := Kd.at_int (Kd.R_reads' HO_7.out).2.2 x10_1 p302 q302
                cases e302
                replace p302 := eq_true p302
                replace q302 := eq_true q302
                go_wp2
                go_meet
                case rel => exact ⟨_, (false), (by first | rfl | (simp; done) | (simp [*]; done)), H', ⟨by have := HK1.out; first | omega | exact Nat.le_refl _⟩, ⟨by (with_reducible repeat (first | apply Kd.R_alloc | apply Kd.R_drewN | apply Kd.R_drew)); exact HO_5.out⟩, ⟨by (with_reducible repeat (first | apply Kd.R_alloc | apply Kd.R_drewN | apply Kd.R_drew)); exact HO_7.out⟩, ⟨by (with_reducible repeat (first | apply Kd.R_alloc | apply Kd.R_drewN | apply Kd.R_drew)); exact HO_8.out⟩, ⟨by repeat (first | (with_reducible first | exact HB.out | apply below_alloc | apply pw_below_drewN | apply below_drew1) | exact HB.out)⟩⟩
            · rw [if_neg c12] at H
              have c12b0 : ((rd t294 x10_1) == 92) = false := beq_eq_false_iff_ne.mpr c12
              have c12b1 : ((rd t294 x10_1) != 92) = true := bne_iff_ne.mpr c12
              have H' := Aside0.mk H
              clear H
              have p302 : 0 ≤ (x10_1 : Int) := of_decide_eq_true (by first | (with_reducible assumption) | assumption)
              have q302 : x10_1 < (t294.length : Int) := of_decide_eq_true (by first | (with_reducible assumption) | assumption)
              obtain ⟨ad302, e302, hx302_0⟩ := Kd.at_int (Kd.R_reads' HO_7.out).2.2 x10_1 p302 q302
              cases e302
              replace p302 := eq_true p302
              replace q302 := eq_true q302
              go_wp2
              go_meet
              case rel => exact ⟨_, (false), (by first | rfl | (simp; done) | (simp [*]; done)), H', ⟨by have := HK1.out; first | omega | exact Nat.le_refl _⟩, ⟨by (with_reducible repeat (first | apply Kd.R_alloc | apply Kd.R_drewN | apply Kd.R_drew)); exact HO_5.out⟩, ⟨by (with_reducible repeat (first | apply Kd.R_alloc | apply Kd.R_drewN | apply Kd.R_drew)); exact HO_7.out⟩, ⟨by (with_reducible repeat (first | apply Kd.R_alloc | apply Kd.R_drewN | apply Kd.R_drew)); exact HO_8.out⟩, ⟨by repeat (first | (with_reducible first | exact HB.out | apply below_alloc | apply pw_below_drewN | apply below_drew1) | exact HB.out)⟩⟩
          · rw [if_neg c11] at H
            exact absurd H (by simp)
        case rest =>
          clear HC9
          try clear c1
          try clear c2
          try clear p2
          try clear p3
          try clear q3
          try clear hx3
          try clear c5
          try clear p6
          try clear c8
          try clear c8b0
          try clear c11
          try clear c11b0
          try clear c12
          try clear c12b0
          try clear c12b1
          try clear c13
          try clear c13b0
          try clear c15
          try clear c15b0
          try clear hx302_0
          try clear hx303_0
          try clear p2
          try clear p302
          try clear p303
          try clear p6
          try clear q302
          try clear q303
          obtain ⟨kq, x45_8, rfl, HA, HJ8, HO_5, HO_7, HO_8, HB⟩ := hcut
          cases kq with
          | zero => exact absurd HA.out (by simp [redactorlaw17_ListFolds.j1])
          | succ kj8 =>
            have H := HA.out
            clear HA
            simp only [redactorlaw17_ListFolds.j1] at H
            by_cases c16 : x45_8 = true
            · subst c16
              have H1 : (redactorlaw17_ListFolds.l0 kj8 t291 (wrap64 (12 + (wrap64 (Int.tmod a1 60)))) t294 x8_1 0 (wrap64 ((wrap64 (x10_1 + 1)) + 1))) = some r := by rw [if_pos rfl] at H; exact H
              clear H
              have H := H1
              clear H1
              have H' := Aside0.mk H
              clear H
              go_wp2
              go_roundg kj8
              case measure => have := HK1.out; have := HJ8.out; omega
              case rel => exact ⟨(x8_1), (0), (wrap64 ((wrap64 (x10_1 + 1)) + 1)), (by first | rfl | (simp; done) | (simp [*]; done)), (by first | rfl | (simp; done) | (simp [*]; done)), H', ⟨by have := HK1.out; have := HJ8.out; omega⟩, ⟨by (with_reducible repeat (first | apply Kd.R_alloc | apply Kd.R_drewN | apply Kd.R_drew)); exact HO_5.out⟩, ⟨by (with_reducible repeat (first | apply Kd.R_alloc | apply Kd.R_drewN | apply Kd.R_drew)); exact HO_7.out⟩, ⟨by (with_reducible repeat (first | apply Kd.R_alloc | apply Kd.R_drewN | apply Kd.R_drew)); exact HO_8.out⟩, ⟨by repeat (first | (with_reducible first | exact HB.out | apply below_alloc | apply pw_below_drewN | apply below_drew1) | exact HB.out)⟩⟩
            · replace c16 := Bool.eq_false_iff.mpr c16
              subst c16
              have H1 : (if 0 ≤ x10_1 then (if x10_1 < (t294.length : Int) then (if x8_1.length < 35184372088832 then (if (wrap64 (x9_1 + 1)) > (wrap64 ((wrap64 (12 + (wrap64 (Int.tmod a1 60)))) - 1)) then (some false) else (redactorlaw17_ListFolds.l0 kj8 t291 (wrap64 (12 + (wrap64 (Int.tmod a1 60)))) t294 (x8_1 ++ [rd t294 x10_1]) (wrap64 (x9_1 + 1)) (wrap64 (x10_1 + 1)))) else (none)) else (none)) else (none)) = some r := by rw [if_neg (show ¬ (false = true) by decide)] at H; exact H
              clear H
              have H := H1
              clear H1
              by_cases c17 : 0 ≤ x10_1
              · rw [if_pos c17] at H
                have c17b0 : decide (0 ≤ x10_1) = true := decide_eq_true c17
                clear c17
                by_cases c18 : x10_1 < (t294.length : Int)
                · rw [if_pos c18] at H
                  have c18b0 : decide (x10_1 < (t294.length : Int)) = true := decide_eq_true c18
                  clear c18
                  by_cases c19 : x8_1.length < 35184372088832
                  · rw [if_pos c19] at H
                    have LMc19 := Aside0.mk c19
                    clear c19
                    obtain ⟨y305, hy305⟩ : ∃ y_ : List Int, y_ = (x8_1 ++ [rd t294 x10_1]) := ⟨_, rfl⟩
                    replace H : (if (wrap64 (x9_1 + 1)) > (wrap64 ((wrap64 (12 + (wrap64 (Int.tmod a1 60)))) - 1)) then (some false) else (redactorlaw17_ListFolds.l0 kj8 t291 (wrap64 (12 + (wrap64 (Int.tmod a1 60)))) t294 y305 (wrap64 (x9_1 + 1)) (wrap64 (x10_1 + 1)))) = some r := by first | (rw [hy305]; with_reducible exact H) | (have H2_ := (Option.bind_some _ _).symm.trans H; rw [hy305]; with_reducible exact H2_) | (have H2_ := (Option.bind_some _ _).symm.trans H; with_reducible exact H2_) | with_reducible exact H | (rw [hy305]; exact H) | exact H
                    have Ny305 := Aside0.mk hy305
                    clear hy305
                    by_cases c20 : (wrap64 (x9_1 + 1)) > (wrap64 ((wrap64 (12 + (wrap64 (Int.tmod a1 60)))) - 1))
                    · rw [if_pos c20] at H
                      have c20b0 : decide ((wrap64 ((wrap64 (12 + (wrap64 (Int.tmod a1 60)))) - 1)) < (wrap64 (x9_1 + 1))) = true := decide_eq_true c20
                      clear c20
                      obtain rfl := Option.some.inj H
                      have p304 : 0 ≤ (x10_1 : Int) := of_decide_eq_true (by first | (with_reducible assumption) | assumption)
                      have q304 : x10_1 < (t294.length : Int) := of_decide_eq_true (by first | (with_reducible assumption) | assumption)
                      obtain ⟨ad304, e304, hx304_0⟩ := Kd.at_int (Kd.R_reads' HO_7.out).2.2 x10_1 p304 q304
                      cases e304
                      replace p304 := eq_true p304
                      replace q304 := eq_true q304
                      go_wp2_with (first | ((with_reducible refine gate_builtin (b := .append) (xs := #[.tmp 48, .tmp 53]) rfl ?_); (try (refine gate_guard (by rfl) ?_; dsimp only)); at_builtin; refine Kd.R_append (Kd.int .i32) (w0 := w) w.heap.size rfl (.tmp 48) (.tmp 53) 23 24 (.int .i32 0) 4 rfl Tryd.underlying23 info24 rfl (by decide) (by omega) u8 x8_1 (rd t294 x10_1) [.int .i32 (rd t294 x10_1)] (fun k_ => some k_ ≠ (.slice Ao6 t291.length co6 : Value).ownBlock ∧ some k_ ≠ (.slice (some ad304) t294.length co10 : Value).ownBlock) (fun _ => False) rfl rfl ?aP (fun _ hk => hk.elim) ?aF ?aO ?aB ?aS ?aL ?_; (case aP => exact rfl); (case aB => exact (by repeat (first | (with_reducible first | exact HB.out | apply below_alloc | apply pw_below_drewN | apply below_drew1) | exact HB.out))); (case aF => exact (fun k_ hk => ⟨Kd.fresh' (Kd.R_lt (by (with_reducible repeat (first | apply Kd.R_alloc | apply Kd.R_drewN | apply Kd.R_drew)); exact HO_5.out)) k_ hk, Kd.fresh' (Kd.R_lt (by (with_reducible repeat (first | apply Kd.R_alloc | apply Kd.R_drewN | apply Kd.R_drew)); exact HO_7.out)) k_ hk⟩)); (case aO => exact (by (with_reducible repeat (first | apply Kd.R_alloc | apply Kd.R_drewN | apply Kd.R_drew)); exact HO_8.out)); (case aS => exact (below_size (by repeat (first | (with_reducible first | exact HB.out | apply below_alloc | apply pw_below_drewN | apply below_drew1) | exact HB.out)))); (case aL => have := LMc19.out; omega); intro v306 w21 ho hb hg hat; rw [← Ny305.out] at ho; have n0_ := Aside0.mk (Kd.R_after (ok := (fun k_ => some k_ ≠ (.slice (some ad304) t294.length co10 : Value).ownBlock)) (by (with_reducible repeat (first | apply Kd.R_alloc | apply Kd.R_drewN | apply Kd.R_drew)); exact HO_5.out) hg hat); have n1_ := Aside0.mk (Kd.R_after (ok := (fun k_ => some k_ ≠ (.slice Ao6 t291.length co6 : Value).ownBlock)) (by (with_reducible repeat (first | apply Kd.R_alloc | apply Kd.R_drewN | apply Kd.R_drew)); exact HO_7.out) hg hat); have n2_ := Aside0.mk (hb); have n3_ := Aside0.mk (ho); clear HO_5; clear HO_7; clear HB; clear HO_8; have HO_5 := n0_; have HO_7 := n1_; have HB := n2_; have HO307 := n3_; clear n0_ n1_ n2_ n3_; clear ho hb hg hat))
                      go_ret
                      exact ⟨by first | rfl | (simp [errW_none, errW_some] <;> rfl) | (simp [*, errW_none, errW_some] <;> rfl), by repeat (first | (with_reducible first | exact HB.out | apply below_alloc | apply pw_below_drewN | apply below_drew1) | exact HB.out)⟩
                    · rw [if_neg c20] at H
                      have c20b0 : decide ((wrap64 ((wrap64 (12 + (wrap64 (Int.tmod a1 60)))) - 1)) < (wrap64 (x9_1 + 1))) = false := decide_eq_false c20
                      clear c20
                      have H' := Aside0.mk H
                      clear H
                      have p304 : 0 ≤ (x10_1 : Int) := of_decide_eq_true (by first | (with_reducible assumption) | assumption)
                      have q304 : x10_1 < (t294.length : Int) := of_decide_eq_true (by first | (with_reducible assumption) | assumption)
                      obtain ⟨ad304, e304, hx304_0⟩ := Kd.at_int (Kd.R_reads' HO_7.out).2.2 x10_1 p304 q304
                      cases e304
                      replace p304 := eq_true p304
                      replace q304 := eq_true q304
                      go_wp2_with (first | ((with_reducible refine gate_builtin (b := .append) (xs := #[.tmp 48, .tmp 53]) rfl ?_); (try (refine gate_guard (by rfl) ?_; dsimp only)); at_builtin; refine Kd.R_append (Kd.int .i32) (w0 := w) w.heap.size rfl (.tmp 48) (.tmp 53) 23 24 (.int .i32 0) 4 rfl Tryd.underlying23 info24 rfl (by decide) (by omega) u8 x8_1 (rd t294 x10_1) [.int .i32 (rd t294 x10_1)] (fun k_ => some k_ ≠ (.slice Ao6 t291.length co6 : Value).ownBlock ∧ some k_ ≠ (.slice (some ad304) t294.length co10 : Value).ownBlock) (fun _ => False) rfl rfl ?aP (fun _ hk => hk.elim) ?aF ?aO ?aB ?aS ?aL ?_; (case aP => exact rfl); (case aB => exact (by repeat (first | (with_reducible first | exact HB.out | apply below_alloc | apply pw_below_drewN | apply below_drew1) | exact HB.out))); (case aF => exact (fun k_ hk => ⟨Kd.fresh' (Kd.R_lt (by (with_reducible repeat (first | apply Kd.R_alloc | apply Kd.R_drewN | apply Kd.R_drew)); exact HO_5.out)) k_ hk, Kd.fresh' (Kd.R_lt (by (with_reducible repeat (first | apply Kd.R_alloc | apply Kd.R_drewN | apply Kd.R_drew)); exact HO_7.out)) k_ hk⟩)); (case aO => exact (by (with_reducible repeat (first | apply Kd.R_alloc | apply Kd.R_drewN | apply Kd.R_drew)); exact HO_8.out)); (case aS => exact (below_size (by repeat (first | (with_reducible first | exact HB.out | apply below_alloc | apply pw_below_drewN | apply below_drew1) | exact HB.out)))); (case aL => have := LMc19.out; omega); intro v306 w22 ho hb hg hat; rw [← Ny305.out] at ho; have n0_ := Aside0.mk (Kd.R_after (ok := (fun k_ => some k_ ≠ (.slice (some ad304) t294.length co10 : Value).ownBlock)) (by (with_reducible repeat (first | apply Kd.R_alloc | apply Kd.R_drewN | apply Kd.R_drew)); exact HO_5.out) hg hat); have n1_ := Aside0.mk (Kd.R_after (ok := (fun k_ => some k_ ≠ (.slice Ao6 t291.length co6 : Value).ownBlock)) (by (with_reducible repeat (first | apply Kd.R_alloc | apply Kd.R_drewN | apply Kd.R_drew)); exact HO_7.out) hg hat); have n2_ := Aside0.mk (hb); have n3_ := Aside0.mk (ho); clear HO_5; clear HO_7; clear HB; clear HO_8; have HO_5 := n0_; have HO_7 := n1_; have HB := n2_; have HO307 := n3_; clear n0_ n1_ n2_ n3_; clear ho hb hg hat))
                      go_roundg kj8
                      case measure => have := HK1.out; have := HJ8.out; omega
                      case rel => exact ⟨(y305), (wrap64 (x9_1 + 1)), (wrap64 (x10_1 + 1)), (by first | rfl | (simp; done) | (simp [*]; done)), (by first | rfl | (simp; done) | (simp [*]; done)), H', ⟨by have := HK1.out; have := HJ8.out; omega⟩, ⟨by (with_reducible repeat (first | apply Kd.R_alloc | apply Kd.R_drewN | apply Kd.R_drew)); exact HO_5.out⟩, ⟨by (with_reducible repeat (first | apply Kd.R_alloc | apply Kd.R_drewN | apply Kd.R_drew)); exact HO_7.out⟩, ⟨by (with_reducible repeat (first | apply Kd.R_alloc | apply Kd.R_drewN | apply Kd.R_drew)); exact HO307.out⟩, ⟨by repeat (first | (with_reducible first | exact HB.out | apply below_alloc | apply pw_below_drewN | apply below_drew1) | exact HB.out)⟩⟩
                  · rw [if_neg c19] at H
                    exact absurd H (by simp)
                · rw [if_neg c18] at H
                  exact absurd H (by simp)
              · rw [if_neg c17] at H
                exact absurd H (by simp)
      · rw [if_neg c8] at H
        have c8b0 : decide (x10_1 < (t294.length : Int)) = false := decide_eq_false c8
        clear c8
        replace H := Option.bind_eq_some_iff.mp H
        obtain ⟨t297, A230, H⟩ := H
        replace H : (if t297 = true then ((list_Show.f k1 t291 0).bind fun t298 => ((redactorref01_Same.f k1 x8_1 t298).bind fun t301 => (some t301))) else (some false)) = some r := H
        have A23 := Aside0.mk A230
        clear A230
        by_cases c24 : t297 = true
        · subst c24
          have H1 : ((list_Show.f k1 t291 0).bind fun t298 => ((redactorref01_Same.f k1 x8_1 t298).bind fun t301 => (some t301))) = some r := by rw [if_pos rfl] at H; exact H
          clear H
          have H := H1
          clear H1
          replace H := Option.bind_eq_some_iff.mp H
          obtain ⟨t298, A250, H⟩ := H
          replace H : ((redactorref01_Same.f k1 x8_1 t298).bind fun t301 => (some t301)) = some r := H
          have A25 := Aside0.mk A250
          clear A250
          replace H := Option.bind_eq_some_iff.mp H
          obtain ⟨t301, A260, H⟩ := H
          replace H : (some t301) = some r := H
          have A26 := Aside0.mk A260
          clear A260
          obtain rfl := Option.some.inj H
          obtain ⟨Ao27, co27, eo27⟩ := Kd.R_slice HO_7.out
          subst eo27
          go_wp2_with (first | ((with_reducible refine gate_callee (f := 22) rfl ?_); refine goesL_ (some 61) rfl rfl Tryd.func22 (by kernel_rfl) rfl #[] rfl (by (try simp only [List.map_toArray, List.map_cons, List.map_nil]); first | done | rfl | (simp only [List.length_drop, List.length_take]; rfl)) ?_; (with_reducible refine (redactorlaw17_known.calls k1  true _ ?side1 A23.out).mono ?_); (case side1 => first | exact HT.out | exact Tabs2.below HT.out (by repeat (first | (with_reducible first | exact HB.out | apply below_alloc | apply pw_below_drewN | apply below_drew1) | exact HB.out))); rintro e w28 ⟨rfl, hb⟩; refine ⟨_, rfl, ?_⟩; have n0_ := Aside0.mk (Kd.R_below (by (with_reducible repeat (first | apply Kd.R_alloc | apply Kd.R_drewN | apply Kd.R_drew)); exact HO_5.out) hb); have n1_ := Aside0.mk (Kd.R_below (by (with_reducible repeat (first | apply Kd.R_alloc | apply Kd.R_drewN | apply Kd.R_drew)); exact HO_7.out) hb); have n2_ := Aside0.mk (Kd.R_below (by (with_reducible repeat (first | apply Kd.R_alloc | apply Kd.R_drewN | apply Kd.R_drew)); exact HO_8.out) hb); have n3_ := Aside0.mk (below_step (by repeat (first | (with_reducible first | exact HB.out | apply below_alloc | apply pw_below_drewN | apply below_drew1) | exact HB.out)) hb); clear HO_5; clear HO_7; clear HO_8; clear HB; have HO_5 := n0_; have HO_7 := n1_; have HO_8 := n2_; have HB := n3_; clear n0_ n1_ n2_ n3_; (try clear hb); (try clear hb2); (try clear hk); (try clear hi)) | (go_at_call 24; (with_reducible refine (list_Show.calls k1 _ _ t291 0 t298 _ ?side3 ?side1 ?side2 A25.out).mono ?_); (case side1 => repeat (first | exact (Kd.R_reads' HO_5.out).2.2 | (with_reducible refine Kd.C_alloc ?_ _) | (with_reducible refine Kd.C_drewN ?_ _) | (with_reducible refine Kd.C_drew ?_))); (case side2 => exact (Kd.R_reads' HO_5.out).2.1); (case side3 => first | exact HT.out | exact Tabs2.below HT.out (by repeat (first | (with_reducible first | exact HB.out | apply below_alloc | apply pw_below_drewN | apply below_drew1) | exact HB.out))); rintro e w29 ⟨v299, rfl, ho0, hb⟩; have n0_ := Aside0.mk (Kd.R_elder' (by (with_reducible repeat (first | apply Kd.R_alloc | apply Kd.R_drewN | apply Kd.R_drew)); exact HO_5.out) (Kd.R_base ho0) hb); have n1_ := Aside0.mk (Kd.R_elder' (by (with_reducible repeat (first | apply Kd.R_alloc | apply Kd.R_drewN | apply Kd.R_drew)); exact HO_7.out) (Kd.R_base ho0) hb); have n2_ := Aside0.mk (Kd.R_elder' (by (with_reducible repeat (first | apply Kd.R_alloc | apply Kd.R_drewN | apply Kd.R_drew)); exact HO_8.out) (Kd.R_base ho0) hb); have n3_ := Aside0.mk (Kd.R_lower (Kd.R_new' (Kd.R_new' (Kd.R_new' ho0 (Kd.R_lt (by (with_reducible repeat (first | apply Kd.R_alloc | apply Kd.R_drewN | apply Kd.R_drew)); exact HO_5.out))) (Kd.R_lt (by (with_reducible repeat (first | apply Kd.R_alloc | apply Kd.R_drewN | apply Kd.R_drew)); exact HO_7.out))) (Kd.R_lt (by (with_reducible repeat (first | apply Kd.R_alloc | apply Kd.R_drewN | apply Kd.R_drew)); exact HO_8.out))) (below_size (by repeat (first | (with_reducible first | exact HB.out | apply below_alloc | apply pw_below_drewN | apply below_drew1) | exact HB.out)))); have n4_ := Aside0.mk (below_step (by repeat (first | (with_reducible first | exact HB.out | apply below_alloc | apply pw_below_drewN | apply below_drew1) | exact HB.out)) hb); clear HO_5; clear HO_7; clear HO_8; clear HB; have HO_5 := n0_; have HO_7 := n1_; have HO_8 := n2_; have HO300 := n3_; have HB := n4_; clear n0_ n1_ n2_ n3_ n4_; (try clear hb); (try clear hb2); (try clear hk); (try clear hi); (try clear ho0); (try clear A25); obtain ⟨Ao30, co30, eo30⟩ := Kd.R_slice HO_8.out; subst eo30; obtain ⟨Ao31, co31, eo31⟩ := Kd.R_slice HO300.out; subst eo31) | (go_at_call 23; (with_reducible refine (redactorref01_Same.calls k1 _ _ x8_1 _ _ t298 t301 _ ?side1 ?side2 ?side3 ?side4 A26.out).mono ?_); (case side1 => repeat (first | exact (Kd.R_reads' HO_8.out).2.2 | (with_reducible refine Kd.C_alloc ?_ _) | (with_reducible refine Kd.C_drewN ?_ _) | (with_reducible refine Kd.C_drew ?_))); (case side2 => exact (Kd.R_reads' HO_8.out).2.1); (case side3 => repeat (first | exact (Kd.R_reads' HO300.out).2.2 | (with_reducible refine Kd.C_alloc ?_ _) | (with_reducible refine Kd.C_drewN ?_ _) | (with_reducible refine Kd.C_drew ?_))); (case side4 => exact (Kd.R_reads' HO300.out).2.1); rintro e w' ⟨rfl, ⟨nd, rfl⟩⟩; (try clear A26)))
          go_ret
          exact ⟨by first | rfl | (simp [errW_none, errW_some] <;> rfl) | (simp [*, errW_none, errW_some] <;> rfl), by repeat (first | (with_reducible first | exact HB.out | apply below_alloc | apply pw_below_drewN | apply below_drew1) | exact HB.out)⟩
        · replace c24 := Bool.eq_false_iff.mpr c24
          subst c24
          have H1 : (some false) = some r := by rw [if_neg (show ¬ (false = true) by decide)] at H; exact H
          clear H
          have H := H1
          clear H1
          obtain rfl := Option.some.inj H
          obtain ⟨Ao32, co32, eo32⟩ := Kd.R_slice HO_7.out
          subst eo32
          go_wp2_with (first | ((with_reducible refine gate_callee (f := 22) rfl ?_); refine goesL_ (some 61) rfl rfl Tryd.func22 (by kernel_rfl) rfl #[] rfl (by (try simp only [List.map_toArray, List.map_cons, List.map_nil]); first | done | rfl | (simp only [List.length_drop, List.length_take]; rfl)) ?_; (with_reducible refine (redactorlaw17_known.calls k1  false _ ?side1 A23.out).mono ?_); (case side1 => first | exact HT.out | exact Tabs2.below HT.out (by repeat (first | (with_reducible first | exact HB.out | apply below_alloc | apply pw_below_drewN | apply below_drew1) | exact HB.out))); rintro e w33 ⟨rfl, hb⟩; refine ⟨_, rfl, ?_⟩; have n0_ := Aside0.mk (Kd.R_below (by (with_reducible repeat (first | apply Kd.R_alloc | apply Kd.R_drewN | apply Kd.R_drew)); exact HO_5.out) hb); have n1_ := Aside0.mk (Kd.R_below (by (with_reducible repeat (first | apply Kd.R_alloc | apply Kd.R_drewN | apply Kd.R_drew)); exact HO_7.out) hb); have n2_ := Aside0.mk (Kd.R_below (by (with_reducible repeat (first | apply Kd.R_alloc | apply Kd.R_drewN | apply Kd.R_drew)); exact HO_8.out) hb); have n3_ := Aside0.mk (below_step (by repeat (first | (with_reducible first | exact HB.out | apply below_alloc | apply pw_below_drewN | apply below_drew1) | exact HB.out)) hb); clear HO_5; clear HO_7; clear HO_8; clear HB; have HO_5 := n0_; have HO_7 := n1_; have HO_8 := n2_; have HB := n3_; clear n0_ n1_ n2_ n3_; (try clear hb); (try clear hb2); (try clear hk); (try clear hi)))
          go_ret
          exact ⟨by first | rfl | (simp [errW_none, errW_some] <;> rfl) | (simp [*, errW_none, errW_some] <;> rfl), by repeat (first | (with_reducible first | exact HB.out | apply below_alloc | apply pw_below_drewN | apply below_drew1) | exact HB.out)⟩

/-- THE ONE PURE STATEMENT of redactorlaw17_ListFolds: yours. -/
def redactorlaw17_ListFolds.Pure : Prop := ∀ (l0 : List Int) (a1 : Int), l0.length ≤ maxLen → l0.length * 1 ≤ 140737488351232 → (∀ x ∈ l0, (Lit.int .u8 x).wf = true) → (Lit.int .u8 a1).wf = true → ∃ k, redactorlaw17_ListFolds.f k l0 a1 = some true
theorem redactorlaw17_ListFolds.walk (P : redactorlaw17_ListFolds.Pure) (a0 : Option Addr) (len0 cap0 : Nat) (z0 : List Int) (a1 : Int) (w : World) (w0 : (a0 = none ∧ len0 = 0 ∧ cap0 = 0 ∧ z0 = []) ∨ ∃ x, a0 = some x ∧ len0 ≤ cap0 ∧ cap0 ≤ maxLen ∧ z0.length = cap0 ∧ (∀ i, i < z0.length → w.cell? (x.add i) = some (.int .u8 (z0.getD i 0))) ∧ ∀ n ∈ z0, (Lit.int .u8 n).wf = true) (y0 : len0 * 1 ≤ 140737488351232) (w1 : (Lit.int .u8 a1).wf = true) (ht : Tabs2 w) :
    Calls Tryd.prog 5 #[.slice a0 len0 cap0, .int .u8 a1] w fun e w' => e = .returned (.bool true) ∧ Below w.heap.size w w' := by
  obtain ⟨l0, rfl, hr0, hm0, hw0, hc0⟩ := ReadsInt.ofRowC w0
  obtain ⟨k, h⟩ := P l0 a1 hm0 y0 hw0 w1
  refine (redactorlaw17_ListFolds.calls k _ _ l0 a1 true w ht (Kd.C_of_reads (d := (0 : Int)) (h1 := fun _ => rfl) hr0) hc0 h).mono ?_
  rintro e w' ⟨rfl, hd⟩
  exact ⟨rfl, hd⟩

end Go.Proofs.YtcppmghhijffpaaDoor.X
