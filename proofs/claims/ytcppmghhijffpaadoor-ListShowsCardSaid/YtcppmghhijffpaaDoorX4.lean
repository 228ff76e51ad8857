-- Written by xprint.py (a program of this claim's author) out of the translation. Not trusted: Lean checks it.
import Derived.Test.YtcppmghhijffpaaDoorX0
import Derived.Test.YtcppmghhijffpaaDoorX3
namespace Go.Proofs.YtcppmghhijffpaaDoor.X
open Go.RowKit Go.Proofs.YtcppmghhijffpaaDoorW.PrintWords Go.Proofs.YtcppmghhijffpaaDoorW.PrintLast Go.Proofs.YtcppmghhijffpaaDoorW.PrintMore
attribute [local go_sem] max2_int min2_int max_two min_two max_three min_three max_four min_four   -- for this text's walks alone
set_option linter.unusedVariables false
set_option linter.unusedSimpArgs false

/-! ### list_sign: function 83 -/
mutual
def list_sign.j0 : Nat → Int → Bool → Option (List Int)
  | 0, _, _ => none
  | k + 1, x0, x28 => if x28 = true then (if 0 ≤ (wrap32 (x0 - 7)) then (if (wrap32 (x0 - 7)) ≤ (wrap32 ((wrap32 (x0 - 7)) + 1)) then (if (wrap32 ((wrap32 (x0 - 7)) + 1)) ≤ 7 then (if 1 + ((⟨#[97, 98, 116, 110, 118, 102, 114]⟩ : ByteArray).extract ((wrap32 (x0 - 7)) : Int).toNat ((wrap32 ((wrap32 (x0 - 7)) + 1)) : Int).toNat).size ≤ 9223372036854775807 then ((cell_Of.f ((⟨#[92]⟩ : ByteArray) ++ ((⟨#[97, 98, 116, 110, 118, 102, 114]⟩ : ByteArray).extract ((wrap32 (x0 - 7)) : Int).toNat ((wrap32 ((wrap32 (x0 - 7)) + 1)) : Int).toNat))).bind fun t116 => (some t116)) else (none)) else (none)) else (none)) else (none)) else (if x0 < 32 then (list_sign.j1 k x0 true) else (if x0 > 126 then (list_sign.j1 k x0 (decide (x0 < 160))) else (list_sign.j1 k x0 false)))
def list_sign.j1 : Nat → Int → Bool → Option (List Int)
  | 0, _, _ => none
  | k + 1, x0, x43 => if x43 = true then ((strconv_FormatInt_61.f (Go.bits .or .i64 (wrap64 (x0)) 512) 8).bind fun t119 => (if 1 ≤ (t119.size : Int) then (if 1 + (t119.extract 1 t119.size).size ≤ 9223372036854775807 then ((cell_Of.f ((⟨#[92]⟩ : ByteArray) ++ (t119.extract 1 t119.size))).bind fun t120 => (some t120)) else (none)) else (none))) else (some (([x0] : List Int)))
end
def list_sign.f (k : Nat) (a0 : Int) : Option (List Int) := (cell_Byte.f a0).bind fun bt106 => (if bt106.2 = true then ((strconv_FormatInt_61.f (Go.bits .or .i64 (wrap64 (bt106.1)) 256) 16).bind fun t108 => (if 1 ≤ (t108.size : Int) then (if 2 + (t108.extract 1 t108.size).size ≤ 9223372036854775807 then ((cell_Of.f ((⟨#[92, 120]⟩ : ByteArray) ++ (t108.extract 1 t108.size))).bind fun t109 => (some t109)) else (none)) else (none))) else ((cell_Right.f a0).bind fun t112 => (if t112 = true then (if a0 = 92 then ((cell_Of.f (⟨#[92, 92]⟩ : ByteArray)).bind fun t113 => (some t113)) else (if a0 ≥ 7 then (list_sign.j0 k a0 (decide ((wrap64 (a0)) ≤ 13))) else (list_sign.j0 k a0 false))) else ((cell_Of.f (⟨#[92, 63]⟩ : ByteArray)).bind fun t126 => (some t126)))))
theorem list_sign.mono_l : ∀ k, (∀ y0 y1, LeO (list_sign.j0 k y0 y1) (list_sign.j0 (k + 1) y0 y1)) ∧ (∀ y0 y1, LeO (list_sign.j1 k y0 y1) (list_sign.j1 (k + 1) y0 y1))
  | 0 => ⟨fun _ _ r h => by simp [list_sign.j0] at h, fun _ _ r h => by simp [list_sign.j1] at h⟩
  | k + 1 => by
    obtain ⟨ih0, ih1⟩ := list_sign.mono_l k
    refine ⟨?_, ?_⟩
    · intro y0 y1
      unfold list_sign.j0
      repeat' first
      | (with_reducible exact ih0 _ _)
      | (with_reducible exact ih1 _ _)
      | (with_reducible exact LeO.refl _)
      | (with_reducible exact LeO.none _)
      | (with_reducible refine LeO.ite ?_ ?_)
      | (with_reducible refine LeO.bind ?_ (fun _ => ?_))
      | exact ih0 _ _
      | exact ih1 _ _
      | exact LeO.none _
      | refine LeO.ite ?_ ?_
      | refine LeO.bind ?_ (fun _ => ?_)
    · intro y0 y1
      unfold list_sign.j1
      repeat' first
      | (with_reducible exact ih0 _ _)
      | (with_reducible exact ih1 _ _)
      | (with_reducible exact LeO.refl _)
      | (with_reducible exact LeO.none _)
      | (with_reducible refine LeO.ite ?_ ?_)
      | (with_reducible refine LeO.bind ?_ (fun _ => ?_))
      | exact ih0 _ _
      | exact ih1 _ _
      | exact LeO.none _
      | refine LeO.ite ?_ ?_
      | refine LeO.bind ?_ (fun _ => ?_)
theorem list_sign.mono : ∀ a0 k, LeO (list_sign.f k a0) (list_sign.f (k + 1) a0) := by
  intro a0 k
  obtain ⟨ih0, ih1⟩ := list_sign.mono_l k
  unfold list_sign.f
  repeat' first
      | (with_reducible exact ih0 _ _)
      | (with_reducible exact ih1 _ _)
      | (with_reducible exact LeO.refl _)
      | (with_reducible exact LeO.none _)
      | (with_reducible refine LeO.ite ?_ ?_)
      | (with_reducible refine LeO.bind ?_ (fun _ => ?_))
      | exact ih0 _ _
      | exact ih1 _ _
      | exact LeO.none _
      | refine LeO.ite ?_ ?_
      | refine LeO.bind ?_ (fun _ => ?_)
set_option maxHeartbeats 8000000 in
set_option maxRecDepth 100000 in
theorem list_sign.calls (k : Nat) (a0 : Int) (r : List Int) (w : World) (ht : Tabs2 w) (h : list_sign.f k a0 = some r) :
    Calls Tryd.prog 83 #[.int .i32 a0] w fun e w' => ∃ v0_ : Value, e = .returned (v0_) ∧ Kd.R (Kd.int .i32) 24 w' w.heap.size (fun _ => True) v0_ r ∧ Below w.heap.size w w' := by
  have HB := Aside0.mk (Below.refl w.heap.size w)
  have HT := Aside0.mk ht
  clear ht
  have H : ((cell_Byte.f a0).bind fun bt106 => (if bt106.2 = true then ((strconv_FormatInt_61.f (Go.bits .or .i64 (wrap64 (bt106.1)) 256) 16).bind fun t108 => (if 1 ≤ (t108.size : Int) then (if 2 + (t108.extract 1 t108.size).size ≤ 9223372036854775807 then ((cell_Of.f ((⟨#[92, 120]⟩ : ByteArray) ++ (t108.extract 1 t108.size))).bind fun t109 => (some t109)) else (none)) else (none))) else ((cell_Right.f a0).bind fun t112 => (if t112 = true then (if a0 = 92 then ((cell_Of.f (⟨#[92, 92]⟩ : ByteArray)).bind fun t113 => (some t113)) else (if a0 ≥ 7 then (list_sign.j0 k a0 (decide ((wrap64 (a0)) ≤ 13))) else (list_sign.j0 k a0 false))) else ((cell_Of.f (⟨#[92, 63]⟩ : ByteArray)).bind fun t126 => (some t126)))))) = some r := h
  clear h
  replace H := Option.bind_eq_some_iff.mp H
  obtain ⟨⟨t106, t107⟩, A20, H⟩ := H
  replace H : (if t107 = true then ((strconv_FormatInt_61.f (Go.bits .or .i64 (wrap64 (t106)) 256) 16).bind fun t108 => (if 1 ≤ (t108.size : Int) then (if 2 + (t108.extract 1 t108.size).size ≤ 9223372036854775807 then ((cell_Of.f ((⟨#[92, 120]⟩ : ByteArray) ++ (t108.extract 1 t108.size))).bind fun t109 => (some t109)) else (none)) else (none))) else ((cell_Right.f a0).bind fun t112 => (if t112 = true then (if a0 = 92 then ((cell_Of.f (⟨#[92, 92]⟩ : ByteArray)).bind fun t113 => (some t113)) else (if a0 ≥ 7 then (list_sign.j0 k a0 (decide ((wrap64 (a0)) ≤ 13))) else (list_sign.j0 k a0 false))) else ((cell_Of.f (⟨#[92, 63]⟩ : ByteArray)).bind fun t126 => (some t126))))) = some r := H
  have A2 := Aside0.mk A20
  clear A20
  by_cases c3 : t107 = true
  · subst c3
    have H1 : ((strconv_FormatInt_61.f (Go.bits .or .i64 (wrap64 (t106)) 256) 16).bind fun t108 => (if 1 ≤ (t108.size : Int) then (if 2 + (t108.extract 1 t108.size).size ≤ 9223372036854775807 then ((cell_Of.f ((⟨#[92, 120]⟩ : ByteArray) ++ (t108.extract 1 t108.size))).bind fun t109 => (some t109)) else (none)) else (none))) = some r := by rw [if_pos rfl] at H; exact H
    clear H
    have H := H1
    clear H1
    replace H := Option.bind_eq_some_iff.mp H
    obtain ⟨t108, A40, H⟩ := H
    replace H : (if 1 ≤ (t108.size : Int) then (if 2 + (t108.extract 1 t108.size).size ≤ 9223372036854775807 then ((cell_Of.f ((⟨#[92, 120]⟩ : ByteArray) ++ (t108.extract 1 t108.size))).bind fun t109 => (some t109)) else (none)) else (none)) = some r := H
    have A4 := Aside0.mk A40
    clear A40
    by_cases c5 : 1 ≤ (t108.size : Int)
    · rw [if_pos c5] at H
      have c5b0 := eq_true c5
      have c5b1 : decide (1 ≤ (t108.size : Int)) = true := decide_eq_true c5
      clear c5
      by_cases c6 : 2 + (t108.extract 1 t108.size).size ≤ 9223372036854775807
      · rw [if_pos c6] at H
        have c6b0 := eq_true c6
        have c6b1 : decide (2 + (t108.extract 1 t108.size).size ≤ 9223372036854775807) = true := decide_eq_true c6
        try have c6b2 : (9223372036854775807 < 2 + (t108.extract 1 t108.size).size) = False := eq_false (Nat.not_lt.2 c6)
        try have c6b3 : (9223372036854775807 < 2 + (t108.size - 1)) = False := eq_false (by have hc_ := c6; rw [ByteArray.size_extract] at hc_; omega)
        replace H := Option.bind_eq_some_iff.mp H
        obtain ⟨t109, A70, H⟩ := H
        replace H : (some t109) = some r := H
        have A7 := Aside0.mk A70
        clear A70
        obtain rfl := Option.some.inj H
        go_enter Tryd.func83, Tryd.ntmps83
        go_wp2_with (first | ((with_reducible refine gate_callee (f := 32) rfl ?_); refine goesL_ (some 8) rfl rfl Tryd.func32 (by kernel_rfl) rfl #[.int .i32 a0] rfl (by (try simp only [List.map_toArray, List.map_cons, List.map_nil]); first | done | rfl | (simp only [List.length_drop, List.length_take]; rfl)) ?_; (with_reducible refine (cell_Byte.calls a0 t106 true _ A2.out).mono ?_); rintro e w' ⟨rfl, ⟨nd, rfl⟩⟩; refine ⟨_, rfl, ?_⟩) | ((with_reducible refine gate_callee (f := 61) rfl ?_); refine goesL_ (some 18) rfl rfl Tryd.func61 (by kernel_rfl) rfl #[.int .i64 (Go.bits .or .i64 (wrap64 (t106)) 256), .int .i64 16] rfl (by (try simp only [List.map_toArray, List.map_cons, List.map_nil]); first | done | rfl | (simp only [List.length_drop, List.length_take]; rfl)) ?_; (with_reducible refine (strconv_FormatInt_61.calls (Go.bits .or .i64 (wrap64 (t106)) 256) 16 t108 _ ?side1 A4.out).mono ?_); (case side1 => first | exact (Tabs2.to1 HT.out) | exact Tabs1.below (Tabs2.to1 HT.out) (by repeat (first | (with_reducible first | exact HB.out | apply below_alloc | apply pw_below_drewN | apply below_drew1) | exact HB.out))); rintro e w8 ⟨rfl, hb⟩; refine ⟨_, rfl, ?_⟩; have n0_ := Aside0.mk (below_step (by repeat (first | (with_reducible first | exact HB.out | apply below_alloc | apply pw_below_drewN | apply below_drew1) | exact HB.out)) hb); clear HB; have HB := n0_; clear n0_; (try clear hb); (try clear hb2); (try clear hk); (try clear hi)) | ((with_reducible refine gate_callee (f := 31) rfl ?_); refine goesL_ (some 61) rfl rfl Tryd.func31 (by kernel_rfl) rfl #[.string ((⟨#[92, 120]⟩ : ByteArray) ++ (t108.extract 1 t108.size))] rfl (by (try simp only [List.map_toArray, List.map_cons, List.map_nil]); first | done | rfl | (simp only [List.length_drop, List.length_take]; rfl)) ?_; (with_reducible refine (cell_Of.calls ((⟨#[92, 120]⟩ : ByteArray) ++ (t108.extract 1 t108.size)) t109 _ ?side1 A7.out).mono ?_); (case side1 => first | exact HT.out | exact Tabs2.below HT.out (by repeat (first | (with_reducible first | exact HB.out | apply below_alloc | apply pw_below_drewN | apply below_drew1) | exact HB.out))); rintro e w9 ⟨v110, rfl, ho0, hb⟩; refine ⟨_, rfl, ?_⟩; have n0_ := Aside0.mk (Kd.R_lower ho0 (below_size (by repeat (first | (with_reducible first | exact HB.out | apply below_alloc | apply pw_below_drewN | apply below_drew1) | exact HB.out)))); have n1_ := Aside0.mk (below_step (by repeat (first | (with_reducible first | exact HB.out | apply below_alloc | apply pw_below_drewN | apply below_drew1) | exact HB.out)) hb); clear HB; have HO111 := n0_; have HB := n1_; clear n0_ n1_; (try clear hb); (try clear hb2); (try clear hk); (try clear hi); (try clear ho0)))
        go_ret
        exact ⟨_, by first | rfl | (simp [errW_none, errW_some] <;> rfl) | (simp [*, errW_none, errW_some] <;> rfl), by (with_reducible repeat (first | apply Kd.R_alloc | apply Kd.R_drewN | apply Kd.R_drew)); exact HO111.out, by repeat (first | (with_reducible first | exact HB.out | apply below_alloc | apply pw_below_drewN | apply below_drew1) | exact HB.out)⟩
      · rw [if_neg c6] at H
        exact absurd H (by simp)
    · rw [if_neg c5] at H
      exact absurd H (by simp)
  · replace c3 := Bool.eq_false_iff.mpr c3
    subst c3
    have H1 : ((cell_Right.f a0).bind fun t112 => (if t112 = true then (if a0 = 92 then ((cell_Of.f (⟨#[92, 92]⟩ : ByteArray)).bind fun t113 => (some t113)) else (if a0 ≥ 7 then (list_sign.j0 k a0 (decide ((wrap64 (a0)) ≤ 13))) else (list_sign.j0 k a0 false))) else ((cell_Of.f (⟨#[92, 63]⟩ : ByteArray)).bind fun t126 => (some t126)))) = some r := by rw [if_neg (show ¬ (false = true) by decide)] at H; exact H
    clear H
    have H := H1
    clear H1
    replace H := Option.bind_eq_some_iff.mp H
    obtain ⟨t112, A100, H⟩ := H
    replace H : (if t112 = true then (if a0 = 92 then ((cell_Of.f (⟨#[92, 92]⟩ : ByteArray)).bind fun t113 => (some t113)) else (if a0 ≥ 7 then (list_sign.j0 k a0 (decide ((wrap64 (a0)) ≤ 13))) else (list_sign.j0 k a0 false))) else ((cell_Of.f (⟨#[92, 63]⟩ : ByteArray)).bind fun t126 => (some t126))) = some r := H
    have A10 := Aside0.mk A100
    clear A100
    by_cases c11 : t112 = true
    · subst c11
      have H1 : (if a0 = 92 then ((cell_Of.f (⟨#[92, 92]⟩ : ByteArray)).bind fun t113 => (some t113)) else (if a0 ≥ 7 then (list_sign.j0 k a0 (decide ((wrap64 (a0)) ≤ 13))) else (list_sign.j0 k a0 false))) = some r := by rw [if_pos rfl] at H; exact H
      clear H
      have H := H1
      clear H1
      by_cases c12 : a0 = 92
      · rw [if_pos c12] at H
        have c12b0 : (a0 == 92) = true := beq_iff_eq.mpr c12
        have c12b1 : (a0 != 92) = false := bne_eq_false_iff_eq.mpr c12
        clear c12
        replace H := Option.bind_eq_some_iff.mp H
        obtain ⟨t113, A130, H⟩ := H
        replace H : (some t113) = some r := H
        have A13 := Aside0.mk A130
        clear A130
        obtain rfl := Option.some.inj H
        go_enter Tryd.func83, Tryd.ntmps83
        go_wp2_with (first | ((with_reducible refine gate_callee (f := 32) rfl ?_); refine goesL_ (some 8) rfl rfl Tryd.func32 (by kernel_rfl) rfl #[.int .i32 a0] rfl (by (try simp only [List.map_toArray, List.map_cons, List.map_nil]); first | done | rfl | (simp only [List.length_drop, List.length_take]; rfl)) ?_; (with_reducible refine (cell_Byte.calls a0 t106 false _ A2.out).mono ?_); rintro e w' ⟨rfl, ⟨nd, rfl⟩⟩; refine ⟨_, rfl, ?_⟩) | ((with_reducible refine gate_callee (f := 35) rfl ?_); refine goesL_ (some 23) rfl rfl Tryd.func35 (by kernel_rfl) rfl #[.int .i32 a0] rfl (by (try simp only [List.map_toArray, List.map_cons, List.map_nil]); first | done | rfl | (simp only [List.length_drop, List.length_take]; rfl)) ?_; (with_reducible refine (cell_Right.calls a0 true _ A10.out).mono ?_); rintro e w' ⟨rfl, ⟨nd, rfl⟩⟩; refine ⟨_, rfl, ?_⟩) | ((with_reducible refine gate_callee (f := 31) rfl ?_); refine goesL_ (some 61) rfl rfl Tryd.func31 (by kernel_rfl) rfl #[.string (⟨#[92, 92]⟩ : ByteArray)] rfl (by (try simp only [List.map_toArray, List.map_cons, List.map_nil]); first | done | rfl | (simp only [List.length_drop, List.length_take]; rfl)) ?_; (with_reducible refine (cell_Of.calls (⟨#[92, 92]⟩ : ByteArray) t113 _ ?side1 A13.out).mono ?_); (case side1 => first | exact HT.out | exact Tabs2.below HT.out (by repeat (first | (with_reducible first | exact HB.out | apply below_alloc | apply pw_below_drewN | apply below_drew1) | exact HB.out))); rintro e w14 ⟨v114, rfl, ho0, hb⟩; refine ⟨_, rfl, ?_⟩; have n0_ := Aside0.mk (Kd.R_lower ho0 (below_size (by repeat (first | (with_reducible first | exact HB.out | apply below_alloc | apply pw_below_drewN | apply below_drew1) | exact HB.out)))); have n1_ := Aside0.mk (below_step (by repeat (first | (with_reducible first | exact HB.out | apply below_alloc | apply pw_below_drewN | apply below_drew1) | exact HB.out)) hb); clear HB; have HO115 := n0_; have HB := n1_; clear n0_ n1_; (try clear hb); (try clear hb2); (try clear hk); (try clear hi); (try clear ho0)))
        go_ret
        exact ⟨_, by first | rfl | (simp [errW_none, errW_some] <;> rfl) | (simp [*, errW_none, errW_some] <;> rfl), by (with_reducible repeat (first | apply Kd.R_alloc | apply Kd.R_drewN | apply Kd.R_drew)); exact HO115.out, by repeat (first | (with_reducible first | exact HB.out | apply below_alloc | apply pw_below_drewN | apply below_drew1) | exact HB.out)⟩
      · rw [if_neg c12] at H
        have c12b0 : (a0 == 92) = false := beq_eq_false_iff_ne.mpr c12
        have c12b1 : (a0 != 92) = true := bne_iff_ne.mpr c12
        have HC15 := Aside0.mk H
        clear H
        go_enter Tryd.func83, Tryd.ntmps83
        go_upto_region 10 with (first | ((with_reducible refine gate_callee (f := 32) rfl ?_); refine goesL_ (some 8) rfl rfl Tryd.func32 (by kernel_rfl) rfl #[.int .i32 a0] rfl (by (try simp only [List.map_toArray, List.map_cons, List.map_nil]); first | done | rfl | (simp only [List.length_drop, List.length_take]; rfl)) ?_; (with_reducible refine (cell_Byte.calls a0 t106 false _ A2.out).mono ?_); rintro e w' ⟨rfl, ⟨nd, rfl⟩⟩; refine ⟨_, rfl, ?_⟩) | ((with_reducible refine gate_callee (f := 35) rfl ?_); refine goesL_ (some 23) rfl rfl Tryd.func35 (by kernel_rfl) rfl #[.int .i32 a0] rfl (by (try simp only [List.map_toArray, List.map_cons, List.map_nil]); first | done | rfl | (simp only [List.length_drop, List.length_take]; rfl)) ?_; (with_reducible refine (cell_Right.calls a0 true _ A10.out).mono ?_); rintro e w' ⟨rfl, ⟨nd, rfl⟩⟩; refine ⟨_, rfl, ?_⟩))
        (try simp only [Act.put, List.setIfInBounds_toArray, List.set_cons_zero, List.set_cons_succ])
        go_cut [28] (fun v28 wc => ∃ (kq : Nat) (x28_14 : Bool), v28 = .bool x28_14 ∧ Aside0 (list_sign.j0 kq a0 x28_14 = some r) ∧ Aside0 (kq ≤ k) ∧ Aside0 (Below w.heap.size w wc))
        case first =>
          have H := HC15.out
          clear HC15
          by_cases c16 : a0 ≥ 7
          · rw [if_pos c16] at H
            have c16b0 : decide (7 ≤ a0) = true := decide_eq_true c16
            clear c16
            (first | rw [c16b0] | (simp only [i64_w, i32_w]; rw [c16b0]) | skip)
            have H' := Aside0.mk H
            clear H
            go_wp2
            go_meet
            case rel => exact ⟨_, (decide ((wrap64 (a0)) ≤ 13)), (by first | rfl | (simp; done) | (simp [*]; done)), H', ⟨by first | omega | exact Nat.le_refl _⟩, ⟨by repeat (first | (with_reducible first | exact HB.out | apply below_alloc | apply pw_below_drewN | apply below_drew1) | exact HB.out)⟩⟩
          · rw [if_neg c16] at H
            have c16b0 : decide (7 ≤ a0) = false := decide_eq_false c16
            clear c16
            (first | rw [c16b0] | (simp only [i64_w, i32_w]; rw [c16b0]) | skip)
            have H' := Aside0.mk H
            clear H
            go_wp2
            go_meet
            case rel => exact ⟨_, (false), (by first | rfl | (simp; done) | (simp [*]; done)), H', ⟨by first | omega | exact Nat.le_refl _⟩, ⟨by repeat (first | (with_reducible first | exact HB.out | apply below_alloc | apply pw_below_drewN | apply below_drew1) | exact HB.out)⟩⟩
        case rest =>
          clear HC15
          try clear c1
          try clear p2
          try clear c3
          try clear c5
          try clear c5b0
          try clear c5b1
          try clear c6
          try clear c6b0
          try clear c6b1
          try clear c6b2
          try clear p6
          try clear c8
          try clear c11
          try clear c12
          try clear c12b0
          try clear c12b1
          try clear c16
          try clear c16b0
          obtain ⟨kq, x28_14, rfl, HA, HJ14, HB⟩ := hcut
          cases kq with
          | zero => exact absurd HA.out (by simp [list_sign.j0])
          | succ kj14 =>
            have H := HA.out
            clear HA
            simp only [list_sign.j0] at H
            by_cases c17 : x28_14 = true
            · subst c17
              have H1 : (if 0 ≤ (wrap32 (a0 - 7)) then (if (wrap32 (a0 - 7)) ≤ (wrap32 ((wrap32 (a0 - 7)) + 1)) then (if (wrap32 ((wrap32 (a0 - 7)) + 1)) ≤ 7 then (if 1 + ((⟨#[97, 98, 116, 110, 118, 102, 114]⟩ : ByteArray).extract ((wrap32 (a0 - 7)) : Int).toNat ((wrap32 ((wrap32 (a0 - 7)) + 1)) : Int).toNat).size ≤ 9223372036854775807 then ((cell_Of.f ((⟨#[92]⟩ : ByteArray) ++ ((⟨#[97, 98, 116, 110, 118, 102, 114]⟩ : ByteArray).extract ((wrap32 (a0 - 7)) : Int).toNat ((wrap32 ((wrap32 (a0 - 7)) + 1)) : Int).toNat))).bind fun t116 => (some t116)) else (none)) else (none)) else (none)) else (none)) = some r := by rw [if_pos rfl] at H; exact H
              clear H
              have H := H1
              clear H1
              obtain ⟨ji18, hji18⟩ : ∃ j_ : Int, (wrap32 (a0 - 7)) = j_ := ⟨_, rfl⟩
              replace H : (if 0 ≤ (ji18) then (if (ji18) ≤ (wrap32 ((ji18) + 1)) then (if (wrap32 ((ji18) + 1)) ≤ 7 then (if 1 + ((⟨#[97, 98, 116, 110, 118, 102, 114]⟩ : ByteArray).extract ((ji18) : Int).toNat ((wrap32 ((ji18) + 1)) : Int).toNat).size ≤ 9223372036854775807 then ((cell_Of.f ((⟨#[92]⟩ : ByteArray) ++ ((⟨#[97, 98, 116, 110, 118, 102, 114]⟩ : ByteArray).extract ((ji18) : Int).toNat ((wrap32 ((ji18) + 1)) : Int).toNat))).bind fun t116 => (some t116)) else (none)) else (none)) else (none)) else (none)) = some r := by first | (rw [hji18] at H; exact H) | (simp only [hji18] at H ⊢; exact H)
              have hji18w : (IntKind.i32.wrap (a0 - 7)) = ji18 := (i32_w _).trans hji18
              by_cases c19 : 0 ≤ (ji18)
              · rw [if_pos c19] at H
                have c19b0 := eq_true c19
                have c19b1 : decide (0 ≤ (ji18)) = true := decide_eq_true c19
                clear c19
                by_cases c20 : (ji18) ≤ (wrap32 ((ji18) + 1))
                · rw [if_pos c20] at H
                  have c20b0 := eq_true c20
                  have c20b1 : decide ((ji18) ≤ (wrap32 ((ji18) + 1))) = true := decide_eq_true c20
                  by_cases c21 : (wrap32 ((ji18) + 1)) ≤ 7
                  · rw [if_pos c21] at H
                    have c21b0 := eq_true c21
                    have c21b1 : decide ((wrap32 ((ji18) + 1)) ≤ 7) = true := decide_eq_true c21
                    by_cases c22 : 1 + ((⟨#[97, 98, 116, 110, 118, 102, 114]⟩ : ByteArray).extract ((ji18) : Int).toNat ((wrap32 ((ji18) + 1)) : Int).toNat).size ≤ 9223372036854775807
                    · rw [if_pos c22] at H
                      have c22b0 := eq_true c22
                      have c22b1 : decide (1 + ((⟨#[97, 98, 116, 110, 118, 102, 114]⟩ : ByteArray).extract ((ji18) : Int).toNat ((wrap32 ((ji18) + 1)) : Int).toNat).size ≤ 9223372036854775807) = true := decide_eq_true c22
                      try have c22b2 : (9223372036854775807 < 1 + ((⟨#[97, 98, 116, 110, 118, 102, 114]⟩ : ByteArray).extract ((ji18) : Int).toNat ((wrap32 ((ji18) + 1)) : Int).toNat).size) = False := eq_false (Nat.not_lt.2 c22)
                      replace H := Option.bind_eq_some_iff.mp H
                      obtain ⟨t116, A230, H⟩ := H
                      replace H : (some t116) = some r := H
                      have A23 := Aside0.mk A230
                      clear A230
                      obtain rfl := Option.some.inj H
                      go_wp2_with (first | ((with_reducible refine gate_callee (f := 31) rfl ?_); refine goesL_ (some 61) rfl rfl Tryd.func31 (by kernel_rfl) rfl #[.string ((⟨#[92]⟩ : ByteArray) ++ ((⟨#[97, 98, 116, 110, 118, 102, 114]⟩ : ByteArray).extract ((ji18) : Int).toNat ((wrap32 ((ji18) + 1)) : Int).toNat))] rfl (by (try simp only [List.map_toArray, List.map_cons, List.map_nil]); first | done | (simp only [hji18]; rfl) | rfl | (simp only [List.length_drop, List.length_take]; rfl)) ?_; (with_reducible refine (cell_Of.calls ((⟨#[92]⟩ : ByteArray) ++ ((⟨#[97, 98, 116, 110, 118, 102, 114]⟩ : ByteArray).extract ((ji18) : Int).toNat ((wrap32 ((ji18) + 1)) : Int).toNat)) t116 _ ?side1 A23.out).mono ?_); (case side1 => first | exact HT.out | exact Tabs2.below HT.out (by repeat (first | (with_reducible first | exact HB.out | apply below_alloc | apply pw_below_drewN | apply below_drew1) | exact HB.out))); rintro e w24 ⟨v117, rfl, ho0, hb⟩; refine ⟨_, rfl, ?_⟩; have n0_ := Aside0.mk (Kd.R_lower ho0 (below_size (by repeat (first | (with_reducible first | exact HB.out | apply below_alloc | apply pw_below_drewN | apply below_drew1) | exact HB.out)))); have n1_ := Aside0.mk (below_step (by repeat (first | (with_reducible first | exact HB.out | apply below_alloc | apply pw_below_drewN | apply below_drew1) | exact HB.out)) hb); clear HB; have HO118 := n0_; have HB := n1_; clear n0_ n1_; (try clear hb); (try clear hb2); (try clear hk); (try clear hi); (try clear ho0)))
                      go_ret
                      exact ⟨_, by first | rfl | (simp [errW_none, errW_some] <;> rfl) | (simp only [← hji18]; first | rfl | (simp [errW_none, errW_some] <;> rfl)) | (simp [*, errW_none, errW_some] <;> rfl), by (with_reducible repeat (first | apply Kd.R_alloc | apply Kd.R_drewN | apply Kd.R_drew)); exact HO118.out, by repeat (first | (with_reducible first | exact HB.out | apply below_alloc | apply pw_below_drewN | apply below_drew1) | exact HB.out)⟩
                    · rw [if_neg c22] at H
                      exact absurd H (by simp)
                  · rw [if_neg c21] at H
                    exact absurd H (by simp)
                · rw [if_neg c20] at H
                  exact absurd H (by simp)
              · rw [if_neg c19] at H
                exact absurd H (by simp)
            · replace c17 := Bool.eq_false_iff.mpr c17
              subst c17
              have H1 : (if a0 < 32 then (list_sign.j1 kj14 a0 true) else (if a0 > 126 then (list_sign.j1 kj14 a0 (decide (a0 < 160))) else (list_sign.j1 kj14 a0 false))) = some r := by rw [if_neg (show ¬ (false = true) by decide)] at H; exact H
              clear H
              have H := H1
              clear H1
              have HC25 := Aside0.mk H
              clear H
              go_upto_region 12 with (fail)
              go_cut [43] (fun v43 wc => ∃ (kq : Nat) (x43_24 : Bool), v43 = .bool x43_24 ∧ Aside0 (list_sign.j1 kq a0 x43_24 = some r) ∧ Aside0 (kq ≤ kj14) ∧ Aside0 (Below w.heap.size w wc))
              case first =>
                have H := HC25.out
                clear HC25
                by_cases c26 : a0 < 32
                · rw [if_pos c26] at H
                  have c26b0 : decide (a0 < 32) = true := decide_eq_true c26
                  clear c26
                  (first | rw [c26b0] | (simp only [i64_w, i32_w]; rw [c26b0]) | skip)
                  have H' := Aside0.mk H
                  clear H
                  go_wp2
                  go_meet
                  case rel => exact ⟨_, (true), (by first | rfl | (simp; done) | (simp [*]; done)), H', ⟨by have := HJ14.out; first | omega | exact Nat.le_refl _⟩, ⟨by repeat (first | (with_reducible first | exact HB.out | apply below_alloc | apply pw_below_drewN | apply below_drew1) | exact HB.out)⟩⟩
                · rw [if_neg c26] at H
                  have c26b0 : decide (a0 < 32) = false := decide_eq_false c26
                  clear c26
                  (first | rw [c26b0] | (simp only [i64_w, i32_w]; rw [c26b0]) | skip)
                  by_cases c27 : a0 > 126
                  · rw [if_pos c27] at H
                    have c27b0 : decide (126 < a0) = true := decide_eq_true c27
                    clear c27
                    have H' := Aside0.mk H
                    clear H
                    go_wp2
                    go_meet
                    case rel => exact ⟨_, (decide (a0 < 160)), (by first | rfl | (simp; done) | (simp [*]; done)), H', ⟨by have := HJ14.out; first | omega | exact Nat.le_refl _⟩, ⟨by repeat (first | (with_reducible first | exact HB.out | apply below_alloc | apply pw_below_drewN | apply below_drew1) | exact HB.out)⟩⟩
                  · rw [if_neg c27] at H
                    have c27b0 : decide (126 < a0) = false := decide_eq_false c27
                    clear c27
                    have H' := Aside0.mk H
                    clear H
                    go_wp2
                    go_meet
                    case rel => exact ⟨_, (false), (by first | rfl | (simp; done) | (simp [*]; done)), H', ⟨by have := HJ14.out; first | omega | exact Nat.le_refl _⟩, ⟨by repeat (first | (with_reducible first | exact HB.out | apply below_alloc | apply pw_below_drewN | apply below_drew1) | exact HB.out)⟩⟩
              case rest =>
                clear HC25
                try clear c1
                try clear c2
                try clear p2
                try clear c3
                try clear p3
                try clear c5
                try clear c5b0
                try clear c5b1
                try clear c6
                try clear c6b0
                try clear c6b1
                try clear c6b2
                try clear p6
                try clear c8
                try clear c11
                try clear c12
                try clear c12b0
                try clear c12b1
                try clear c16
                try clear c16b0
                try clear c17
                try clear c19
                try clear c19b0
                try clear c19b1
                try clear c20
                try clear c20b0
                try clear c20b1
                try clear c21
                try clear c21b0
                try clear c21b1
                try clear c22
                try clear c22b0
                try clear c22b1
                try clear c22b2
                try clear c26
                try clear c26b0
                try clear c27
                try clear c27b0
                try clear p2
                try clear p6
                obtain ⟨kq, x43_24, rfl, HA, HJ24, HB⟩ := hcut
                cases kq with
                | zero => exact absurd HA.out (by simp [list_sign.j1])
                | succ kj24 =>
                  have H := HA.out
                  clear HA
                  simp only [list_sign.j1] at H
                  by_cases c28 : x43_24 = true
                  · subst c28
                    have H1 : ((strconv_FormatInt_61.f (Go.bits .or .i64 (wrap64 (a0)) 512) 8).bind fun t119 => (if 1 ≤ (t119.size : Int) then (if 1 + (t119.extract 1 t119.size).size ≤ 9223372036854775807 then ((cell_Of.f ((⟨#[92]⟩ : ByteArray) ++ (t119.extract 1 t119.size))).bind fun t120 => (some t120)) else (none)) else (none))) = some r := by rw [if_pos rfl] at H; exact H
                    clear H
                    have H := H1
                    clear H1
                    replace H := Option.bind_eq_some_iff.mp H
                    obtain ⟨t119, A290, H⟩ := H
                    replace H : (if 1 ≤ (t119.size : Int) then (if 1 + (t119.extract 1 t119.size).size ≤ 9223372036854775807 then ((cell_Of.f ((⟨#[92]⟩ : ByteArray) ++ (t119.extract 1 t119.size))).bind fun t120 => (some t120)) else (none)) else (none)) = some r := H
                    have A29 := Aside0.mk A290
                    clear A290
                    by_cases c30 : 1 ≤ (t119.size : Int)
                    · rw [if_pos c30] at H
                      have c30b0 := eq_true c30
                      have c30b1 : decide (1 ≤ (t119.size : Int)) = true := decide_eq_true c30
                      clear c30
                      by_cases c31 : 1 + (t119.extract 1 t119.size).size ≤ 9223372036854775807
                      · rw [if_pos c31] at H
                        have c31b0 := eq_true c31
                        have c31b1 : decide (1 + (t119.extract 1 t119.size).size ≤ 9223372036854775807) = true := decide_eq_true c31
                        try have c31b2 : (9223372036854775807 < 1 + (t119.extract 1 t119.size).size) = False := eq_false (Nat.not_lt.2 c31)
                        try have c31b3 : (9223372036854775807 < 1 + (t119.size - 1)) = False := eq_false (by have hc_ := c31; rw [ByteArray.size_extract] at hc_; omega)
                        replace H := Option.bind_eq_some_iff.mp H
                        obtain ⟨t120, A320, H⟩ := H
                        replace H : (some t120) = some r := H
                        have A32 := Aside0.mk A320
                        clear A320
                        obtain rfl := Option.some.inj H
                        go_wp2_with (first | ((with_reducible refine gate_callee (f := 61) rfl ?_); refine goesL_ (some 57) rfl rfl Tryd.func61 (by kernel_rfl) rfl #[.int .i64 (Go.bits .or .i64 (wrap64 (a0)) 512), .int .i64 8] rfl (by (try simp only [List.map_toArray, List.map_cons, List.map_nil]); first | done | rfl | (simp only [List.length_drop, List.length_take]; rfl)) ?_; (with_reducible refine (strconv_FormatInt_61.calls (Go.bits .or .i64 (wrap64 (a0)) 512) 8 t119 _ ?side1 A29.out).mono ?_); (case side1 => first | exact (Tabs2.to1 HT.out) | exact Tabs1.below (Tabs2.to1 HT.out) (by repeat (first | (with_reducible first | exact HB.out | apply below_alloc | apply pw_below_drewN | apply below_drew1) | exact HB.out))); rintro e w33 ⟨rfl, hb⟩; refine ⟨_, rfl, ?_⟩; have n0_ := Aside0.mk (below_step (by repeat (first | (with_reducible first | exact HB.out | apply below_alloc | apply pw_below_drewN | apply below_drew1) | exact HB.out)) hb); clear HB; have HB := n0_; clear n0_; (try clear hb); (try clear hb2); (try clear hk); (try clear hi)) | ((with_reducible refine gate_callee (f := 31) rfl ?_); refine goesL_ (some 61) rfl rfl Tryd.func31 (by kernel_rfl) rfl #[.string ((⟨#[92]⟩ : ByteArray) ++ (t119.extract 1 t119.size))] rfl (by (try simp only [List.map_toArray, List.map_cons, List.map_nil]); first | done | rfl | (simp only [List.length_drop, List.length_take]; rfl)) ?_; (with_reducible refine (cell_Of.calls ((⟨#[92]⟩ : ByteArray) ++ (t119.extract 1 t119.size)) t120 _ ?side1 A32.out).mono ?_); (case side1 => first | exact HT.out | exact Tabs2.below HT.out (by repeat (first | (with_reducible first | exact HB.out | apply below_alloc | apply pw_below_drewN | apply below_drew1) | exact HB.out))); rintro e w34 ⟨v121, rfl, ho0, hb⟩; refine ⟨_, rfl, ?_⟩; have n0_ := Aside0.mk (Kd.R_lower ho0 (below_size (by repeat (first | (with_reducible first | exact HB.out | apply below_alloc | apply pw_below_drewN | apply below_drew1) | exact HB.out)))); have n1_ := Aside0.mk (below_step (by repeat (first | (with_reducible first | exact HB.out | apply below_alloc | apply pw_below_drewN | apply below_drew1) | exact HB.out)) hb); clear HB; have HO122 := n0_; have HB := n1_; clear n0_ n1_; (try clear hb); (try clear hb2); (try clear hk); (try clear hi); (try clear ho0)))
                        go_ret
                        exact ⟨_, by first | rfl | (simp [errW_none, errW_some] <;> rfl) | (simp [*, errW_none, errW_some] <;> rfl), by (with_reducible repeat (first | apply Kd.R_alloc | apply Kd.R_drewN | apply Kd.R_drew)); exact HO122.out, by repeat (first | (with_reducible first | exact HB.out | apply below_alloc | apply pw_below_drewN | apply below_drew1) | exact HB.out)⟩
                      · rw [if_neg c31] at H
                        exact absurd H (by simp)
                    · rw [if_neg c30] at H
                      exact absurd H (by simp)
                  · replace c28 := Bool.eq_false_iff.mpr c28
                    subst c28
                    have H1 : (some (([a0] : List Int))) = some r := by rw [if_neg (show ¬ (false = true) by decide)] at H; exact H
                    clear H
                    have H := H1
                    clear H1
                    obtain ⟨y123, hy123⟩ : ∃ y_ : List Int, y_ = (([a0] : List Int)) := ⟨_, rfl⟩
                    replace H : (some y123) = some r := by first | (rw [hy123]; with_reducible exact H) | (have H2_ := (Option.bind_some _ _).symm.trans H; rw [hy123]; with_reducible exact H2_) | (have H2_ := (Option.bind_some _ _).symm.trans H; with_reducible exact H2_) | with_reducible exact H | (rw [hy123]; exact H) | exact H
                    have Ny123 := Aside0.mk hy123
                    clear hy123
                    obtain rfl := Option.some.inj H
                    go_wp2_with (first | ((with_reducible refine gate_dst (N := 12) rfl ?_); refine Kd.R_lit (Kd.int .i32) _ 24 ?hg (N := 12) ?hd (xs := ([a0] : List Int)) (inner := [.int .i32 a0]) (ok := fun _ => True) (okp := fun _ => True) ?hr ?hp (fun _ hk => hk) trivial (Below.refl _ _) (Nat.le_refl _) (by simp) ?_; (case hd => rfl); (case hg => rfl); (case hr => first | (go_simp; done) | (go_simp; rfl)); (case hp => exact (Reps.one (show Kd.M (Kd.int .i32) _ _ _ a0 [.int .i32 a0] from rfl) (Reps.none _ _))); intro v124 w35 ho36 hb hg_ hnew_; clear hg_ hnew_; (first | rw [← Ny123.out] at ho36 | (simp only [Int.reduceToNat] at ho36; rw [← Ny123.out] at ho36)); have n0_ := Aside0.mk (Kd.R_lower ho36 (below_size (by repeat (first | (with_reducible first | exact HB.out | apply below_alloc | apply pw_below_drewN | apply below_drew1) | exact HB.out)))); have n1_ := Aside0.mk (below_step (by repeat (first | (with_reducible first | exact HB.out | apply below_alloc | apply pw_below_drewN | apply below_drew1) | exact HB.out)) hb); clear HB; have HO125 := n0_; have HB := n1_; clear n0_ n1_; clear hb ho36))
                    go_ret
                    exact ⟨_, by first | rfl | (simp [errW_none, errW_some] <;> rfl) | (simp [*, errW_none, errW_some] <;> rfl), by (with_reducible repeat (first | apply Kd.R_alloc | apply Kd.R_drewN | apply Kd.R_drew)); exact HO125.out, by repeat (first | (with_reducible first | exact HB.out | apply below_alloc | apply pw_below_drewN | apply below_drew1) | exact HB.out)⟩
    · replace c11 := Bool.eq_false_iff.mpr c11
      subst c11
      have H1 : ((cell_Of.f (⟨#[92, 63]⟩ : ByteArray)).bind fun t126 => (some t126)) = some r := by rw [if_neg (show ¬ (false = true) by decide)] at H; exact H
      clear H
      have H := H1
      clear H1
      replace H := Option.bind_eq_some_iff.mp H
      obtain ⟨t126, A370, H⟩ := H
      replace H : (some t126) = some r := H
      have A37 := Aside0.mk A370
      clear A370
      obtain rfl := Option.some.inj H
      go_enter Tryd.func83, Tryd.ntmps83
      go_wp2_with (first | ((with_reducible refine gate_callee (f := 32) rfl ?_); refine goesL_ (some 8) rfl rfl Tryd.func32 (by kernel_rfl) rfl #[.int .i32 a0] rfl (by (try simp only [List.map_toArray, List.map_cons, List.map_nil]); first | done | rfl | (simp only [List.length_drop, List.length_take]; rfl)) ?_; (with_reducible refine (cell_Byte.calls a0 t106 false _ A2.out).mono ?_); rintro e w' ⟨rfl, ⟨nd, rfl⟩⟩; refine ⟨_, rfl, ?_⟩) | ((with_reducible refine gate_callee (f := 35) rfl ?_); refine goesL_ (some 23) rfl rfl Tryd.func35 (by kernel_rfl) rfl #[.int .i32 a0] rfl (by (try simp only [List.map_toArray, List.map_cons, List.map_nil]); first | done | rfl | (simp only [List.length_drop, List.length_take]; rfl)) ?_; (with_reducible refine (cell_Right.calls a0 false _ A10.out).mono ?_); rintro e w' ⟨rfl, ⟨nd, rfl⟩⟩; refine ⟨_, rfl, ?_⟩) | ((with_reducible refine gate_callee (f := 31) rfl ?_); refine goesL_ (some 61) rfl rfl Tryd.func31 (by kernel_rfl) rfl #[.string (⟨#[92, 63]⟩ : ByteArray)] rfl (by (try simp only [List.map_toArray, List.map_cons, List.map_nil]); first | done | rfl | (simp only [List.length_drop, List.length_take]; rfl)) ?_; (with_reducible refine (cell_Of.calls (⟨#[92, 63]⟩ : ByteArray) t126 _ ?side1 A37.out).mono ?_); (case side1 => first | exact HT.out | exact Tabs2.below HT.out (by repeat (first | (with_reducible first | exact HB.out | apply below_alloc | apply pw_below_drewN | apply below_drew1) | exact HB.out))); rintro e w38 ⟨v127, rfl, ho0, hb⟩; refine ⟨_, rfl, ?_⟩; have n0_ := Aside0.mk (Kd.R_lower ho0 (below_size (by repeat (first | (with_reducible first | exact HB.out | apply below_alloc | apply pw_below_drewN | apply below_drew1) | exact HB.out)))); have n1_ := Aside0.mk (below_step (by repeat (first | (with_reducible first | exact HB.out | apply below_alloc | apply pw_below_drewN | apply below_drew1) | exact HB.out)) hb); clear HB; have HO128 := n0_; have HB := n1_; clear n0_ n1_; (try clear hb); (try clear hb2); (try clear hk); (try clear hi); (try clear ho0)))
      go_ret
      exact ⟨_, by first | rfl | (simp [errW_none, errW_some] <;> rfl) | (simp [*, errW_none, errW_some] <;> rfl), by (with_reducible repeat (first | apply Kd.R_alloc | apply Kd.R_drewN | apply Kd.R_drew)); exact HO128.out, by repeat (first | (with_reducible first | exact HB.out | apply below_alloc | apply pw_below_drewN | apply below_drew1) | exact HB.out)⟩

end Go.Proofs.YtcppmghhijffpaaDoor.X
