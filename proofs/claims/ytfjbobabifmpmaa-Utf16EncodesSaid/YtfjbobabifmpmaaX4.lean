-- Written by xprint.py (a program of this claim's author) out of the translation. Not trusted: Lean checks it.
import Derived.Test.YtfjbobabifmpmaaX0
import Derived.Test.YtfjbobabifmpmaaX2
import Derived.Test.YtfjbobabifmpmaaX3
namespace Go.Proofs.Ytfjbobabifmpmaa.X
open Go.RowKit Go.Proofs.YtfjbobabifmpmaaW.PrintWords Go.Proofs.YtfjbobabifmpmaaW.PrintLast Go.Proofs.YtfjbobabifmpmaaW.PrintMore
attribute [local go_sem] max2_int min2_int max_two min_two max_three min_three max_four min_four   -- for this text's walks alone
set_option linter.unusedVariables false
set_option linter.unusedSimpArgs false

/-! ### api_Cell: function 30 -/
def api_Cell.l0 : Nat → List Int → List Int → Int → Int → Option (Bool)
  | 0, _, _, _, _ => none
  | k + 1, x0, x1, x12, x13 => if x13 < x12 then (if 0 ≤ x13 then (if x13 < (x0.length : Int) then (if x13 < (x1.length : Int) then (if (rd x0 x13) = (rd x1 x13) then (api_Cell.l0 k x0 x1 x12 (wrap64 (x13 + 1))) else (some false)) else (none)) else (none)) else (none)) else (some true)
def api_Cell.f (k : Nat) (l0 : List Int) (l1 : List Int) : Option (Bool) := if (l0.length : Int) = (l1.length : Int) then (api_Cell.l0 k l0 l1 (l0.length : Int) 0) else (some false)
theorem api_Cell.mono_l : ∀ k, (∀ y0 y1 y2 y3, LeO (api_Cell.l0 k y0 y1 y2 y3) (api_Cell.l0 (k + 1) y0 y1 y2 y3))
  | 0 => fun _ _ _ _ r h => by simp [api_Cell.l0] at h
  | k + 1 => by
    have ih0 := api_Cell.mono_l k
    · intro y0 y1 y2 y3
      unfold api_Cell.l0
      repeat' first
      | (with_reducible exact ih0 _ _ _ _)
      | (with_reducible exact LeO.refl _)
      | (with_reducible exact LeO.none _)
      | (with_reducible refine LeO.ite ?_ ?_)
      | (with_reducible refine LeO.bind ?_ (fun _ => ?_))
      | exact ih0 _ _ _ _
      | exact LeO.none _
      | refine LeO.ite ?_ ?_
      | refine LeO.bind ?_ (fun _ => ?_)
theorem api_Cell.mono : ∀ a0 a1 k, LeO (api_Cell.f k a0 a1) (api_Cell.f (k + 1) a0 a1) := by
  intro a0 a1 k
  have ih0 := api_Cell.mono_l k
  unfold api_Cell.f
  repeat' first
      | (with_reducible exact ih0 _ _ _ _)
      | (with_reducible exact LeO.refl _)
      | (with_reducible exact LeO.none _)
      | (with_reducible refine LeO.ite ?_ ?_)
      | (with_reducible refine LeO.bind ?_ (fun _ => ?_))
      | exact ih0 _ _ _ _
      | exact LeO.none _
      | refine LeO.ite ?_ ?_
      | refine LeO.bind ?_ (fun _ => ?_)
set_option maxHeartbeats 8000000 in
set_option maxRecDepth 100000 in
theorem api_Cell.calls (k : Nat) (A0 : Option Addr) (c0 : Nat) (l0 : List Int) (A1 : Option Addr) (c1 : Nat) (l1 : List Int) (r : Bool) (w : World) (hr0 : Kd.C (Kd.int .i32) w A0 l0.length l0) (hc0 : l0.length ≤ c0) (hr1 : Kd.C (Kd.int .i32) w A1 l1.length l1) (hc1 : l1.length ≤ c1) (h : api_Cell.f k l0 l1 = some r) :
    Calls Try.prog 30 #[.slice A0 l0.length c0, .slice A1 l1.length c1] w fun e w' => e = .returned (.bool r) ∧ Drawn0 w w' := by
  have HR0 := Aside0.mk hr0
  have HC0 := Aside0.mk hc0
  clear hr0 hc0
  have HR1 := Aside0.mk hr1
  have HC1 := Aside0.mk hc1
  clear hr1 hc1
  have H : (if (l0.length : Int) = (l1.length : Int) then (api_Cell.l0 k l0 l1 (l0.length : Int) 0) else (some false)) = some r := h
  clear h
  by_cases c3 : (l0.length : Int) = (l1.length : Int)
  · rw [if_pos c3] at H
    have c3b0 : ((l0.length : Int) == (l1.length : Int)) = true := beq_iff_eq.mpr c3
    have c3b1 : ((l0.length : Int) != (l1.length : Int)) = false := bne_eq_false_iff_eq.mpr c3
    have c3b2 : (l0.length == l1.length) = true := by first | simpa using c3 | (simp at c3 ⊢; omega)
    clear c3
    have H' := Aside0.mk H
    clear H
    go_enter Try.func30, Try.ntmps30
    go_wp2
    repeat (go_quiet (fail); try go_wp2)
    go_loopg [13] k (fun kq v13 w' => ∃ (x13_1 : Int), v13 = .int .i64 x13_1 ∧ Aside0 (api_Cell.l0 kq l0 l1 (l0.length : Int) x13_1 = some r) ∧ Aside0 (kq ≤ k) ∧ Drawn0 w w')
    case atStart => exact ⟨(0), (by first | rfl | (simp; done) | (simp [*]; done)), H', ⟨Nat.le_refl _⟩, by repeat (first | exact Drawn0.refl _ | apply Drawn0.step)⟩
    case round =>
      clear H'
      try clear c1
      try clear p2
      try clear c3
      try clear c3b0
      try clear c3b1
      try clear c3b2
      obtain ⟨x13_1, rfl, HA, HK1, ⟨m1, rfl⟩⟩ := hrel
      cases gk with
      | zero => exact absurd HA.out (by simp [api_Cell.l0])
      | succ k1 =>
        have H := HA.out
        clear HA
        simp only [api_Cell.l0] at H
        by_cases c4 : x13_1 < (l0.length : Int)
        · rw [if_pos c4] at H
          have c4b0 : decide (x13_1 < (l0.length : Int)) = true := decide_eq_true c4
          clear c4
          by_cases c5 : 0 ≤ x13_1
          · rw [if_pos c5] at H
            have c5b0 : decide (0 ≤ x13_1) = true := decide_eq_true c5
            clear c5
            by_cases c6 : x13_1 < (l0.length : Int)
            · rw [if_pos c6] at H
              have c6b0 : decide (x13_1 < (l0.length : Int)) = true := decide_eq_true c6
              clear c6
              by_cases c7 : x13_1 < (l1.length : Int)
              · rw [if_pos c7] at H
                have c7b0 : decide (x13_1 < (l1.length : Int)) = true := decide_eq_true c7
                clear c7
                by_cases c8 : (rd l0 x13_1) = (rd l1 x13_1)
                · rw [if_pos c8] at H
                  have c8b0 : ((rd l0 x13_1) == (rd l1 x13_1)) = true := beq_iff_eq.mpr c8
                  have c8b1 : ((rd l0 x13_1) != (rd l1 x13_1)) = false := bne_eq_false_iff_eq.mpr c8
                  clear c8
                  have H' := Aside0.mk H
                  clear H
                  have p201 : 0 ≤ (x13_1 : Int) := of_decide_eq_true (by first | (with_reducible assumption) | assumption)
                  have q201 : x13_1 < (l0.length : Int) := of_decide_eq_true (by first | (with_reducible assumption) | assumption)
                  obtain ⟨ad201, e201, hx201_0⟩ := Kd.at_int HR0.out x13_1 p201 q201
                  cases e201
                  replace p201 := eq_true p201
                  replace q201 := eq_true q201
                  have p202 : 0 ≤ (x13_1 : Int) := of_decide_eq_true (by first | (with_reducible assumption) | assumption)
                  have q202 : x13_1 < (l1.length : Int) := of_decide_eq_true (by first | (with_reducible assumption) | assumption)
                  obtain ⟨ad202, e202, hx202_0⟩ := Kd.at_int HR1.out x13_1 p202 q202
                  cases e202
                  replace p202 := eq_true p202
                  replace q202 := eq_true q202
                  go_wp2
                  repeat (go_quiet (fail); try go_wp2)
                  go_roundg k1
                  case measure => have := HK1.out; omega
                  case rel => exact ⟨(wrap64 (x13_1 + 1)), (by first | rfl | (simp; done) | (simp [*]; done)), H', ⟨by have := HK1.out; omega⟩, by repeat (first | exact Drawn0.refl _ | apply Drawn0.step)⟩
                · rw [if_neg c8] at H
                  have c8b0 : ((rd l0 x13_1) == (rd l1 x13_1)) = false := beq_eq_false_iff_ne.mpr c8
                  have c8b1 : ((rd l0 x13_1) != (rd l1 x13_1)) = true := bne_iff_ne.mpr c8
                  obtain rfl := Option.some.inj H
                  have p201 : 0 ≤ (x13_1 : Int) := of_decide_eq_true (by first | (with_reducible assumption) | assumption)
                  have q201 : x13_1 < (l0.length : Int) := of_decide_eq_true (by first | (with_reducible assumption) | assumption)
                  obtain ⟨ad201, e201, hx201_0⟩ := Kd.at_int HR0.out x13_1 p201 q201
                  cases e201
                  replace p201 := eq_true p201
                  replace q201 := eq_true q201
                  have p202 : 0 ≤ (x13_1 : Int) := of_decide_eq_true (by first | (with_reducible assumption) | assumption)
                  have q202 : x13_1 < (l1.length : Int) := of_decide_eq_true (by first | (with_reducible assumption) | assumption)
                  obtain ⟨ad202, e202, hx202_0⟩ := Kd.at_int HR1.out x13_1 p202 q202
                  cases e202
                  replace p202 := eq_true p202
                  replace q202 := eq_true q202
                  go_wp2
                  repeat (go_quiet (fail); try go_wp2)
                  go_ret
                  exact ⟨by first | rfl | (simp; done) | (simp [*]; done), by repeat (first | exact Drawn0.refl _ | apply Drawn0.step)⟩
              · rw [if_neg c7] at H
                exact absurd H (by simp)
            · rw [if_neg c6] at H
              exact absurd H (by simp)
          · rw [if_neg c5] at H
            exact absurd H (by simp)
        · rw [if_neg c4] at H
          have c4b0 : decide (x13_1 < (l0.length : Int)) = false := decide_eq_false c4
          clear c4
          obtain rfl := Option.some.inj H
          go_wp2
          repeat (go_quiet (fail); try go_wp2)
          go_ret
          exact ⟨by first | rfl | (simp; done) | (simp [*]; done), by repeat (first | exact Drawn0.refl _ | apply Drawn0.step)⟩
  · rw [if_neg c3] at H
    have c3b0 : ((l0.length : Int) == (l1.length : Int)) = false := beq_eq_false_iff_ne.mpr c3
    have c3b1 : ((l0.length : Int) != (l1.length : Int)) = true := bne_iff_ne.mpr c3
    have c3b2 : (l0.length == l1.length) = false := by first | simpa using c3 | (simp at c3 ⊢; omega)
    obtain rfl := Option.some.inj H
    go_enter Try.func30, Try.ntmps30
    go_wp2
    repeat (go_quiet (fail); try go_wp2)
    go_ret
    exact ⟨by first | rfl | (simp; done) | (simp [*]; done), by repeat (first | exact Drawn0.refl _ | apply Drawn0.step)⟩

/-! ### utf16_Canonical: function 20 -/
def utf16_Canonical.one (k : Nat) (l0 : List Int) (b : Bool) : Option Bool := (utf16_Encode.f k l0 b).bind fun e => (if e.2 = 0 then ((utf16_Decode.f k e.1 b).bind fun d => api_Cell.f k d l0) else some false)
def utf16_Canonical.g (k : Nat) (l0 : List Int) : Nat → Option Bool
  | 0 => some true
  | m + 1 => (utf16_Canonical.one k l0 (m == 0)).bind fun p => (if p = true then utf16_Canonical.g k l0 m else some false)
def utf16_Canonical.f (k : Nat) (l0 : List Int) : Option Bool := utf16_Canonical.g k l0 2
theorem utf16_Canonical.mono : ∀ a0 k, LeO (utf16_Canonical.f k a0) (utf16_Canonical.f (k + 1) a0) := by
  intro a0 k
  unfold utf16_Canonical.f utf16_Canonical.g utf16_Canonical.g utf16_Canonical.g utf16_Canonical.one
  repeat' first
      | (with_reducible exact utf16_Encode.mono _ _ _)
      | (with_reducible exact utf16_Decode.mono _ _ _)
      | (with_reducible exact api_Cell.mono _ _ _)
      | (with_reducible exact LeO.refl _)
      | (with_reducible refine LeO.ite ?_ ?_)
      | (with_reducible refine LeO.bind ?_ (fun _ => ?_))
set_option maxHeartbeats 8000000 in
set_option maxRecDepth 100000 in
theorem utf16_Canonical.calls (k : Nat) (A0 : Option Addr) (c0 : Nat) (l0 : List Int) (r : Bool) (w : World) (hr0 : Kd.C (Kd.int .i32) w A0 l0.length l0) (hc0 : l0.length ≤ c0) (h : utf16_Canonical.f k l0 = some r) :
    Calls Try.prog 20 #[.slice A0 l0.length c0] w fun e w' => e = .returned (.bool r) ∧ Below w.heap.size w w' := by
  have HR0 := Aside0.mk hr0
  have HC0 := Aside0.mk hc0
  clear hr0 hc0
  have HB := Aside0.mk (Below.refl w.heap.size w)
  have H' := Aside0.mk (show utf16_Canonical.g k l0 2 = some r from h)
  clear h
  have i0 : ∀ w, (Instr.index 56 (.agg #[.bool false, .bool true]) (.int .i64 0)).run Try.prog w = .ok (.bool false) w := fun _ => by kernel_rfl
  have i1 : ∀ w, (Instr.index 56 (.agg #[.bool false, .bool true]) (.int .i64 1)).run Try.prog w = .ok (.bool true) w := fun _ => by kernel_rfl
  go_enter Try.func20, Try.ntmps20
  go_wp2
  go_loopg [8] 2 (fun kq v8 w' => ((kq = 2 ∧ v8 = .int .i64 0) ∨ (kq = 1 ∧ v8 = .int .i64 1) ∨ (kq = 0 ∧ v8 = .int .i64 2)) ∧ Aside0 (utf16_Canonical.g k l0 kq = some r) ∧ Aside0 (Below w.heap.size w w'))
  case atStart => exact ⟨.inl ⟨rfl, rfl⟩, H', ⟨by repeat (first | (with_reducible first | exact HB.out | apply below_alloc | apply pw_below_drewN | apply below_drew1) | exact HB.out)⟩⟩
  case round =>
    clear H' HB
    obtain ⟨hv, HA, HB⟩ := hrel
    rcases hv with ⟨rfl, rfl⟩ | ⟨rfl, rfl⟩ | ⟨rfl, rfl⟩
    · -- round 0
      obtain ⟨p, AP0, HN⟩ := Option.bind_eq_some_iff.mp HA.out
      clear HA
      have HN := Aside0.mk HN
      obtain ⟨⟨t1, t2⟩, AE0, HN1⟩ := Option.bind_eq_some_iff.mp AP0
      clear AP0
      have AE := Aside0.mk AE0
      clear AE0
      by_cases c1 : t2 = 0
      · rw [if_pos c1] at HN1
        subst c1
        obtain ⟨t3, AD0, AQ0⟩ := Option.bind_eq_some_iff.mp HN1
        have AD := Aside0.mk AD0
        clear AD0 HN1
        cases p with
        | true =>
          have AQ := Aside0.mk (show api_Cell.f k t3 l0 = some true from AQ0)
          clear AQ0
          go_wp2_with (first | (go_at_call 18; (refine (utf16_Encode.calls k _ _ l0 false t1 0 _ (Kd.C_below HR0.out (by repeat (first | (with_reducible first | exact HB.out | apply below_alloc | apply pw_below_drewN | apply below_drew1) | exact HB.out))) HC0.out AE.out).mono ?_); rintro e w1 ⟨v1, rfl, ho1, hb1⟩; have HO := Aside0.mk ho1; have HB1 := Aside0.mk (below_step HB.out hb1); clear ho1 hb1 HB; have HB := HB1; clear HB1; obtain ⟨Ao, co, eo⟩ := Kd.R_slice HO.out; subst eo) | (go_at_call 11; (refine (utf16_Decode.calls k _ _ t1 false t3 _ (Kd.R_reads' HO.out).2.2 (Kd.R_reads' HO.out).2.1 AD.out).mono ?_); rintro e w2 ⟨v2, rfl, ho2, hb2⟩; have HO2 := Aside0.mk ho2; have HB1 := Aside0.mk (below_step HB.out hb2); clear ho2 hb2 HB; have HB := HB1; clear HB1; obtain ⟨Ao2, co2, eo2⟩ := Kd.R_slice HO2.out; subst eo2) | (go_at_call 30; (refine (api_Cell.calls k _ _ t3 _ _ l0 true _ (Kd.R_reads' HO2.out).2.2 (Kd.R_reads' HO2.out).2.1 (Kd.C_below HR0.out HB.out) HC0.out AQ.out).mono ?_); rintro e w3 ⟨rfl, ⟨nd, rfl⟩⟩))
          go_roundg 1
          case measure => omega
          case rel => exact ⟨by first | exact .inr (.inl ⟨rfl, rfl⟩) | exact .inr (.inr ⟨rfl, rfl⟩), ⟨HN.out⟩, ⟨by repeat (first | (with_reducible first | exact HB.out | apply below_alloc | apply pw_below_drewN | apply below_drew1) | exact HB.out)⟩⟩
        | false =>
          have AQ := Aside0.mk (show api_Cell.f k t3 l0 = some false from AQ0)
          clear AQ0
          obtain rfl := Option.some.inj (show some false = some r from HN.out)
          go_wp2_with (first | (go_at_call 18; (refine (utf16_Encode.calls k _ _ l0 false t1 0 _ (Kd.C_below HR0.out (by repeat (first | (with_reducible first | exact HB.out | apply below_alloc | apply pw_below_drewN | apply below_drew1) | exact HB.out))) HC0.out AE.out).mono ?_); rintro e w1 ⟨v1, rfl, ho1, hb1⟩; have HO := Aside0.mk ho1; have HB1 := Aside0.mk (below_step HB.out hb1); clear ho1 hb1 HB; have HB := HB1; clear HB1; obtain ⟨Ao, co, eo⟩ := Kd.R_slice HO.out; subst eo) | (go_at_call 11; (refine (utf16_Decode.calls k _ _ t1 false t3 _ (Kd.R_reads' HO.out).2.2 (Kd.R_reads' HO.out).2.1 AD.out).mono ?_); rintro e w2 ⟨v2, rfl, ho2, hb2⟩; have HO2 := Aside0.mk ho2; have HB1 := Aside0.mk (below_step HB.out hb2); clear ho2 hb2 HB; have HB := HB1; clear HB1; obtain ⟨Ao2, co2, eo2⟩ := Kd.R_slice HO2.out; subst eo2) | (go_at_call 30; (refine (api_Cell.calls k _ _ t3 _ _ l0 false _ (Kd.R_reads' HO2.out).2.2 (Kd.R_reads' HO2.out).2.1 (Kd.C_below HR0.out HB.out) HC0.out AQ.out).mono ?_); rintro e w3 ⟨rfl, ⟨nd, rfl⟩⟩))
          go_ret
          exact ⟨rfl, by repeat (first | (with_reducible first | exact HB.out | apply below_alloc | apply pw_below_drewN | apply below_drew1) | exact HB.out)⟩
      · rw [if_neg c1] at HN1
        obtain rfl := Option.some.inj HN1
        obtain rfl := Option.some.inj (show some false = some r from HN.out)
        have c1b0 : (t2 == 0) = false := beq_eq_false_iff_ne.mpr c1
        have c1b1 : (t2 != 0) = true := bne_iff_ne.mpr c1
        clear c1 HN1
        go_wp2_with (first | (go_at_call 18; (refine (utf16_Encode.calls k _ _ l0 false t1 t2 _ (Kd.C_below HR0.out (by repeat (first | (with_reducible first | exact HB.out | apply below_alloc | apply pw_below_drewN | apply below_drew1) | exact HB.out))) HC0.out AE.out).mono ?_); rintro e w1 ⟨v1, rfl, ho1, hb1⟩; have HO := Aside0.mk ho1; have HB1 := Aside0.mk (below_step HB.out hb1); clear ho1 hb1 HB; have HB := HB1; clear HB1; obtain ⟨Ao, co, eo⟩ := Kd.R_slice HO.out; subst eo))
        go_ret
        exact ⟨rfl, by repeat (first | (with_reducible first | exact HB.out | apply below_alloc | apply pw_below_drewN | apply below_drew1) | exact HB.out)⟩
    · -- round 1
      obtain ⟨p, AP0, HN⟩ := Option.bind_eq_some_iff.mp HA.out
      clear HA
      have HN := Aside0.mk HN
      obtain ⟨⟨t1, t2⟩, AE0, HN1⟩ := Option.bind_eq_some_iff.mp AP0
      clear AP0
      have AE := Aside0.mk AE0
      clear AE0
      by_cases c1 : t2 = 0
      · rw [if_pos c1] at HN1
        subst c1
        obtain ⟨t3, AD0, AQ0⟩ := Option.bind_eq_some_iff.mp HN1
        have AD := Aside0.mk AD0
        clear AD0 HN1
        cases p with
        | true =>
          have AQ := Aside0.mk (show api_Cell.f k t3 l0 = some true from AQ0)
          clear AQ0
          go_wp2_with (first | (go_at_call 18; (refine (utf16_Encode.calls k _ _ l0 true t1 0 _ (Kd.C_below HR0.out (by repeat (first | (with_reducible first | exact HB.out | apply below_alloc | apply pw_below_drewN | apply below_drew1) | exact HB.out))) HC0.out AE.out).mono ?_); rintro e w1 ⟨v1, rfl, ho1, hb1⟩; have HO := Aside0.mk ho1; have HB1 := Aside0.mk (below_step HB.out hb1); clear ho1 hb1 HB; have HB := HB1; clear HB1; obtain ⟨Ao, co, eo⟩ := Kd.R_slice HO.out; subst eo) | (go_at_call 11; (refine (utf16_Decode.calls k _ _ t1 true t3 _ (Kd.R_reads' HO.out).2.2 (Kd.R_reads' HO.out).2.1 AD.out).mono ?_); rintro e w2 ⟨v2, rfl, ho2, hb2⟩; have HO2 := Aside0.mk ho2; have HB1 := Aside0.mk (below_step HB.out hb2); clear ho2 hb2 HB; have HB := HB1; clear HB1; obtain ⟨Ao2, co2, eo2⟩ := Kd.R_slice HO2.out; subst eo2) | (go_at_call 30; (refine (api_Cell.calls k _ _ t3 _ _ l0 true _ (Kd.R_reads' HO2.out).2.2 (Kd.R_reads' HO2.out).2.1 (Kd.C_below HR0.out HB.out) HC0.out AQ.out).mono ?_); rintro e w3 ⟨rfl, ⟨nd, rfl⟩⟩))
          go_roundg 0
          case measure => omega
          case rel => exact ⟨by first | exact .inr (.inl ⟨rfl, rfl⟩) | exact .inr (.inr ⟨rfl, rfl⟩), ⟨HN.out⟩, ⟨by repeat (first | (with_reducible first | exact HB.out | apply below_alloc | apply pw_below_drewN | apply below_drew1) | exact HB.out)⟩⟩
        | false =>
          have AQ := Aside0.mk (show api_Cell.f k t3 l0 = some false from AQ0)
          clear AQ0
          obtain rfl := Option.some.inj (show some false = some r from HN.out)
          go_wp2_with (first | (go_at_call 18; (refine (utf16_Encode.calls k _ _ l0 true t1 0 _ (Kd.C_below HR0.out (by repeat (first | (with_reducible first | exact HB.out | apply below_alloc | apply pw_below_drewN | apply below_drew1) | exact HB.out))) HC0.out AE.out).mono ?_); rintro e w1 ⟨v1, rfl, ho1, hb1⟩; have HO := Aside0.mk ho1; have HB1 := Aside0.mk (below_step HB.out hb1); clear ho1 hb1 HB; have HB := HB1; clear HB1; obtain ⟨Ao, co, eo⟩ := Kd.R_slice HO.out; subst eo) | (go_at_call 11; (refine (utf16_Decode.calls k _ _ t1 true t3 _ (Kd.R_reads' HO.out).2.2 (Kd.R_reads' HO.out).2.1 AD.out).mono ?_); rintro e w2 ⟨v2, rfl, ho2, hb2⟩; have HO2 := Aside0.mk ho2; have HB1 := Aside0.mk (below_step HB.out hb2); clear ho2 hb2 HB; have HB := HB1; clear HB1; obtain ⟨Ao2, co2, eo2⟩ := Kd.R_slice HO2.out; subst eo2) | (go_at_call 30; (refine (api_Cell.calls k _ _ t3 _ _ l0 false _ (Kd.R_reads' HO2.out).2.2 (Kd.R_reads' HO2.out).2.1 (Kd.C_below HR0.out HB.out) HC0.out AQ.out).mono ?_); rintro e w3 ⟨rfl, ⟨nd, rfl⟩⟩))
          go_ret
          exact ⟨rfl, by repeat (first | (with_reducible first | exact HB.out | apply below_alloc | apply pw_below_drewN | apply below_drew1) | exact HB.out)⟩
      · rw [if_neg c1] at HN1
        obtain rfl := Option.some.inj HN1
        obtain rfl := Option.some.inj (show some false = some r from HN.out)
        have c1b0 : (t2 == 0) = false := beq_eq_false_iff_ne.mpr c1
        have c1b1 : (t2 != 0) = true := bne_iff_ne.mpr c1
        clear c1 HN1
        go_wp2_with (first | (go_at_call 18; (refine (utf16_Encode.calls k _ _ l0 true t1 t2 _ (Kd.C_below HR0.out (by repeat (first | (with_reducible first | exact HB.out | apply below_alloc | apply pw_below_drewN | apply below_drew1) | exact HB.out))) HC0.out AE.out).mono ?_); rintro e w1 ⟨v1, rfl, ho1, hb1⟩; have HO := Aside0.mk ho1; have HB1 := Aside0.mk (below_step HB.out hb1); clear ho1 hb1 HB; have HB := HB1; clear HB1; obtain ⟨Ao, co, eo⟩ := Kd.R_slice HO.out; subst eo))
        go_ret
        exact ⟨rfl, by repeat (first | (with_reducible first | exact HB.out | apply below_alloc | apply pw_below_drewN | apply below_drew1) | exact HB.out)⟩
    · obtain rfl := Option.some.inj (show some true = some r from HA.out)
      go_wp2
      go_ret
      exact ⟨rfl, by repeat (first | (with_reducible first | exact HB.out | apply below_alloc | apply pw_below_drewN | apply below_drew1) | exact HB.out)⟩

end Go.Proofs.Ytfjbobabifmpmaa.X
