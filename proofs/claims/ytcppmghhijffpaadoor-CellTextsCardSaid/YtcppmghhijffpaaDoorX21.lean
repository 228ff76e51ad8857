-- Written by xprint.py (a program of this claim's author) out of the translation. Not trusted: Lean checks it.
import Derived.Test.YtcppmghhijffpaaDoorX0
namespace Go.Proofs.YtcppmghhijffpaaDoor.X
open Go.RowKit Go.Proofs.YtcppmghhijffpaaDoorW.PrintWords Go.Proofs.YtcppmghhijffpaaDoorW.PrintLast Go.Proofs.YtcppmghhijffpaaDoorW.PrintMore
attribute [local go_sem] max2_int min2_int max_two min_two max_three min_three max_four min_four   -- for this text's walks alone
set_option linter.unusedVariables false
set_option linter.unusedSimpArgs false

/-! ### redactorref01_hex: function 66 -/
def redactorref01_hex.l0 : Nat → Int → Int → ByteArray → Option (ByteArray)
  | 0, _, _, _ => none
  | k + 1, x0, x1, x5 => if x0 > 0 then (if 0 ≤ (Int.tmod x0 16) then (if (Int.tmod x0 16) ≤ (wrap64 ((Int.tmod x0 16) + 1)) then (if (wrap64 ((Int.tmod x0 16) + 1)) ≤ 16 then (if ((⟨#[48, 49, 50, 51, 52, 53, 54, 55, 56, 57, 97, 98, 99, 100, 101, 102]⟩ : ByteArray).extract ((Int.tmod x0 16) : Int).toNat ((wrap64 ((Int.tmod x0 16) + 1)) : Int).toNat).size + x5.size ≤ 9223372036854775807 then (redactorref01_hex.l0 k (wrap64 (Int.tdiv x0 16)) x1 (((⟨#[48, 49, 50, 51, 52, 53, 54, 55, 56, 57, 97, 98, 99, 100, 101, 102]⟩ : ByteArray).extract ((Int.tmod x0 16) : Int).toNat ((wrap64 ((Int.tmod x0 16) + 1)) : Int).toNat) ++ x5)) else (none)) else (none)) else (none)) else (none)) else (if (x5.size : Int) < x1 then (if 0 ≤ (Int.tmod x0 16) then (if (Int.tmod x0 16) ≤ (wrap64 ((Int.tmod x0 16) + 1)) then (if (wrap64 ((Int.tmod x0 16) + 1)) ≤ 16 then (if ((⟨#[48, 49, 50, 51, 52, 53, 54, 55, 56, 57, 97, 98, 99, 100, 101, 102]⟩ : ByteArray).extract ((Int.tmod x0 16) : Int).toNat ((wrap64 ((Int.tmod x0 16) + 1)) : Int).toNat).size + x5.size ≤ 9223372036854775807 then (redactorref01_hex.l0 k (wrap64 (Int.tdiv x0 16)) x1 (((⟨#[48, 49, 50, 51, 52, 53, 54, 55, 56, 57, 97, 98, 99, 100, 101, 102]⟩ : ByteArray).extract ((Int.tmod x0 16) : Int).toNat ((wrap64 ((Int.tmod x0 16) + 1)) : Int).toNat) ++ x5)) else (none)) else (none)) else (none)) else (none)) else (some x5))
def redactorref01_hex.f (k : Nat) (a0 : Int) (a1 : Int) : Option (ByteArray) := redactorref01_hex.l0 k a0 a1 (⟨#[]⟩ : ByteArray)
theorem redactorref01_hex.mono_l : ∀ k, (∀ y0 y1 y2, LeO (redactorref01_hex.l0 k y0 y1 y2) (redactorref01_hex.l0 (k + 1) y0 y1 y2))
  | 0 => fun _ _ _ r h => by simp [redactorref01_hex.l0] at h
  | k + 1 => by
    have ih0 := redactorref01_hex.mono_l k
    · intro y0 y1 y2
      unfold redactorref01_hex.l0
      repeat' first
      | (with_reducible exact ih0 _ _ _)
      | (with_reducible exact LeO.refl _)
      | (with_reducible exact LeO.none _)
      | (with_reducible refine LeO.ite ?_ ?_)
      | (with_reducible refine LeO.bind ?_ (fun _ => ?_))
      | exact ih0 _ _ _
      | exact LeO.none _
      | refine LeO.ite ?_ ?_
      | refine LeO.bind ?_ (fun _ => ?_)
theorem redactorref01_hex.mono : ∀ a0 a1 k, LeO (redactorref01_hex.f k a0 a1) (redactorref01_hex.f (k + 1) a0 a1) := by
  intro a0 a1 k
  have ih0 := redactorref01_hex.mono_l k
  unfold redactorref01_hex.f
  repeat' first
      | (with_reducible exact ih0 _ _ _)
      | (with_reducible exact LeO.refl _)
      | (with_reducible exact LeO.none _)
      | (with_reducible refine LeO.ite ?_ ?_)
      | (with_reducible refine LeO.bind ?_ (fun _ => ?_))
      | exact ih0 _ _ _
      | exact LeO.none _
      | refine LeO.ite ?_ ?_
      | refine LeO.bind ?_ (fun _ => ?_)
set_option maxHeartbeats 8000000 in
set_option maxRecDepth 100000 in
theorem redactorref01_hex.calls (k : Nat) (a0 : Int) (a1 : Int) (r : ByteArray) (w : World) (h : redactorref01_hex.f k a0 a1 = some r) :
    Calls Tryd.prog 66 #[.int .i64 a0, .int .i64 a1] w fun e w' => e = .returned (.string r) ∧ Drawn0 w w' := by
  have H : (redactorref01_hex.l0 k a0 a1 (⟨#[]⟩ : ByteArray)) = some r := h
  clear h
  have H' := Aside0.mk H
  clear H
  go_enter Tryd.func66, Tryd.ntmps66
  go_wp2
  go_loopg [0, 5] k (fun kq v0 v5 w' => ∃ (x0_1 : Int) (x5_1 : ByteArray), v0 = .int .i64 x0_1 ∧ v5 = .string x5_1 ∧ Aside0 (redactorref01_hex.l0 kq x0_1 a1 x5_1 = some r) ∧ Aside0 (kq ≤ k) ∧ Drawn0 w w')
  case atStart => exact ⟨(a0), ((⟨#[]⟩ : ByteArray)), (by first | rfl | (simp; done) | (simp [*]; done)), (by first | rfl | (simp; done) | (simp [*]; done)), H', ⟨Nat.le_refl _⟩, by repeat (first | exact Drawn0.refl _ | apply Drawn0.step)⟩
  case round =>
    clear H'
    try clear p2
    obtain ⟨x0_1, x5_1, rfl, rfl, HA, HK1, ⟨m1, rfl⟩⟩ := hrel
    cases gk with
    | zero => exact absurd HA.out (by simp [redactorref01_hex.l0])
    | succ k1 =>
      have H := HA.out
      clear HA
      simp only [redactorref01_hex.l0] at H
      by_cases c3 : x0_1 > 0
      · rw [if_pos c3] at H
        have c3b0 : decide (0 < x0_1) = true := decide_eq_true c3
        clear c3
        obtain ⟨ji4, hji4⟩ : ∃ j_ : Int, (Int.tmod x0_1 16) = j_ := ⟨_, rfl⟩
        replace H : (if 0 ≤ (ji4) then (if (ji4) ≤ (wrap64 ((ji4) + 1)) then (if (wrap64 ((ji4) + 1)) ≤ 16 then (if ((⟨#[48, 49, 50, 51, 52, 53, 54, 55, 56, 57, 97, 98, 99, 100, 101, 102]⟩ : ByteArray).extract ((ji4) : Int).toNat ((wrap64 ((ji4) + 1)) : Int).toNat).size + x5_1.size ≤ 9223372036854775807 then (redactorref01_hex.l0 k1 (wrap64 (Int.tdiv x0_1 16)) a1 (((⟨#[48, 49, 50, 51, 52, 53, 54, 55, 56, 57, 97, 98, 99, 100, 101, 102]⟩ : ByteArray).extract ((ji4) : Int).toNat ((wrap64 ((ji4) + 1)) : Int).toNat) ++ x5_1)) else (none)) else (none)) else (none)) else (none)) = some r := by first | (rw [hji4] at H; exact H) | (simp only [hji4] at H ⊢; exact H)
        by_cases c5 : 0 ≤ (ji4)
        · rw [if_pos c5] at H
          have c5b0 := eq_true c5
          have c5b1 : decide (0 ≤ (ji4)) = true := decide_eq_true c5
          clear c5
          by_cases c6 : (ji4) ≤ (wrap64 ((ji4) + 1))
          · rw [if_pos c6] at H
            have c6b0 := eq_true c6
            have c6b1 : decide ((ji4) ≤ (wrap64 ((ji4) + 1))) = true := decide_eq_true c6
            by_cases c7 : (wrap64 ((ji4) + 1)) ≤ 16
            · rw [if_pos c7] at H
              have c7b0 := eq_true c7
              have c7b1 : decide ((wrap64 ((ji4) + 1)) ≤ 16) = true := decide_eq_true c7
              by_cases c8 : ((⟨#[48, 49, 50, 51, 52, 53, 54, 55, 56, 57, 97, 98, 99, 100, 101, 102]⟩ : ByteArray).extract ((ji4) : Int).toNat ((wrap64 ((ji4) + 1)) : Int).toNat).size + x5_1.size ≤ 9223372036854775807
              · rw [if_pos c8] at H
                have c8b0 := eq_true c8
                have c8b1 : decide (((⟨#[48, 49, 50, 51, 52, 53, 54, 55, 56, 57, 97, 98, 99, 100, 101, 102]⟩ : ByteArray).extract ((ji4) : Int).toNat ((wrap64 ((ji4) + 1)) : Int).toNat).size + x5_1.size ≤ 9223372036854775807) = true := decide_eq_true c8
                try have c8b2 : (9223372036854775807 < ((⟨#[48, 49, 50, 51, 52, 53, 54, 55, 56, 57, 97, 98, 99, 100, 101, 102]⟩ : ByteArray).extract ((ji4) : Int).toNat ((wrap64 ((ji4) + 1)) : Int).toNat).size + x5_1.size) = False := eq_false (Nat.not_lt.2 c8)
                have H' := Aside0.mk H
                clear H
                go_wp2
                go_roundg k1
                case measure => have := HK1.out; omega
                case rel => exact ⟨(wrap64 (Int.tdiv x0_1 16)), (((⟨#[48, 49, 50, 51, 52, 53, 54, 55, 56, 57, 97, 98, 99, 100, 101, 102]⟩ : ByteArray).extract ((ji4) : Int).toNat ((wrap64 ((ji4) + 1)) : Int).toNat) ++ x5_1), (by first | rfl | (simp; done) | (simp [*]; done)), (by first | rfl | (simp; done) | (simp only [← hji4] <;> (first | rfl | simp)) | (simp [*]; done)), H', ⟨by have := HK1.out; omega⟩, by repeat (first | exact Drawn0.refl _ | apply Drawn0.step)⟩
              · rw [if_neg c8] at H
                exact absurd H (by simp)
            · rw [if_neg c7] at H
              exact absurd H (by simp)
          · rw [if_neg c6] at H
            exact absurd H (by simp)
        · rw [if_neg c5] at H
          exact absurd H (by simp)
      · rw [if_neg c3] at H
        have c3b0 : decide (0 < x0_1) = false := decide_eq_false c3
        clear c3
        by_cases c9 : (x5_1.size : Int) < a1
        · rw [if_pos c9] at H
          have c9b0 : decide ((x5_1.size : Int) < a1) = true := decide_eq_true c9
          clear c9
          obtain ⟨ji10, hji10⟩ : ∃ j_ : Int, (Int.tmod x0_1 16) = j_ := ⟨_, rfl⟩
          replace H : (if 0 ≤ (ji10) then (if (ji10) ≤ (wrap64 ((ji10) + 1)) then (if (wrap64 ((ji10) + 1)) ≤ 16 then (if ((⟨#[48, 49, 50, 51, 52, 53, 54, 55, 56, 57, 97, 98, 99, 100, 101, 102]⟩ : ByteArray).extract ((ji10) : Int).toNat ((wrap64 ((ji10) + 1)) : Int).toNat).size + x5_1.size ≤ 9223372036854775807 then (redactorref01_hex.l0 k1 (wrap64 (Int.tdiv x0_1 16)) a1 (((⟨#[48, 49, 50, 51, 52, 53, 54, 55, 56, 57, 97, 98, 99, 100, 101, 102]⟩ : ByteArray).extract ((ji10) : Int).toNat ((wrap64 ((ji10) + 1)) : Int).toNat) ++ x5_1)) else (none)) else (none)) else (none)) else (none)) = some r := by first | (rw [hji10] at H; exact H) | (simp only [hji10] at H ⊢; exact H)
          by_cases c11 : 0 ≤ (ji10)
          · rw [if_pos c11] at H
            have c11b0 := eq_true c11
            have c11b1 : decide (0 ≤ (ji10)) = true := decide_eq_true c11
            clear c11
            by_cases c12 : (ji10) ≤ (wrap64 ((ji10) + 1))
            · rw [if_pos c12] at H
              have c12b0 := eq_true c12
              have c12b1 : decide ((ji10) ≤ (wrap64 ((ji10) + 1))) = true := decide_eq_true c12
              by_cases c13 : (wrap64 ((ji10) + 1)) ≤ 16
              · rw [if_pos c13] at H
                have c13b0 := eq_true c13
                have c13b1 : decide ((wrap64 ((ji10) + 1)) ≤ 16) = true := decide_eq_true c13
                by_cases c14 : ((⟨#[48, 49, 50, 51, 52, 53, 54, 55, 56, 57, 97, 98, 99, 100, 101, 102]⟩ : ByteArray).extract ((ji10) : Int).toNat ((wrap64 ((ji10) + 1)) : Int).toNat).size + x5_1.size ≤ 9223372036854775807
                · rw [if_pos c14] at H
                  have c14b0 := eq_true c14
                  have c14b1 : decide (((⟨#[48, 49, 50, 51, 52, 53, 54, 55, 56, 57, 97, 98, 99, 100, 101, 102]⟩ : ByteArray).extract ((ji10) : Int).toNat ((wrap64 ((ji10) + 1)) : Int).toNat).size + x5_1.size ≤ 9223372036854775807) = true := decide_eq_true c14
                  try have c14b2 : (9223372036854775807 < ((⟨#[48, 49, 50, 51, 52, 53, 54, 55, 56, 57, 97, 98, 99, 100, 101, 102]⟩ : ByteArray).extract ((ji10) : Int).toNat ((wrap64 ((ji10) + 1)) : Int).toNat).size + x5_1.size) = False := eq_false (Nat.not_lt.2 c14)
                  have H' := Aside0.mk H
                  clear H
                  go_wp2
                  go_roundg k1
                  case measure => have := HK1.out; omega
                  case rel => exact ⟨(wrap64 (Int.tdiv x0_1 16)), (((⟨#[48, 49, 50, 51, 52, 53, 54, 55, 56, 57, 97, 98, 99, 100, 101, 102]⟩ : ByteArray).extract ((ji10) : Int).toNat ((wrap64 ((ji10) + 1)) : Int).toNat) ++ x5_1), (by first | rfl | (simp; done) | (simp [*]; done)), (by first | rfl | (simp; done) | (simp only [← hji10] <;> (first | rfl | simp)) | (simp [*]; done)), H', ⟨by have := HK1.out; omega⟩, by repeat (first | exact Drawn0.refl _ | apply Drawn0.step)⟩
                · rw [if_neg c14] at H
                  exact absurd H (by simp)
              · rw [if_neg c13] at H
                exact absurd H (by simp)
            · rw [if_neg c12] at H
              exact absurd H (by simp)
          · rw [if_neg c11] at H
            exact absurd H (by simp)
        · rw [if_neg c9] at H
          have c9b0 : decide ((x5_1.size : Int) < a1) = false := decide_eq_false c9
          clear c9
          obtain rfl := Option.some.inj H
          go_wp2
          go_ret
          exact ⟨by first | rfl | (simp; done) | (simp [*]; done), by repeat (first | exact Drawn0.refl _ | apply Drawn0.step)⟩

end Go.Proofs.YtcppmghhijffpaaDoor.X
