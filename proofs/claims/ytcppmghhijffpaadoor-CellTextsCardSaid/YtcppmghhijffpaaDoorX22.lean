-- Written by xprint.py (a program of this claim's author) out of the translation. Not trusted: Lean checks it.
import Derived.Test.YtcppmghhijffpaaDoorX0
import Derived.Test.YtcppmghhijffpaaDoorX5
import Derived.Test.YtcppmghhijffpaaDoorX21
namespace Go.Proofs.YtcppmghhijffpaaDoor.X
open Go.RowKit Go.Proofs.YtcppmghhijffpaaDoorW.PrintWords Go.Proofs.YtcppmghhijffpaaDoorW.PrintLast Go.Proofs.YtcppmghhijffpaaDoorW.PrintMore
attribute [local go_sem] max2_int min2_int max_two min_two max_three min_three max_four min_four   -- for this text's walks alone
set_option linter.unusedVariables false
set_option linter.unusedSimpArgs false

/-! ### redactorref01_Text: function 39 -/
def redactorref01_Text.l0 : Nat → List Int → ByteArray → Int → Option (ByteArray)
  | 0, _, _, _ => none
  | k + 1, x0, x3, x4 => if x4 < (x0.length : Int) then (if 0 ≤ x4 then ((redactorref01_Byte.f (rd x0 x4)).bind fun bt394 => ((redactorref01_Right.f (rd x0 x4)).bind fun t396 => (if t396 = true then (if bt394.2 = true then (if x3.size + 2 ≤ 9223372036854775807 then ((redactorref01_hex.f k (wrap64 (bt394.1)) 2).bind fun t397 => (if (x3 ++ (⟨#[92, 120]⟩ : ByteArray)).size + t397.size ≤ 9223372036854775807 then (redactorref01_Text.l0 k x0 ((x3 ++ (⟨#[92, 120]⟩ : ByteArray)) ++ t397) (wrap64 (x4 + 1))) else (none))) else (none)) else (if (rd x0 x4) = 10 then (if x3.size + 2 ≤ 9223372036854775807 then (redactorref01_Text.l0 k x0 (x3 ++ (⟨#[92, 110]⟩ : ByteArray)) (wrap64 (x4 + 1))) else (none)) else (if (rd x0 x4) = 92 then (if x3.size + 2 ≤ 9223372036854775807 then (redactorref01_Text.l0 k x0 (x3 ++ (⟨#[92, 92]⟩ : ByteArray)) (wrap64 (x4 + 1))) else (none)) else (if (rd x0 x4) ≥ 32 then (if (rd x0 x4) ≤ 126 then ((some (([(rd x0 x4) % 256] : List Int) : List Int)).bind fun y398 => (if x3.size + (strOfNums y398).size ≤ 9223372036854775807 then (redactorref01_Text.l0 k x0 (x3 ++ (strOfNums y398)) (wrap64 (x4 + 1))) else (none))) else (if x3.size + 3 ≤ 9223372036854775807 then ((redactorref01_hex.f k (wrap64 (rd x0 x4)) 1).bind fun t401 => (if (x3 ++ (⟨#[92, 117, 123]⟩ : ByteArray)).size + t401.size ≤ 9223372036854775807 then (if ((x3 ++ (⟨#[92, 117, 123]⟩ : ByteArray)) ++ t401).size + 1 ≤ 9223372036854775807 then (redactorref01_Text.l0 k x0 (((x3 ++ (⟨#[92, 117, 123]⟩ : ByteArray)) ++ t401) ++ (⟨#[125]⟩ : ByteArray)) (wrap64 (x4 + 1))) else (none)) else (none))) else (none))) else (if x3.size + 3 ≤ 9223372036854775807 then ((redactorref01_hex.f k (wrap64 (rd x0 x4)) 1).bind fun t402 => (if (x3 ++ (⟨#[92, 117, 123]⟩ : ByteArray)).size + t402.size ≤ 9223372036854775807 then (if ((x3 ++ (⟨#[92, 117, 123]⟩ : ByteArray)) ++ t402).size + 1 ≤ 9223372036854775807 then (redactorref01_Text.l0 k x0 (((x3 ++ (⟨#[92, 117, 123]⟩ : ByteArray)) ++ t402) ++ (⟨#[125]⟩ : ByteArray)) (wrap64 (x4 + 1))) else (none)) else (none))) else (none)))))) else (if x3.size + 2 ≤ 9223372036854775807 then (redactorref01_Text.l0 k x0 (x3 ++ (⟨#[92, 63]⟩ : ByteArray)) (wrap64 (x4 + 1))) else (none))))) else (none)) else (some x3)
def redactorref01_Text.f (k : Nat) (l0 : List Int) : Option (ByteArray) := redactorref01_Text.l0 k l0 (⟨#[]⟩ : ByteArray) 0
theorem redactorref01_Text.mono_l : ∀ k, (∀ y0 y1 y2, LeO (redactorref01_Text.l0 k y0 y1 y2) (redactorref01_Text.l0 (k + 1) y0 y1 y2))
  | 0 => fun _ _ _ r h => by simp [redactorref01_Text.l0] at h
  | k + 1 => by
    have ih0 := redactorref01_Text.mono_l k
    · intro y0 y1 y2
      unfold redactorref01_Text.l0
      repeat' first
      | (with_reducible exact ih0 _ _ _)
      | (with_reducible exact redactorref01_hex.mono _ _ _)
      | (with_reducible exact LeO.refl _)
      | (with_reducible exact LeO.none _)
      | (with_reducible refine LeO.ite ?_ ?_)
      | (with_reducible refine LeO.bind ?_ (fun _ => ?_))
      | exact ih0 _ _ _
      | exact redactorref01_hex.mono _ _ _
      | exact LeO.none _
      | refine LeO.ite ?_ ?_
      | refine LeO.bind ?_ (fun _ => ?_)
theorem redactorref01_Text.mono : ∀ a0 k, LeO (redactorref01_Text.f k a0) (redactorref01_Text.f (k + 1) a0) := by
  intro a0 k
  have ih0 := redactorref01_Text.mono_l k
  unfold redactorref01_Text.f
  repeat' first
      | (with_reducible exact ih0 _ _ _)
      | (with_reducible exact redactorref01_hex.mono _ _ _)
      | (with_reducible exact LeO.refl _)
      | (with_reducible exact LeO.none _)
      | (with_reducible refine LeO.ite ?_ ?_)
      | (with_reducible refine LeO.bind ?_ (fun _ => ?_))
      | exact ih0 _ _ _
      | exact redactorref01_hex.mono _ _ _
      | exact LeO.none _
      | refine LeO.ite ?_ ?_
      | refine LeO.bind ?_ (fun _ => ?_)
set_option maxHeartbeats 8000000 in
set_option maxRecDepth 100000 in
theorem redactorref01_Text.calls (k : Nat) (A0 : Option Addr) (c0 : Nat) (l0 : List Int) (r : ByteArray) (w : World) (hr0 : Kd.C (Kd.int .i32) w A0 l0.length l0) (hc0 : l0.length ≤ c0) (h : redactorref01_Text.f k l0 = some r) :
    Calls Tryd.prog 39 #[.slice A0 l0.length c0] w fun e w' => e = .returned (.string r) ∧ Below w.heap.size w w' := by
  have HR0 := Aside0.mk hr0
  have HC0 := Aside0.mk hc0
  clear hr0 hc0
  have HB := Aside0.mk (Below.refl w.heap.size w)
  have H : (redactorref01_Text.l0 k l0 (⟨#[]⟩ : ByteArray) 0) = some r := h
  clear h
  have H' := Aside0.mk H
  clear H
  go_enter Tryd.func39, Tryd.ntmps39
  go_wp2
  go_loopg [3, 4] k (fun kq v3 v4 w' => ∃ (x3_1 : ByteArray) (x4_1 : Int), v3 = .string x3_1 ∧ v4 = .int .i64 x4_1 ∧ Aside0 (redactorref01_Text.l0 kq l0 x3_1 x4_1 = some r) ∧ Aside0 (kq ≤ k) ∧ Aside0 (Below w.heap.size w w'))
  case atStart => exact ⟨((⟨#[]⟩ : ByteArray)), (0), (by first | rfl | (simp; done) | (simp [*]; done)), (by first | rfl | (simp; done) | (simp [*]; done)), H', ⟨Nat.le_refl _⟩, ⟨by repeat (first | (with_reducible first | exact HB.out | apply below_alloc | apply pw_below_drewN | apply below_drew1) | exact HB.out)⟩⟩
  case round =>
    clear H'
    obtain ⟨x3_1, x4_1, rfl, rfl, HA, HK1, HB⟩ := hrel
    cases gk with
    | zero => exact absurd HA.out (by simp [redactorref01_Text.l0])
    | succ k1 =>
      have H := HA.out
      clear HA
      simp only [redactorref01_Text.l0] at H
      by_cases c2 : x4_1 < (l0.length : Int)
      · rw [if_pos c2] at H
        have c2b0 : decide (x4_1 < (l0.length : Int)) = true := decide_eq_true c2
        clear c2
        by_cases c3 : 0 ≤ x4_1
        · rw [if_pos c3] at H
          have c3b0 : decide (0 ≤ x4_1) = true := decide_eq_true c3
          clear c3
          replace H := Option.bind_eq_some_iff.mp H
          obtain ⟨⟨t394, t395⟩, A40, H⟩ := H
          replace H : ((redactorref01_Right.f (rd l0 x4_1)).bind fun t396 => (if t396 = true then (if t395 = true then (if x3_1.size + 2 ≤ 9223372036854775807 then ((redactorref01_hex.f k1 (wrap64 (t394)) 2).bind fun t397 => (if (x3_1 ++ (⟨#[92, 120]⟩ : ByteArray)).size + t397.size ≤ 9223372036854775807 then (redactorref01_Text.l0 k1 l0 ((x3_1 ++ (⟨#[92, 120]⟩ : ByteArray)) ++ t397) (wrap64 (x4_1 + 1))) else (none))) else (none)) else (if (rd l0 x4_1) = 10 then (if x3_1.size + 2 ≤ 9223372036854775807 then (redactorref01_Text.l0 k1 l0 (x3_1 ++ (⟨#[92, 110]⟩ : ByteArray)) (wrap64 (x4_1 + 1))) else (none)) else (if (rd l0 x4_1) = 92 then (if x3_1.size + 2 ≤ 9223372036854775807 then (redactorref01_Text.l0 k1 l0 (x3_1 ++ (⟨#[92, 92]⟩ : ByteArray)) (wrap64 (x4_1 + 1))) else (none)) else (if (rd l0 x4_1) ≥ 32 then (if (rd l0 x4_1) ≤ 126 then ((some (([(rd l0 x4_1) % 256] : List Int) : List Int)).bind fun y398 => (if x3_1.size + (strOfNums y398).size ≤ 9223372036854775807 then (redactorref01_Text.l0 k1 l0 (x3_1 ++ (strOfNums y398)) (wrap64 (x4_1 + 1))) else (none))) else (if x3_1.size + 3 ≤ 9223372036854775807 then ((redactorref01_hex.f k1 (wrap64 (rd l0 x4_1)) 1).bind fun t401 => (if (x3_1 ++ (⟨#[92, 117, 123]⟩ : ByteArray)).size + t401.size ≤ 9223372036854775807 then (if ((x3_1 ++ (⟨#[92, 117, 123]⟩ : ByteArray)) ++ t401).size + 1 ≤ 9223372036854775807 then (redactorref01_Text.l0 k1 l0 (((x3_1 ++ (⟨#[92, 117, 123]⟩ : ByteArray)) ++ t401) ++ (⟨#[125]⟩ : ByteArray)) (wrap64 (x4_1 + 1))) else (none)) else (none))) else (none))) else (if x3_1.size + 3 ≤ 9223372036854775807 then ((redactorref01_hex.f k1 (wrap64 (rd l0 x4_1)) 1).bind fun t402 => (if (x3_1 ++ (⟨#[92, 117, 123]⟩ : ByteArray)).size + t402.size ≤ 9223372036854775807 then (if ((x3_1 ++ (⟨#[92, 117, 123]⟩ : ByteArray)) ++ t402).size + 1 ≤ 9223372036854775807 then (redactorref01_Text.l0 k1 l0 (((x3_1 ++ (⟨#[92, 117, 123]⟩ : ByteArray)) ++ t402) ++ (⟨#[125]⟩ : ByteArray)) (wrap64 (x4_1 + 1))) else (none)) else (none))) else (none)))))) else (if x3_1.size + 2 ≤ 9223372036854775807 then (redactorref01_Text.l0 k1 l0 (x3_1 ++ (⟨#[92, 63]⟩ : ByteArray)) (wrap64 (x4_1 + 1))) else (none)))) = some r := H
          have A4 := Aside0.mk A40
          clear A40
          replace H := Option.bind_eq_some_iff.mp H
          obtain ⟨t396, A50, H⟩ := H
          replace H : (if t396 = true then (if t395 = true then (if x3_1.size + 2 ≤ 9223372036854775807 then ((redactorref01_hex.f k1 (wrap64 (t394)) 2).bind fun t397 => (if (x3_1 ++ (⟨#[92, 120]⟩ : ByteArray)).size + t397.size ≤ 9223372036854775807 then (redactorref01_Text.l0 k1 l0 ((x3_1 ++ (⟨#[92, 120]⟩ : ByteArray)) ++ t397) (wrap64 (x4_1 + 1))) else (none))) else (none)) else (if (rd l0 x4_1) = 10 then (if x3_1.size + 2 ≤ 9223372036854775807 then (redactorref01_Text.l0 k1 l0 (x3_1 ++ (⟨#[92, 110]⟩ : ByteArray)) (wrap64 (x4_1 + 1))) else (none)) else (if (rd l0 x4_1) = 92 then (if x3_1.size + 2 ≤ 9223372036854775807 then (redactorref01_Text.l0 k1 l0 (x3_1 ++ (⟨#[92, 92]⟩ : ByteArray)) (wrap64 (x4_1 + 1))) else (none)) else (if (rd l0 x4_1) ≥ 32 then (if (rd l0 x4_1) ≤ 126 then ((some (([(rd l0 x4_1) % 256] : List Int) : List Int)).bind fun y398 => (if x3_1.size + (strOfNums y398).size ≤ 9223372036854775807 then (redactorref01_Text.l0 k1 l0 (x3_1 ++ (strOfNums y398)) (wrap64 (x4_1 + 1))) else (none))) else (if x3_1.size + 3 ≤ 9223372036854775807 then ((redactorref01_hex.f k1 (wrap64 (rd l0 x4_1)) 1).bind fun t401 => (if (x3_1 ++ (⟨#[92, 117, 123]⟩ : ByteArray)).size + t401.size ≤ 9223372036854775807 then (if ((x3_1 ++ (⟨#[92, 117, 123]⟩ : ByteArray)) ++ t401).size + 1 ≤ 9223372036854775807 then (redactorref01_Text.l0 k1 l0 (((x3_1 ++ (⟨#[92, 117, 123]⟩ : ByteArray)) ++ t401) ++ (⟨#[125]⟩ : ByteArray)) (wrap64 (x4_1 + 1))) else (none)) else (none))) else (none))) else (if x3_1.size + 3 ≤ 9223372036854775807 then ((redactorref01_hex.f k1 (wrap64 (rd l0 x4_1)) 1).bind fun t402 => (if (x3_1 ++ (⟨#[92, 117, 123]⟩ : ByteArray)).size + t402.size ≤ 9223372036854775807 then (if ((x3_1 ++ (⟨#[92, 117, 123]⟩ : ByteArray)) ++ t402).size + 1 ≤ 9223372036854775807 then (redactorref01_Text.l0 k1 l0 (((x3_1 ++ (⟨#[92, 117, 123]⟩ : ByteArray)) ++ t402) ++ (⟨#[125]⟩ : ByteArray)) (wrap64 (x4_1 + 1))) else (none)) else (none))) else (none)))))) else (if x3_1.size + 2 ≤ 9223372036854775807 then (redactorref01_Text.l0 k1 l0 (x3_1 ++ (⟨#[92, 63]⟩ : ByteArray)) (wrap64 (x4_1 + 1))) else (none))) = some r := H
          have A5 := Aside0.mk A50
          clear A50
          by_cases c6 : t396 = true
          · subst c6
            have H1 : (if t395 = true then (if x3_1.size + 2 ≤ 9223372036854775807 then ((redactorref01_hex.f k1 (wrap64 (t394)) 2).bind fun t397 => (if (x3_1 ++ (⟨#[92, 120]⟩ : ByteArray)).size + t397.size ≤ 9223372036854775807 then (redactorref01_Text.l0 k1 l0 ((x3_1 ++ (⟨#[92, 120]⟩ : ByteArray)) ++ t397) (wrap64 (x4_1 + 1))) else (none))) else (none)) else (if (rd l0 x4_1) = 10 then (if x3_1.size + 2 ≤ 9223372036854775807 then (redactorref01_Text.l0 k1 l0 (x3_1 ++ (⟨#[92, 110]⟩ : ByteArray)) (wrap64 (x4_1 + 1))) else (none)) else (if (rd l0 x4_1) = 92 then (if x3_1.size + 2 ≤ 9223372036854775807 then (redactorref01_Text.l0 k1 l0 (x3_1 ++ (⟨#[92, 92]⟩ : ByteArray)) (wrap64 (x4_1 + 1))) else (none)) else (if (rd l0 x4_1) ≥ 32 then (if (rd l0 x4_1) ≤ 126 then ((some (([(rd l0 x4_1) % 256] : List Int) : List Int)).bind fun y398 => (if x3_1.size + (strOfNums y398).size ≤ 9223372036854775807 then (redactorref01_Text.l0 k1 l0 (x3_1 ++ (strOfNums y398)) (wrap64 (x4_1 + 1))) else (none))) else (if x3_1.size + 3 ≤ 9223372036854775807 then ((redactorref01_hex.f k1 (wrap64 (rd l0 x4_1)) 1).bind fun t401 => (if (x3_1 ++ (⟨#[92, 117, 123]⟩ : ByteArray)).size + t401.size ≤ 9223372036854775807 then (if ((x3_1 ++ (⟨#[92, 117, 123]⟩ : ByteArray)) ++ t401).size + 1 ≤ 9223372036854775807 then (redactorref01_Text.l0 k1 l0 (((x3_1 ++ (⟨#[92, 117, 123]⟩ : ByteArray)) ++ t401) ++ (⟨#[125]⟩ : ByteArray)) (wrap64 (x4_1 + 1))) else (none)) else (none))) else (none))) else (if x3_1.size + 3 ≤ 9223372036854775807 then ((redactorref01_hex.f k1 (wrap64 (rd l0 x4_1)) 1).bind fun t402 => (if (x3_1 ++ (⟨#[92, 117, 123]⟩ : ByteArray)).size + t402.size ≤ 9223372036854775807 then (if ((x3_1 ++ (⟨#[92, 117, 123]⟩ : ByteArray)) ++ t402).size + 1 ≤ 9223372036854775807 then (redactorref01_Text.l0 k1 l0 (((x3_1 ++ (⟨#[92, 117, 123]⟩ : ByteArray)) ++ t402) ++ (⟨#[125]⟩ : ByteArray)) (wrap64 (x4_1 + 1))) else (none)) else (none))) else (none)))))) = some r := by rw [if_pos rfl] at H; exact H
            clear H
            have H := H1
            clear H1
            by_cases c7 : t395 = true
            · subst c7
              have H1 : (if x3_1.size + 2 ≤ 9223372036854775807 then ((redactorref01_hex.f k1 (wrap64 (t394)) 2).bind fun t397 => (if (x3_1 ++ (⟨#[92, 120]⟩ : ByteArray)).size + t397.size ≤ 9223372036854775807 then (redactorref01_Text.l0 k1 l0 ((x3_1 ++ (⟨#[92, 120]⟩ : ByteArray)) ++ t397) (wrap64 (x4_1 + 1))) else (none))) else (none)) = some r := by rw [if_pos rfl] at H; exact H
              clear H
              have H := H1
              clear H1
              by_cases c8 : x3_1.size + 2 ≤ 9223372036854775807
              · rw [if_pos c8] at H
                have c8b0 := eq_true c8
                have c8b1 : decide (x3_1.size + 2 ≤ 9223372036854775807) = true := decide_eq_true c8
                try have c8b2 : (9223372036854775807 < x3_1.size + 2) = False := eq_false (Nat.not_lt.2 c8)
                replace H := Option.bind_eq_some_iff.mp H
                obtain ⟨t397, A90, H⟩ := H
                replace H : (if (x3_1 ++ (⟨#[92, 120]⟩ : ByteArray)).size + t397.size ≤ 9223372036854775807 then (redactorref01_Text.l0 k1 l0 ((x3_1 ++ (⟨#[92, 120]⟩ : ByteArray)) ++ t397) (wrap64 (x4_1 + 1))) else (none)) = some r := H
                have A9 := Aside0.mk A90
                clear A90
                by_cases c10 : (x3_1 ++ (⟨#[92, 120]⟩ : ByteArray)).size + t397.size ≤ 9223372036854775807
                · rw [if_pos c10] at H
                  have c10b0 := eq_true c10
                  have c10b1 : decide ((x3_1 ++ (⟨#[92, 120]⟩ : ByteArray)).size + t397.size ≤ 9223372036854775807) = true := decide_eq_true c10
                  try have c10b2 : (9223372036854775807 < (x3_1 ++ (⟨#[92, 120]⟩ : ByteArray)).size + t397.size) = False := eq_false (Nat.not_lt.2 c10)
                  (try have c10b4 : (9223372036854775807 < x3_1.size + 2 + t397.size) = False := eq_false (Nat.not_lt.2 (show x3_1.size + 2 + t397.size ≤ 9223372036854775807 from (by have h_ := c10; simp only [ByteArray.size_append] at h_; have e0_ : (⟨#[92, 120]⟩ : ByteArray).size = 2 := rfl; omega))))
                  (try have c10b5 : (x3_1.size + 2 + t397.size ≤ 9223372036854775807) = True := eq_true (by have h_ := c10; simp only [ByteArray.size_append] at h_; have e0_ : (⟨#[92, 120]⟩ : ByteArray).size = 2 := rfl; omega))
                  have H' := Aside0.mk H
                  clear H
                  have p393 : 0 ≤ (x4_1 : Int) := of_decide_eq_true (by first | (with_reducible assumption) | assumption)
                  have q393 : x4_1 < (l0.length : Int) := of_decide_eq_true (by first | (with_reducible assumption) | assumption)
                  obtain ⟨ad393, e393, hx393_0⟩ := Kd.at_int HR0.out x4_1 p393 q393
                  cases e393
                  replace hx393_0 := (HB.out.cell (World.block_lt_of_cell? w _ hx393_0)).trans hx393_0
                  replace p393 := eq_true p393
                  replace q393 := eq_true q393
                  go_wp2_with (first | ((with_reducible refine gate_callee (f := 33) rfl ?_); refine goesL_ (some 20) rfl rfl Tryd.func33 (by kernel_rfl) rfl #[.int .i32 (rd l0 x4_1)] rfl (by (try simp only [List.map_toArray, List.map_cons, List.map_nil]); first | done | rfl | (simp only [List.length_drop, List.length_take]; rfl)) ?_; (with_reducible refine (redactorref01_Byte.calls (rd l0 x4_1) t394 true _ A4.out).mono ?_); rintro e w' ⟨rfl, ⟨nd, rfl⟩⟩; refine ⟨_, rfl, ?_⟩) | ((with_reducible refine gate_callee (f := 36) rfl ?_); refine goesL_ (some 32) rfl rfl Tryd.func36 (by kernel_rfl) rfl #[.int .i32 (rd l0 x4_1)] rfl (by (try simp only [List.map_toArray, List.map_cons, List.map_nil]); first | done | rfl | (simp only [List.length_drop, List.length_take]; rfl)) ?_; (with_reducible refine (redactorref01_Right.calls (rd l0 x4_1) true _ A5.out).mono ?_); rintro e w' ⟨rfl, ⟨nd, rfl⟩⟩; refine ⟨_, rfl, ?_⟩) | ((with_reducible refine gate_callee (f := 66) rfl ?_); refine goesL_ (some 42) rfl rfl Tryd.func66 (by kernel_rfl) rfl #[.int .i64 (wrap64 (t394)), .int .i64 2] rfl (by (try simp only [List.map_toArray, List.map_cons, List.map_nil]); first | done | rfl | (simp only [List.length_drop, List.length_take]; rfl)) ?_; (with_reducible refine (redactorref01_hex.calls k1 (wrap64 (t394)) 2 t397 _ A9.out).mono ?_); rintro e w' ⟨rfl, ⟨nd, rfl⟩⟩; refine ⟨_, rfl, ?_⟩))
                  go_roundg k1
                  case measure => have := HK1.out; omega
                  case rel => exact ⟨((x3_1 ++ (⟨#[92, 120]⟩ : ByteArray)) ++ t397), (wrap64 (x4_1 + 1)), (by first | rfl | (simp; done) | (simp [*]; done)), (by first | rfl | (simp; done) | (simp [*]; done)), H', ⟨by have := HK1.out; omega⟩, ⟨by repeat (first | (with_reducible first | exact HB.out | apply below_alloc | apply pw_below_drewN | apply below_drew1) | exact HB.out)⟩⟩
                · rw [if_neg c10] at H
                  exact absurd H (by simp)
              · rw [if_neg c8] at H
                exact absurd H (by simp)
            · replace c7 := Bool.eq_false_iff.mpr c7
              subst c7
              have H1 : (if (rd l0 x4_1) = 10 then (if x3_1.size + 2 ≤ 9223372036854775807 then (redactorref01_Text.l0 k1 l0 (x3_1 ++ (⟨#[92, 110]⟩ : ByteArray)) (wrap64 (x4_1 + 1))) else (none)) else (if (rd l0 x4_1) = 92 then (if x3_1.size + 2 ≤ 9223372036854775807 then (redactorref01_Text.l0 k1 l0 (x3_1 ++ (⟨#[92, 92]⟩ : ByteArray)) (wrap64 (x4_1 + 1))) else (none)) else (if (rd l0 x4_1) ≥ 32 then (if (rd l0 x4_1) ≤ 126 then ((some (([(rd l0 x4_1) % 256] : List Int) : List Int)).bind fun y398 => (if x3_1.size + (strOfNums y398).size ≤ 9223372036854775807 then (redactorref01_Text.l0 k1 l0 (x3_1 ++ (strOfNums y398)) (wrap64 (x4_1 + 1))) else (none))) else (if x3_1.size + 3 ≤ 9223372036854775807 then ((redactorref01_hex.f k1 (wrap64 (rd l0 x4_1)) 1).bind fun t401 => (if (x3_1 ++ (⟨#[92, 117, 123]⟩ : ByteArray)).size + t401.size ≤ 9223372036854775807 then (if ((x3_1 ++ (⟨#[92, 117, 123]⟩ : ByteArray)) ++ t401).size + 1 ≤ 9223372036854775807 then (redactorref01_Text.l0 k1 l0 (((x3_1 ++ (⟨#[92, 117, 123]⟩ : ByteArray)) ++ t401) ++ (⟨#[125]⟩ : ByteArray)) (wrap64 (x4_1 + 1))) else (none)) else (none))) else (none))) else (if x3_1.size + 3 ≤ 9223372036854775807 then ((redactorref01_hex.f k1 (wrap64 (rd l0 x4_1)) 1).bind fun t402 => (if (x3_1 ++ (⟨#[92, 117, 123]⟩ : ByteArray)).size + t402.size ≤ 9223372036854775807 then (if ((x3_1 ++ (⟨#[92, 117, 123]⟩ : ByteArray)) ++ t402).size + 1 ≤ 9223372036854775807 then (redactorref01_Text.l0 k1 l0 (((x3_1 ++ (⟨#[92, 117, 123]⟩ : ByteArray)) ++ t402) ++ (⟨#[125]⟩ : ByteArray)) (wrap64 (x4_1 + 1))) else (none)) else (none))) else (none))))) = some r := by rw [if_neg (show ¬ (false = true) by decide)] at H; exact H
              clear H
              have H := H1
              clear H1
              by_cases c11 : (rd l0 x4_1) = 10
              · rw [if_pos c11] at H
                have c11b0 : ((rd l0 x4_1) == 10) = true := beq_iff_eq.mpr c11
                have c11b1 : ((rd l0 x4_1) != 10) = false := bne_eq_false_iff_eq.mpr c11
                clear c11
                by_cases c12 : x3_1.size + 2 ≤ 9223372036854775807
                · rw [if_pos c12] at H
                  have c12b0 := eq_true c12
                  have c12b1 : decide (x3_1.size + 2 ≤ 9223372036854775807) = true := decide_eq_true c12
                  try have c12b2 : (9223372036854775807 < x3_1.size + 2) = False := eq_false (Nat.not_lt.2 c12)
                  have H' := Aside0.mk H
                  clear H
                  have p393 : 0 ≤ (x4_1 : Int) := of_decide_eq_true (by first | (with_reducible assumption) | assumption)
                  have q393 : x4_1 < (l0.length : Int) := of_decide_eq_true (by first | (with_reducible assumption) | assumption)
                  obtain ⟨ad393, e393, hx393_0⟩ := Kd.at_int HR0.out x4_1 p393 q393
                  cases e393
                  replace hx393_0 := (HB.out.cell (World.block_lt_of_cell? w _ hx393_0)).trans hx393_0
                  replace p393 := eq_true p393
                  replace q393 := eq_true q393
                  go_wp2_with (first | ((with_reducible refine gate_callee (f := 33) rfl ?_); refine goesL_ (some 20) rfl rfl Tryd.func33 (by kernel_rfl) rfl #[.int .i32 (rd l0 x4_1)] rfl (by (try simp only [List.map_toArray, List.map_cons, List.map_nil]); first | done | rfl | (simp only [List.length_drop, List.length_take]; rfl)) ?_; (with_reducible refine (redactorref01_Byte.calls (rd l0 x4_1) t394 false _ A4.out).mono ?_); rintro e w' ⟨rfl, ⟨nd, rfl⟩⟩; refine ⟨_, rfl, ?_⟩) | ((with_reducible refine gate_callee (f := 36) rfl ?_); refine goesL_ (some 32) rfl rfl Tryd.func36 (by kernel_rfl) rfl #[.int .i32 (rd l0 x4_1)] rfl (by (try simp only [List.map_toArray, List.map_cons, List.map_nil]); first | done | rfl | (simp only [List.length_drop, List.length_take]; rfl)) ?_; (with_reducible refine (redactorref01_Right.calls (rd l0 x4_1) true _ A5.out).mono ?_); rintro e w' ⟨rfl, ⟨nd, rfl⟩⟩; refine ⟨_, rfl, ?_⟩))
                  go_roundg k1
                  case measure => have := HK1.out; omega
                  case rel => exact ⟨(x3_1 ++ (⟨#[92, 110]⟩ : ByteArray)), (wrap64 (x4_1 + 1)), (by first | rfl | (simp; done) | (simp [*]; done)), (by first | rfl | (simp; done) | (simp [*]; done)), H', ⟨by have := HK1.out; omega⟩, ⟨by repeat (first | (with_reducible first | exact HB.out | apply below_alloc | apply pw_below_drewN | apply below_drew1) | exact HB.out)⟩⟩
                · rw [if_neg c12] at H
                  exact absurd H (by simp)
              · rw [if_neg c11] at H
                have c11b0 : ((rd l0 x4_1) == 10) = false := beq_eq_false_iff_ne.mpr c11
                have c11b1 : ((rd l0 x4_1) != 10) = true := bne_iff_ne.mpr c11
                by_cases c13 : (rd l0 x4_1) = 92
                · rw [if_pos c13] at H
                  have c13b0 : ((rd l0 x4_1) == 92) = true := beq_iff_eq.mpr c13
                  have c13b1 : ((rd l0 x4_1) != 92) = false := bne_eq_false_iff_eq.mpr c13
                  clear c13
                  by_cases c14 : x3_1.size + 2 ≤ 9223372036854775807
                  · rw [if_pos c14] at H
                    have c14b0 := eq_true c14
                    have c14b1 : decide (x3_1.size + 2 ≤ 9223372036854775807) = true := decide_eq_true c14
                    try have c14b2 : (9223372036854775807 < x3_1.size + 2) = False := eq_false (Nat.not_lt.2 c14)
                    have H' := Aside0.mk H
                    clear H
                    have p393 : 0 ≤ (x4_1 : Int) := of_decide_eq_true (by first | (with_reducible assumption) | assumption)
                    have q393 : x4_1 < (l0.length : Int) := of_decide_eq_true (by first | (with_reducible assumption) | assumption)
                    obtain ⟨ad393, e393, hx393_0⟩ := Kd.at_int HR0.out x4_1 p393 q393
                    cases e393
                    replace hx393_0 := (HB.out.cell (World.block_lt_of_cell? w _ hx393_0)).trans hx393_0
                    replace p393 := eq_true p393
                    replace q393 := eq_true q393
                    go_wp2_with (first | ((with_reducible refine gate_callee (f := 33) rfl ?_); refine goesL_ (some 20) rfl rfl Tryd.func33 (by kernel_rfl) rfl #[.int .i32 (rd l0 x4_1)] rfl (by (try simp only [List.map_toArray, List.map_cons, List.map_nil]); first | done | rfl | (simp only [List.length_drop, List.length_take]; rfl)) ?_; (with_reducible refine (redactorref01_Byte.calls (rd l0 x4_1) t394 false _ A4.out).mono ?_); rintro e w' ⟨rfl, ⟨nd, rfl⟩⟩; refine ⟨_, rfl, ?_⟩) | ((with_reducible refine gate_callee (f := 36) rfl ?_); refine goesL_ (some 32) rfl rfl Tryd.func36 (by kernel_rfl) rfl #[.int .i32 (rd l0 x4_1)] rfl (by (try simp only [List.map_toArray, List.map_cons, List.map_nil]); first | done | rfl | (simp only [List.length_drop, List.length_take]; rfl)) ?_; (with_reducible refine (redactorref01_Right.calls (rd l0 x4_1) true _ A5.out).mono ?_); rintro e w' ⟨rfl, ⟨nd, rfl⟩⟩; refine ⟨_, rfl, ?_⟩))
                    go_roundg k1
                    case measure => have := HK1.out; omega
                    case rel => exact ⟨(x3_1 ++ (⟨#[92, 92]⟩ : ByteArray)), (wrap64 (x4_1 + 1)), (by first | rfl | (simp; done) | (simp [*]; done)), (by first | rfl | (simp; done) | (simp [*]; done)), H', ⟨by have := HK1.out; omega⟩, ⟨by repeat (first | (with_reducible first | exact HB.out | apply below_alloc | apply pw_below_drewN | apply below_drew1) | exact HB.out)⟩⟩
                  · rw [if_neg c14] at H
                    exact absurd H (by simp)
                · rw [if_neg c13] at H
                  have c13b0 : ((rd l0 x4_1) == 92) = false := beq_eq_false_iff_ne.mpr c13
                  have c13b1 : ((rd l0 x4_1) != 92) = true := bne_iff_ne.mpr c13
                  by_cases c15 : (rd l0 x4_1) ≥ 32
                  · rw [if_pos c15] at H
                    have c15b0 : decide (32 ≤ (rd l0 x4_1)) = true := decide_eq_true c15
                    clear c15
                    by_cases c16 : (rd l0 x4_1) ≤ 126
                    · rw [if_pos c16] at H
                      have c16b0 : decide ((rd l0 x4_1) ≤ 126) = true := decide_eq_true c16
                      clear c16
                      obtain ⟨y398, hy398⟩ : ∃ y_ : List Int, y_ = (([(rd l0 x4_1) % 256] : List Int)) := ⟨_, rfl⟩
                      replace H : (if x3_1.size + (strOfNums y398).size ≤ 9223372036854775807 then (redactorref01_Text.l0 k1 l0 (x3_1 ++ (strOfNums y398)) (wrap64 (x4_1 + 1))) else (none)) = some r := by first | (rw [hy398]; with_reducible exact H) | (have H2_ := (Option.bind_some _ _).symm.trans H; rw [hy398]; with_reducible exact H2_) | (have H2_ := (Option.bind_some _ _).symm.trans H; with_reducible exact H2_) | with_reducible exact H | (rw [hy398]; exact H) | exact H
                      have Ny398 := Aside0.mk hy398
                      clear hy398
                      by_cases c17 : x3_1.size + (strOfNums y398).size ≤ 9223372036854775807
                      · rw [if_pos c17] at H
                        have c17b0 := eq_true c17
                        have c17b1 : decide (x3_1.size + (strOfNums y398).size ≤ 9223372036854775807) = true := decide_eq_true c17
                        try have c17b2 : (9223372036854775807 < x3_1.size + (strOfNums y398).size) = False := eq_false (Nat.not_lt.2 c17)
                        have H' := Aside0.mk H
                        clear H
                        have p393 : 0 ≤ (x4_1 : Int) := of_decide_eq_true (by first | (with_reducible assumption) | assumption)
                        have q393 : x4_1 < (l0.length : Int) := of_decide_eq_true (by first | (with_reducible assumption) | assumption)
                        obtain ⟨ad393, e393, hx393_0⟩ := Kd.at_int HR0.out x4_1 p393 q393
                        cases e393
                        replace hx393_0 := (HB.out.cell (World.block_lt_of_cell? w _ hx393_0)).trans hx393_0
                        replace p393 := eq_true p393
                        replace q393 := eq_true q393
                        go_wp2_with (first | ((with_reducible refine gate_callee (f := 33) rfl ?_); refine goesL_ (some 20) rfl rfl Tryd.func33 (by kernel_rfl) rfl #[.int .i32 (rd l0 x4_1)] rfl (by (try simp only [List.map_toArray, List.map_cons, List.map_nil]); first | done | rfl | (simp only [List.length_drop, List.length_take]; rfl)) ?_; (with_reducible refine (redactorref01_Byte.calls (rd l0 x4_1) t394 false _ A4.out).mono ?_); rintro e w' ⟨rfl, ⟨nd, rfl⟩⟩; refine ⟨_, rfl, ?_⟩) | ((with_reducible refine gate_callee (f := 36) rfl ?_); refine goesL_ (some 32) rfl rfl Tryd.func36 (by kernel_rfl) rfl #[.int .i32 (rd l0 x4_1)] rfl (by (try simp only [List.map_toArray, List.map_cons, List.map_nil]); first | done | rfl | (simp only [List.length_drop, List.length_take]; rfl)) ?_; (with_reducible refine (redactorref01_Right.calls (rd l0 x4_1) true _ A5.out).mono ?_); rintro e w' ⟨rfl, ⟨nd, rfl⟩⟩; refine ⟨_, rfl, ?_⟩) | ((with_reducible refine gate_dst (N := 64) rfl ?_); refine Kd.R_lit (Kd.int .u8) _ 5 ?hg (N := 64) ?hd (xs := ([(rd l0 x4_1) % 256] : List Int)) (inner := [.int .u8 ((rd l0 x4_1) % 256)]) (ok := fun _ => True) (okp := fun _ => True) ?hr ?hp (fun _ hk => hk) trivial (Below.refl _ _) (Nat.le_refl _) (by simp) ?_; (case hd => rfl); (case hg => rfl); (case hr => first | (go_simp; done) | (go_simp; rfl)); (case hp => exact (Reps.one (show Kd.M (Kd.int .u8) _ _ _ ((rd l0 x4_1) % 256) [.int .u8 ((rd l0 x4_1) % 256)] from rfl) (Reps.none _ _))); intro v399 w18 ho19 hb hg_ hnew_; clear hg_ hnew_; (first | rw [← Ny398.out] at ho19 | (simp only [Int.reduceToNat] at ho19; rw [← Ny398.out] at ho19)); have n0_ := Aside0.mk (Kd.R_lower ho19 (below_size (by repeat (first | (with_reducible first | exact HB.out | apply below_alloc | apply pw_below_drewN | apply below_drew1) | exact HB.out)))); have n1_ := Aside0.mk (below_step (by repeat (first | (with_reducible first | exact HB.out | apply below_alloc | apply pw_below_drewN | apply below_drew1) | exact HB.out)) hb); clear HB; have HO400 := n0_; have HB := n1_; clear n0_ n1_; clear hb ho19; have hcv20 := own_string (P := Tryd.prog) Tryd.underlying22 Tryd.underlying5 Tryd.underlying9 (Kd.own_of_R HO400.out)))
                        go_roundg k1
                        case measure => have := HK1.out; omega
                        case rel => exact ⟨(x3_1 ++ (strOfNums y398)), (wrap64 (x4_1 + 1)), (by first | rfl | (simp; done) | (simp [*]; done)), (by first | rfl | (simp; done) | (simp [*]; done)), H', ⟨by have := HK1.out; omega⟩, ⟨by repeat (first | (with_reducible first | exact HB.out | apply below_alloc | apply pw_below_drewN | apply below_drew1) | exact HB.out)⟩⟩
                      · rw [if_neg c17] at H
                        exact absurd H (by simp)
                    · rw [if_neg c16] at H
                      have c16b0 : decide ((rd l0 x4_1) ≤ 126) = false := decide_eq_false c16
                      clear c16
                      by_cases c21 : x3_1.size + 3 ≤ 9223372036854775807
                      · rw [if_pos c21] at H
                        have c21b0 := eq_true c21
                        have c21b1 : decide (x3_1.size + 3 ≤ 9223372036854775807) = true := decide_eq_true c21
                        try have c21b2 : (9223372036854775807 < x3_1.size + 3) = False := eq_false (Nat.not_lt.2 c21)
                        replace H := Option.bind_eq_some_iff.mp H
                        obtain ⟨t401, A220, H⟩ := H
                        replace H : (if (x3_1 ++ (⟨#[92, 117, 123]⟩ : ByteArray)).size + t401.size ≤ 9223372036854775807 then (if ((x3_1 ++ (⟨#[92, 117, 123]⟩ : ByteArray)) ++ t401).size + 1 ≤ 9223372036854775807 then (redactorref01_Text.l0 k1 l0 (((x3_1 ++ (⟨#[92, 117, 123]⟩ : ByteArray)) ++ t401) ++ (⟨#[125]⟩ : ByteArray)) (wrap64 (x4_1 + 1))) else (none)) else (none)) = some r := H
                        have A22 := Aside0.mk A220
                        clear A220
                        by_cases c23 : (x3_1 ++ (⟨#[92, 117, 123]⟩ : ByteArray)).size + t401.size ≤ 9223372036854775807
                        · rw [if_pos c23] at H
                          have c23b0 := eq_true c23
                          have c23b1 : decide ((x3_1 ++ (⟨#[92, 117, 123]⟩ : ByteArray)).size + t401.size ≤ 9223372036854775807) = true := decide_eq_true c23
                          try have c23b2 : (9223372036854775807 < (x3_1 ++ (⟨#[92, 117, 123]⟩ : ByteArray)).size + t401.size) = False := eq_false (Nat.not_lt.2 c23)
                          (try have c23b4 : (9223372036854775807 < x3_1.size + 3 + t401.size) = False := eq_false (Nat.not_lt.2 (show x3_1.size + 3 + t401.size ≤ 9223372036854775807 from (by have h_ := c23; simp only [ByteArray.size_append] at h_; have e0_ : (⟨#[92, 117, 123]⟩ : ByteArray).size = 3 := rfl; omega))))
                          (try have c23b5 : (x3_1.size + 3 + t401.size ≤ 9223372036854775807) = True := eq_true (by have h_ := c23; simp only [ByteArray.size_append] at h_; have e0_ : (⟨#[92, 117, 123]⟩ : ByteArray).size = 3 := rfl; omega))
                          by_cases c24 : ((x3_1 ++ (⟨#[92, 117, 123]⟩ : ByteArray)) ++ t401).size + 1 ≤ 9223372036854775807
                          · rw [if_pos c24] at H
                            have c24b0 := eq_true c24
                            have c24b1 : decide (((x3_1 ++ (⟨#[92, 117, 123]⟩ : ByteArray)) ++ t401).size + 1 ≤ 9223372036854775807) = true := decide_eq_true c24
                            try have c24b2 : (9223372036854775807 < ((x3_1 ++ (⟨#[92, 117, 123]⟩ : ByteArray)) ++ t401).size + 1) = False := eq_false (Nat.not_lt.2 c24)
                            (try have c24b4 : (9223372036854775807 < x3_1.size + 3 + t401.size + 1) = False := eq_false (Nat.not_lt.2 (show x3_1.size + 3 + t401.size + 1 ≤ 9223372036854775807 from (by have h_ := c24; simp only [ByteArray.size_append] at h_; have e0_ : (⟨#[92, 117, 123]⟩ : ByteArray).size = 3 := rfl; omega))))
                            (try have c24b5 : (x3_1.size + 3 + t401.size + 1 ≤ 9223372036854775807) = True := eq_true (by have h_ := c24; simp only [ByteArray.size_append] at h_; have e0_ : (⟨#[92, 117, 123]⟩ : ByteArray).size = 3 := rfl; omega))
                            have H' := Aside0.mk H
                            clear H
                            have p393 : 0 ≤ (x4_1 : Int) := of_decide_eq_true (by first | (with_reducible assumption) | assumption)
                            have q393 : x4_1 < (l0.length : Int) := of_decide_eq_true (by first | (with_reducible assumption) | assumption)
                            obtain ⟨ad393, e393, hx393_0⟩ := Kd.at_int HR0.out x4_1 p393 q393
                            cases e393
                            replace hx393_0 := (HB.out.cell (World.block_lt_of_cell? w _ hx393_0)).trans hx393_0
                            replace p393 := eq_true p393
                            replace q393 := eq_true q393
                            go_wp2_with (first | ((with_reducible refine gate_callee (f := 33) rfl ?_); refine goesL_ (some 20) rfl rfl Tryd.func33 (by kernel_rfl) rfl #[.int .i32 (rd l0 x4_1)] rfl (by (try simp only [List.map_toArray, List.map_cons, List.map_nil]); first | done | rfl | (simp only [List.length_drop, List.length_take]; rfl)) ?_; (with_reducible refine (redactorref01_Byte.calls (rd l0 x4_1) t394 false _ A4.out).mono ?_); rintro e w' ⟨rfl, ⟨nd, rfl⟩⟩; refine ⟨_, rfl, ?_⟩) | ((with_reducible refine gate_callee (f := 36) rfl ?_); refine goesL_ (some 32) rfl rfl Tryd.func36 (by kernel_rfl) rfl #[.int .i32 (rd l0 x4_1)] rfl (by (try simp only [List.map_toArray, List.map_cons, List.map_nil]); first | done | rfl | (simp only [List.length_drop, List.length_take]; rfl)) ?_; (with_reducible refine (redactorref01_Right.calls (rd l0 x4_1) true _ A5.out).mono ?_); rintro e w' ⟨rfl, ⟨nd, rfl⟩⟩; refine ⟨_, rfl, ?_⟩) | ((with_reducible refine gate_callee (f := 66) rfl ?_); refine goesL_ (some 27) rfl rfl Tryd.func66 (by kernel_rfl) rfl #[.int .i64 (wrap64 (rd l0 x4_1)), .int .i64 1] rfl (by (try simp only [List.map_toArray, List.map_cons, List.map_nil]); first | done | rfl | (simp only [List.length_drop, List.length_take]; rfl)) ?_; (with_reducible refine (redactorref01_hex.calls k1 (wrap64 (rd l0 x4_1)) 1 t401 _ A22.out).mono ?_); rintro e w' ⟨rfl, ⟨nd, rfl⟩⟩; refine ⟨_, rfl, ?_⟩))
                            go_roundg k1
                            case measure => have := HK1.out; omega
                            case rel => exact ⟨(((x3_1 ++ (⟨#[92, 117, 123]⟩ : ByteArray)) ++ t401) ++ (⟨#[125]⟩ : ByteArray)), (wrap64 (x4_1 + 1)), (by first | rfl | (simp; done) | (simp [*]; done)), (by first | rfl | (simp; done) | (simp [*]; done)), H', ⟨by have := HK1.out; omega⟩, ⟨by repeat (first | (with_reducible first | exact HB.out | apply below_alloc | apply pw_below_drewN | apply below_drew1) | exact HB.out)⟩⟩
                          · rw [if_neg c24] at H
                            exact absurd H (by simp)
                        · rw [if_neg c23] at H
                          exact absurd H (by simp)
                      · rw [if_neg c21] at H
                        exact absurd H (by simp)
                  · rw [if_neg c15] at H
                    have c15b0 : decide (32 ≤ (rd l0 x4_1)) = false := decide_eq_false c15
                    clear c15
                    by_cases c25 : x3_1.size + 3 ≤ 9223372036854775807
                    · rw [if_pos c25] at H
                      have c25b0 := eq_true c25
                      have c25b1 : decide (x3_1.size + 3 ≤ 9223372036854775807) = true := decide_eq_true c25
                      try have c25b2 : (9223372036854775807 < x3_1.size + 3) = False := eq_false (Nat.not_lt.2 c25)
                      replace H := Option.bind_eq_some_iff.mp H
                      obtain ⟨t402, A260, H⟩ := H
                      replace H : (if (x3_1 ++ (⟨#[92, 117, 123]⟩ : ByteArray)).size + t402.size ≤ 9223372036854775807 then (if ((x3_1 ++ (⟨#[92, 117, 123]⟩ : ByteArray)) ++ t402).size + 1 ≤ 9223372036854775807 then (redactorref01_Text.l0 k1 l0 (((x3_1 ++ (⟨#[92, 117, 123]⟩ : ByteArray)) ++ t402) ++ (⟨#[125]⟩ : ByteArray)) (wrap64 (x4_1 + 1))) else (none)) else (none)) = some r := H
                      have A26 := Aside0.mk A260
                      clear A260
                      by_cases c27 : (x3_1 ++ (⟨#[92, 117, 123]⟩ : ByteArray)).size + t402.size ≤ 9223372036854775807
                      · rw [if_pos c27] at H
                        have c27b0 := eq_true c27
                        have c27b1 : decide ((x3_1 ++ (⟨#[92, 117, 123]⟩ : ByteArray)).size + t402.size ≤ 9223372036854775807) = true := decide_eq_true c27
                        try have c27b2 : (9223372036854775807 < (x3_1 ++ (⟨#[92, 117, 123]⟩ : ByteArray)).size + t402.size) = False := eq_false (Nat.not_lt.2 c27)
                        (try have c27b4 : (9223372036854775807 < x3_1.size + 3 + t402.size) = False := eq_false (Nat.not_lt.2 (show x3_1.size + 3 + t402.size ≤ 9223372036854775807 from (by have h_ := c27; simp only [ByteArray.size_append] at h_; have e0_ : (⟨#[92, 117, 123]⟩ : ByteArray).size = 3 := rfl; omega))))
                        (try have c27b5 : (x3_1.size + 3 + t402.size ≤ 9223372036854775807) = True := eq_true (by have h_ := c27; simp only [ByteArray.size_append] at h_; have e0_ : (⟨#[92, 117, 123]⟩ : ByteArray).size = 3 := rfl; omega))
                        by_cases c28 : ((x3_1 ++ (⟨#[92, 117, 123]⟩ : ByteArray)) ++ t402).size + 1 ≤ 9223372036854775807
                        · rw [if_pos c28] at H
                          have c28b0 := eq_true c28
                          have c28b1 : decide (((x3_1 ++ (⟨#[92, 117, 123]⟩ : ByteArray)) ++ t402).size + 1 ≤ 9223372036854775807) = true := decide_eq_true c28
                          try have c28b2 : (9223372036854775807 < ((x3_1 ++ (⟨#[92, 117, 123]⟩ : ByteArray)) ++ t402).size + 1) = False := eq_false (Nat.not_lt.2 c28)
                          (try have c28b4 : (9223372036854775807 < x3_1.size + 3 + t402.size + 1) = False := eq_false (Nat.not_lt.2 (show x3_1.size + 3 + t402.size + 1 ≤ 9223372036854775807 from (by have h_ := c28; simp only [ByteArray.size_append] at h_; have e0_ : (⟨#[92, 117, 123]⟩ : ByteArray).size = 3 := rfl; omega))))
                          (try have c28b5 : (x3_1.size + 3 + t402.size + 1 ≤ 9223372036854775807) = True := eq_true (by have h_ := c28; simp only [ByteArray.size_append] at h_; have e0_ : (⟨#[92, 117, 123]⟩ : ByteArray).size = 3 := rfl; omega))
                          have H' := Aside0.mk H
                          clear H
                          have p393 : 0 ≤ (x4_1 : Int) := of_decide_eq_true (by first | (with_reducible assumption) | assumption)
                          have q393 : x4_1 < (l0.length : Int) := of_decide_eq_true (by first | (with_reducible assumption) | assumption)
                          obtain ⟨ad393, e393, hx393_0⟩ := Kd.at_int HR0.out x4_1 p393 q393
                          cases e393
                          replace hx393_0 := (HB.out.cell (World.block_lt_of_cell? w _ hx393_0)).trans hx393_0
                          replace p393 := eq_true p393
                          replace q393 := eq_true q393
                          go_wp2_with (first | ((with_reducible refine gate_callee (f := 33) rfl ?_); refine goesL_ (some 20) rfl rfl Tryd.func33 (by kernel_rfl) rfl #[.int .i32 (rd l0 x4_1)] rfl (by (try simp only [List.map_toArray, List.map_cons, List.map_nil]); first | done | rfl | (simp only [List.length_drop, List.length_take]; rfl)) ?_; (with_reducible refine (redactorref01_Byte.calls (rd l0 x4_1) t394 false _ A4.out).mono ?_); rintro e w' ⟨rfl, ⟨nd, rfl⟩⟩; refine ⟨_, rfl, ?_⟩) | ((with_reducible refine gate_callee (f := 36) rfl ?_); refine goesL_ (some 32) rfl rfl Tryd.func36 (by kernel_rfl) rfl #[.int .i32 (rd l0 x4_1)] rfl (by (try simp only [List.map_toArray, List.map_cons, List.map_nil]); first | done | rfl | (simp only [List.length_drop, List.length_take]; rfl)) ?_; (with_reducible refine (redactorref01_Right.calls (rd l0 x4_1) true _ A5.out).mono ?_); rintro e w' ⟨rfl, ⟨nd, rfl⟩⟩; refine ⟨_, rfl, ?_⟩) | ((with_reducible refine gate_callee (f := 66) rfl ?_); refine goesL_ (some 27) rfl rfl Tryd.func66 (by kernel_rfl) rfl #[.int .i64 (wrap64 (rd l0 x4_1)), .int .i64 1] rfl (by (try simp only [List.map_toArray, List.map_cons, List.map_nil]); first | done | rfl | (simp only [List.length_drop, List.length_take]; rfl)) ?_; (with_reducible refine (redactorref01_hex.calls k1 (wrap64 (rd l0 x4_1)) 1 t402 _ A26.out).mono ?_); rintro e w' ⟨rfl, ⟨nd, rfl⟩⟩; refine ⟨_, rfl, ?_⟩))
                          go_roundg k1
                          case measure => have := HK1.out; omega
                          case rel => exact ⟨(((x3_1 ++ (⟨#[92, 117, 123]⟩ : ByteArray)) ++ t402) ++ (⟨#[125]⟩ : ByteArray)), (wrap64 (x4_1 + 1)), (by first | rfl | (simp; done) | (simp [*]; done)), (by first | rfl | (simp; done) | (simp [*]; done)), H', ⟨by have := HK1.out; omega⟩, ⟨by repeat (first | (with_reducible first | exact HB.out | apply below_alloc | apply pw_below_drewN | apply below_drew1) | exact HB.out)⟩⟩
                        · rw [if_neg c28] at H
                          exact absurd H (by simp)
                      · rw [if_neg c27] at H
                        exact absurd H (by simp)
                    · rw [if_neg c25] at H
                      exact absurd H (by simp)
          · replace c6 := Bool.eq_false_iff.mpr c6
            subst c6
            have H1 : (if x3_1.size + 2 ≤ 9223372036854775807 then (redactorref01_Text.l0 k1 l0 (x3_1 ++ (⟨#[92, 63]⟩ : ByteArray)) (wrap64 (x4_1 + 1))) else (none)) = some r := by rw [if_neg (show ¬ (false = true) by decide)] at H; exact H
            clear H
            have H := H1
            clear H1
            by_cases c29 : x3_1.size + 2 ≤ 9223372036854775807
            · rw [if_pos c29] at H
              have c29b0 := eq_true c29
              have c29b1 : decide (x3_1.size + 2 ≤ 9223372036854775807) = true := decide_eq_true c29
              try have c29b2 : (9223372036854775807 < x3_1.size + 2) = False := eq_false (Nat.not_lt.2 c29)
              have H' := Aside0.mk H
              clear H
              have p393 : 0 ≤ (x4_1 : Int) := of_decide_eq_true (by first | (with_reducible assumption) | assumption)
              have q393 : x4_1 < (l0.length : Int) := of_decide_eq_true (by first | (with_reducible assumption) | assumption)
              obtain ⟨ad393, e393, hx393_0⟩ := Kd.at_int HR0.out x4_1 p393 q393
              cases e393
              replace hx393_0 := (HB.out.cell (World.block_lt_of_cell? w _ hx393_0)).trans hx393_0
              replace p393 := eq_true p393
              replace q393 := eq_true q393
              go_wp2_with (first | ((with_reducible refine gate_callee (f := 33) rfl ?_); refine goesL_ (some 20) rfl rfl Tryd.func33 (by kernel_rfl) rfl #[.int .i32 (rd l0 x4_1)] rfl (by (try simp only [List.map_toArray, List.map_cons, List.map_nil]); first | done | rfl | (simp only [List.length_drop, List.length_take]; rfl)) ?_; (with_reducible refine (redactorref01_Byte.calls (rd l0 x4_1) t394 t395 _ A4.out).mono ?_); rintro e w' ⟨rfl, ⟨nd, rfl⟩⟩; refine ⟨_, rfl, ?_⟩) | ((with_reducible refine gate_callee (f := 36) rfl ?_); refine goesL_ (some 32) rfl rfl Tryd.func36 (by kernel_rfl) rfl #[.int .i32 (rd l0 x4_1)] rfl (by (try simp only [List.map_toArray, List.map_cons, List.map_nil]); first | done | rfl | (simp only [List.length_drop, List.length_take]; rfl)) ?_; (with_reducible refine (redactorref01_Right.calls (rd l0 x4_1) false _ A5.out).mono ?_); rintro e w' ⟨rfl, ⟨nd, rfl⟩⟩; refine ⟨_, rfl, ?_⟩))
              go_roundg k1
              case measure => have := HK1.out; omega
              case rel => exact ⟨(x3_1 ++ (⟨#[92, 63]⟩ : ByteArray)), (wrap64 (x4_1 + 1)), (by first | rfl | (simp; done) | (simp [*]; done)), (by first | rfl | (simp; done) | (simp [*]; done)), H', ⟨by have := HK1.out; omega⟩, ⟨by repeat (first | (with_reducible first | exact HB.out | apply below_alloc | apply pw_below_drewN | apply below_drew1) | exact HB.out)⟩⟩
            · rw [if_neg c29] at H
              exact absurd H (by simp)
        · rw [if_neg c3] at H
          exact absurd H (by simp)
      · rw [if_neg c2] at H
        have c2b0 : decide (x4_1 < (l0.length : Int)) = false := decide_eq_false c2
        clear c2
        obtain rfl := Option.some.inj H
        go_wp2
        go_ret
        exact ⟨by first | rfl | (simp [errW_none, errW_some] <;> rfl) | (simp [*, errW_none, errW_some] <;> rfl), by repeat (first | (with_reducible first | exact HB.out | apply below_alloc | apply pw_below_drewN | apply below_drew1) | exact HB.out)⟩

end Go.Proofs.YtcppmghhijffpaaDoor.X
