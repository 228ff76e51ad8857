-- Written by xprint.py (a program of this claim's author) out of the translation. Not trusted: Lean checks it.
import Derived.Test.YtcppmghhijffpaaDoorX0
import Derived.Test.YtcppmghhijffpaaDoorX8
namespace Go.Proofs.YtcppmghhijffpaaDoor.X
open Go.RowKit Go.Proofs.YtcppmghhijffpaaDoorW.PrintWords Go.Proofs.YtcppmghhijffpaaDoorW.PrintLast Go.Proofs.YtcppmghhijffpaaDoorW.PrintMore
attribute [local go_sem] max2_int min2_int max_two min_two max_three min_three max_four min_four   -- for this text's walks alone
set_option linter.unusedVariables false
set_option linter.unusedSimpArgs false

/-! ### redactorref17_sign: function 57 -/
def redactorref17_sign.j0 : Nat → Int → Bool → Option (List Int)
  | 0, _, _ => none
  | k + 1, x0, x36 => if x36 = true then (if 0 ≤ (wrap32 (x0 - 7)) then (if (wrap32 (x0 - 7)) ≤ (wrap32 (x0 - 6)) then (if (wrap32 (x0 - 6)) ≤ 7 then (if 1 + ((⟨#[97, 98, 116, 110, 118, 102, 114]⟩ : ByteArray).extract ((wrap32 (x0 - 7)) : Int).toNat ((wrap32 (x0 - 6)) : Int).toNat).size ≤ 9223372036854775807 then ((redactorref17_cells.f k ((⟨#[92]⟩ : ByteArray) ++ ((⟨#[97, 98, 116, 110, 118, 102, 114]⟩ : ByteArray).extract ((wrap32 (x0 - 7)) : Int).toNat ((wrap32 (x0 - 6)) : Int).toNat))).bind fun t211 => (some t211)) else (none)) else (none)) else (none)) else (none)) else (if x0 < 32 then (some (([92, wrap32 (48 + (wrap32 (Int.tdiv x0 64))), wrap32 (48 + (Int.tmod (wrap32 (Int.tdiv x0 8)) 8)), wrap32 (48 + (Int.tmod x0 8))] : List Int))) else (if x0 ≥ 127 then (if x0 ≤ 159 then (some (([92, wrap32 (48 + (wrap32 (Int.tdiv x0 64))), wrap32 (48 + (Int.tmod (wrap32 (Int.tdiv x0 8)) 8)), wrap32 (48 + (Int.tmod x0 8))] : List Int))) else (some (([x0] : List Int)))) else (some (([x0] : List Int)))))
def redactorref17_sign.f (k : Nat) (a0 : Int) : Option (List Int) := (redactorref01_Byte.f a0).bind fun bt202 => (if bt202.2 = true then (if 0 ≤ ((Int.tdiv bt202.1 16) % 256) then (if ((Int.tdiv bt202.1 16) % 256) ≤ ((((Int.tdiv bt202.1 16) % 256) + 1) % 256) then (if ((((Int.tdiv bt202.1 16) % 256) + 1) % 256) ≤ 16 then (if 2 + ((⟨#[48, 49, 50, 51, 52, 53, 54, 55, 56, 57, 97, 98, 99, 100, 101, 102]⟩ : ByteArray).extract (((Int.tdiv bt202.1 16) % 256) : Int).toNat (((((Int.tdiv bt202.1 16) % 256) + 1) % 256) : Int).toNat).size ≤ 9223372036854775807 then (if 0 ≤ (Int.tmod bt202.1 16) then (if (Int.tmod bt202.1 16) ≤ (((Int.tmod bt202.1 16) + 1) % 256) then (if (((Int.tmod bt202.1 16) + 1) % 256) ≤ 16 then (if ((⟨#[92, 120]⟩ : ByteArray) ++ ((⟨#[48, 49, 50, 51, 52, 53, 54, 55, 56, 57, 97, 98, 99, 100, 101, 102]⟩ : ByteArray).extract (((Int.tdiv bt202.1 16) % 256) : Int).toNat (((((Int.tdiv bt202.1 16) % 256) + 1) % 256) : Int).toNat)).size + ((⟨#[48, 49, 50, 51, 52, 53, 54, 55, 56, 57, 97, 98, 99, 100, 101, 102]⟩ : ByteArray).extract ((Int.tmod bt202.1 16) : Int).toNat ((((Int.tmod bt202.1 16) + 1) % 256) : Int).toNat).size ≤ 9223372036854775807 then ((redactorref17_cells.f k (((⟨#[92, 120]⟩ : ByteArray) ++ ((⟨#[48, 49, 50, 51, 52, 53, 54, 55, 56, 57, 97, 98, 99, 100, 101, 102]⟩ : ByteArray).extract (((Int.tdiv bt202.1 16) % 256) : Int).toNat (((((Int.tdiv bt202.1 16) % 256) + 1) % 256) : Int).toNat)) ++ ((⟨#[48, 49, 50, 51, 52, 53, 54, 55, 56, 57, 97, 98, 99, 100, 101, 102]⟩ : ByteArray).extract ((Int.tmod bt202.1 16) : Int).toNat ((((Int.tmod bt202.1 16) + 1) % 256) : Int).toNat))).bind fun t204 => (some t204)) else (none)) else (none)) else (none)) else (none)) else (none)) else (none)) else (none)) else (none)) else ((redactorref01_Right.f a0).bind fun t207 => (if t207 = true then (if a0 = 92 then ((redactorref17_cells.f k (⟨#[92, 92]⟩ : ByteArray)).bind fun t208 => (some t208)) else (if a0 ≥ 7 then (redactorref17_sign.j0 k a0 (decide (a0 ≤ 13))) else (redactorref17_sign.j0 k a0 false))) else ((redactorref17_cells.f k (⟨#[92, 63]⟩ : ByteArray)).bind fun t226 => (some t226)))))
theorem redactorref17_sign.mono_l : ∀ k, (∀ y0 y1, LeO (redactorref17_sign.j0 k y0 y1) (redactorref17_sign.j0 (k + 1) y0 y1))
  | 0 => fun _ _ r h => by simp [redactorref17_sign.j0] at h
  | k + 1 => by
    have ih0 := redactorref17_sign.mono_l k
    · intro y0 y1
      unfold redactorref17_sign.j0
      repeat' first
      | (with_reducible exact ih0 _ _)
      | (with_reducible exact redactorref17_cells.mono _ _)
      | (with_reducible exact LeO.refl _)
      | (with_reducible exact LeO.none _)
      | (with_reducible refine LeO.ite ?_ ?_)
      | (with_reducible refine LeO.bind ?_ (fun _ => ?_))
      | exact ih0 _ _
      | exact redactorref17_cells.mono _ _
      | exact LeO.none _
      | refine LeO.ite ?_ ?_
      | refine LeO.bind ?_ (fun _ => ?_)
theorem redactorref17_sign.mono : ∀ a0 k, LeO (redactorref17_sign.f k a0) (redactorref17_sign.f (k + 1) a0) := by
  intro a0 k
  have ih0 := redactorref17_sign.mono_l k
  unfold redactorref17_sign.f
  repeat' first
      | (with_reducible exact ih0 _ _)
      | (with_reducible exact redactorref17_cells.mono _ _)
      | (with_reducible exact LeO.refl _)
      | (with_reducible exact LeO.none _)
      | (with_reducible refine LeO.ite ?_ ?_)
      | (with_reducible refine LeO.bind ?_ (fun _ => ?_))
      | exact ih0 _ _
      | exact redactorref17_cells.mono _ _
      | exact LeO.none _
      | refine LeO.ite ?_ ?_
      | refine LeO.bind ?_ (fun _ => ?_)
def redactorref17_sign.T3 : Bool × List (List Nat × List Nat) := (true, [([], []), ([0], [0]), ([], []), ([2], [2]), ([3], [3]), ([1, 4], [1, 4]), ([5], [5]), ([], []), ([7], [7]), ([], []), ([9], [9]), ([10], [10]), ([8, 11], [8, 11]), ([6, 12], [6, 12]), ([13], [13]), ([14, 14, 0, 1, 2, 3, 4, 5, 6, 7, 8, 9, 10, 11, 12, 13, 14], [14])])
def redactorref17_sign.B3 : List Nat := [0, 1, 0, 4, 12, 31, 63, 0, 128, 0, 512, 1536, 3968, 8191, 16383, 32767]
theorem redactorref17_sign.tab3 : rtab .any (opsOf Tryd.f57 3) = redactorref17_sign.T3 := by kernel_rfl
theorem redactorref17_sign.bits3 : waitsOk redactorref17_sign.T3.2 redactorref17_sign.B3 = true := by kernel_rfl
set_option maxHeartbeats 8000000 in
set_option maxRecDepth 100000 in
theorem redactorref17_sign.calls (k : Nat) (a0 : Int) (r : List Int) (w : World) (h : redactorref17_sign.f k a0 = some r) :
    Calls Tryd.prog 57 #[.int .i32 a0] w fun e w' => ∃ v0_ : Value, e = .returned (v0_) ∧ Kd.R (Kd.int .i32) 24 w' w.heap.size (fun _ => True) v0_ r ∧ Below w.heap.size w w' := by
  have HB := Aside0.mk (Below.refl w.heap.size w)
  have hu8_ : ∀ x : Int, IntKind.u8.wrap x = x % 256 := fun x => IntKind.wrap_u8 x
  have H : ((redactorref01_Byte.f a0).bind fun bt202 => (if bt202.2 = true then (if 0 ≤ ((Int.tdiv bt202.1 16) % 256) then (if ((Int.tdiv bt202.1 16) % 256) ≤ ((((Int.tdiv bt202.1 16) % 256) + 1) % 256) then (if ((((Int.tdiv bt202.1 16) % 256) + 1) % 256) ≤ 16 then (if 2 + ((⟨#[48, 49, 50, 51, 52, 53, 54, 55, 56, 57, 97, 98, 99, 100, 101, 102]⟩ : ByteArray).extract (((Int.tdiv bt202.1 16) % 256) : Int).toNat (((((Int.tdiv bt202.1 16) % 256) + 1) % 256) : Int).toNat).size ≤ 9223372036854775807 then (if 0 ≤ (Int.tmod bt202.1 16) then (if (Int.tmod bt202.1 16) ≤ (((Int.tmod bt202.1 16) + 1) % 256) then (if (((Int.tmod bt202.1 16) + 1) % 256) ≤ 16 then (if ((⟨#[92, 120]⟩ : ByteArray) ++ ((⟨#[48, 49, 50, 51, 52, 53, 54, 55, 56, 57, 97, 98, 99, 100, 101, 102]⟩ : ByteArray).extract (((Int.tdiv bt202.1 16) % 256) : Int).toNat (((((Int.tdiv bt202.1 16) % 256) + 1) % 256) : Int).toNat)).size + ((⟨#[48, 49, 50, 51, 52, 53, 54, 55, 56, 57, 97, 98, 99, 100, 101, 102]⟩ : ByteArray).extract ((Int.tmod bt202.1 16) : Int).toNat ((((Int.tmod bt202.1 16) + 1) % 256) : Int).toNat).size ≤ 9223372036854775807 then ((redactorref17_cells.f k (((⟨#[92, 120]⟩ : ByteArray) ++ ((⟨#[48, 49, 50, 51, 52, 53, 54, 55, 56, 57, 97, 98, 99, 100, 101, 102]⟩ : ByteArray).extract (((Int.tdiv bt202.1 16) % 256) : Int).toNat (((((Int.tdiv bt202.1 16) % 256) + 1) % 256) : Int).toNat)) ++ ((⟨#[48, 49, 50, 51, 52, 53, 54, 55, 56, 57, 97, 98, 99, 100, 101, 102]⟩ : ByteArray).extract ((Int.tmod bt202.1 16) : Int).toNat ((((Int.tmod bt202.1 16) + 1) % 256) : Int).toNat))).bind fun t204 => (some t204)) else (none)) else (none)) else (none)) else (none)) else (none)) else (none)) else (none)) else (none)) else ((redactorref01_Right.f a0).bind fun t207 => (if t207 = true then (if a0 = 92 then ((redactorref17_cells.f k (⟨#[92, 92]⟩ : ByteArray)).bind fun t208 => (some t208)) else (if a0 ≥ 7 then (redactorref17_sign.j0 k a0 (decide (a0 ≤ 13))) else (redactorref17_sign.j0 k a0 false))) else ((redactorref17_cells.f k (⟨#[92, 63]⟩ : ByteArray)).bind fun t226 => (some t226)))))) = some r := h
  clear h
  replace H := Option.bind_eq_some_iff.mp H
  obtain ⟨⟨t202, t203⟩, A20, H⟩ := H
  replace H : (if t203 = true then (if 0 ≤ ((Int.tdiv t202 16) % 256) then (if ((Int.tdiv t202 16) % 256) ≤ ((((Int.tdiv t202 16) % 256) + 1) % 256) then (if ((((Int.tdiv t202 16) % 256) + 1) % 256) ≤ 16 then (if 2 + ((⟨#[48, 49, 50, 51, 52, 53, 54, 55, 56, 57, 97, 98, 99, 100, 101, 102]⟩ : ByteArray).extract (((Int.tdiv t202 16) % 256) : Int).toNat (((((Int.tdiv t202 16) % 256) + 1) % 256) : Int).toNat).size ≤ 9223372036854775807 then (if 0 ≤ (Int.tmod t202 16) then (if (Int.tmod t202 16) ≤ (((Int.tmod t202 16) + 1) % 256) then (if (((Int.tmod t202 16) + 1) % 256) ≤ 16 then (if ((⟨#[92, 120]⟩ : ByteArray) ++ ((⟨#[48, 49, 50, 51, 52, 53, 54, 55, 56, 57, 97, 98, 99, 100, 101, 102]⟩ : ByteArray).extract (((Int.tdiv t202 16) % 256) : Int).toNat (((((Int.tdiv t202 16) % 256) + 1) % 256) : Int).toNat)).size + ((⟨#[48, 49, 50, 51, 52, 53, 54, 55, 56, 57, 97, 98, 99, 100, 101, 102]⟩ : ByteArray).extract ((Int.tmod t202 16) : Int).toNat ((((Int.tmod t202 16) + 1) % 256) : Int).toNat).size ≤ 9223372036854775807 then ((redactorref17_cells.f k (((⟨#[92, 120]⟩ : ByteArray) ++ ((⟨#[48, 49, 50, 51, 52, 53, 54, 55, 56, 57, 97, 98, 99, 100, 101, 102]⟩ : ByteArray).extract (((Int.tdiv t202 16) % 256) : Int).toNat (((((Int.tdiv t202 16) % 256) + 1) % 256) : Int).toNat)) ++ ((⟨#[48, 49, 50, 51, 52, 53, 54, 55, 56, 57, 97, 98, 99, 100, 101, 102]⟩ : ByteArray).extract ((Int.tmod t202 16) : Int).toNat ((((Int.tmod t202 16) + 1) % 256) : Int).toNat))).bind fun t204 => (some t204)) else (none)) else (none)) else (none)) else (none)) else (none)) else (none)) else (none)) else (none)) else ((redactorref01_Right.f a0).bind fun t207 => (if t207 = true then (if a0 = 92 then ((redactorref17_cells.f k (⟨#[92, 92]⟩ : ByteArray)).bind fun t208 => (some t208)) else (if a0 ≥ 7 then (redactorref17_sign.j0 k a0 (decide (a0 ≤ 13))) else (redactorref17_sign.j0 k a0 false))) else ((redactorref17_cells.f k (⟨#[92, 63]⟩ : ByteArray)).bind fun t226 => (some t226))))) = some r := H
  have A2 := Aside0.mk A20
  clear A20
  by_cases c3 : t203 = true
  · subst c3
    have H1 : (if 0 ≤ ((Int.tdiv t202 16) % 256) then (if ((Int.tdiv t202 16) % 256) ≤ ((((Int.tdiv t202 16) % 256) + 1) % 256) then (if ((((Int.tdiv t202 16) % 256) + 1) % 256) ≤ 16 then (if 2 + ((⟨#[48, 49, 50, 51, 52, 53, 54, 55, 56, 57, 97, 98, 99, 100, 101, 102]⟩ : ByteArray).extract (((Int.tdiv t202 16) % 256) : Int).toNat (((((Int.tdiv t202 16) % 256) + 1) % 256) : Int).toNat).size ≤ 9223372036854775807 then (if 0 ≤ (Int.tmod t202 16) then (if (Int.tmod t202 16) ≤ (((Int.tmod t202 16) + 1) % 256) then (if (((Int.tmod t202 16) + 1) % 256) ≤ 16 then (if ((⟨#[92, 120]⟩ : ByteArray) ++ ((⟨#[48, 49, 50, 51, 52, 53, 54, 55, 56, 57, 97, 98, 99, 100, 101, 102]⟩ : ByteArray).extract (((Int.tdiv t202 16) % 256) : Int).toNat (((((Int.tdiv t202 16) % 256) + 1) % 256) : Int).toNat)).size + ((⟨#[48, 49, 50, 51, 52, 53, 54, 55, 56, 57, 97, 98, 99, 100, 101, 102]⟩ : ByteArray).extract ((Int.tmod t202 16) : Int).toNat ((((Int.tmod t202 16) + 1) % 256) : Int).toNat).size ≤ 9223372036854775807 then ((redactorref17_cells.f k (((⟨#[92, 120]⟩ : ByteArray) ++ ((⟨#[48, 49, 50, 51, 52, 53, 54, 55, 56, 57, 97, 98, 99, 100, 101, 102]⟩ : ByteArray).extract (((Int.tdiv t202 16) % 256) : Int).toNat (((((Int.tdiv t202 16) % 256) + 1) % 256) : Int).toNat)) ++ ((⟨#[48, 49, 50, 51, 52, 53, 54, 55, 56, 57, 97, 98, 99, 100, 101, 102]⟩ : ByteArray).extract ((Int.tmod t202 16) : Int).toNat ((((Int.tmod t202 16) + 1) % 256) : Int).toNat))).bind fun t204 => (some t204)) else (none)) else (none)) else (none)) else (none)) else (none)) else (none)) else (none)) else (none)) = some r := by rw [if_pos rfl] at H; exact H
    clear H
    have H := H1
    clear H1
    obtain ⟨ji4, hji4⟩ : ∃ j_ : Int, ((Int.tdiv t202 16) % 256) = j_ := ⟨_, rfl⟩
    replace H : (if 0 ≤ (ji4) then (if (ji4) ≤ (((ji4) + 1) % 256) then (if (((ji4) + 1) % 256) ≤ 16 then (if 2 + ((⟨#[48, 49, 50, 51, 52, 53, 54, 55, 56, 57, 97, 98, 99, 100, 101, 102]⟩ : ByteArray).extract ((ji4) : Int).toNat ((((ji4) + 1) % 256) : Int).toNat).size ≤ 9223372036854775807 then (if 0 ≤ (Int.tmod t202 16) then (if (Int.tmod t202 16) ≤ (((Int.tmod t202 16) + 1) % 256) then (if (((Int.tmod t202 16) + 1) % 256) ≤ 16 then (if ((⟨#[92, 120]⟩ : ByteArray) ++ ((⟨#[48, 49, 50, 51, 52, 53, 54, 55, 56, 57, 97, 98, 99, 100, 101, 102]⟩ : ByteArray).extract ((ji4) : Int).toNat ((((ji4) + 1) % 256) : Int).toNat)).size + ((⟨#[48, 49, 50, 51, 52, 53, 54, 55, 56, 57, 97, 98, 99, 100, 101, 102]⟩ : ByteArray).extract ((Int.tmod t202 16) : Int).toNat ((((Int.tmod t202 16) + 1) % 256) : Int).toNat).size ≤ 9223372036854775807 then ((redactorref17_cells.f k (((⟨#[92, 120]⟩ : ByteArray) ++ ((⟨#[48, 49, 50, 51, 52, 53, 54, 55, 56, 57, 97, 98, 99, 100, 101, 102]⟩ : ByteArray).extract ((ji4) : Int).toNat ((((ji4) + 1) % 256) : Int).toNat)) ++ ((⟨#[48, 49, 50, 51, 52, 53, 54, 55, 56, 57, 97, 98, 99, 100, 101, 102]⟩ : ByteArray).extract ((Int.tmod t202 16) : Int).toNat ((((Int.tmod t202 16) + 1) % 256) : Int).toNat))).bind fun t204 => (some t204)) else (none)) else (none)) else (none)) else (none)) else (none)) else (none)) else (none)) else (none)) = some r := by first | (rw [hji4] at H; exact H) | (simp only [hji4] at H ⊢; exact H)
    (try rw [hji4] at A2)
    by_cases c5 : 0 ≤ (ji4)
    · rw [if_pos c5] at H
      have c5b0 := eq_true c5
      have c5b1 : decide (0 ≤ (ji4)) = true := decide_eq_true c5
      clear c5
      by_cases c6 : (ji4) ≤ (((ji4) + 1) % 256)
      · rw [if_pos c6] at H
        have c6b0 := eq_true c6
        have c6b1 : decide ((ji4) ≤ (((ji4) + 1) % 256)) = true := decide_eq_true c6
        by_cases c7 : (((ji4) + 1) % 256) ≤ 16
        · rw [if_pos c7] at H
          have c7b0 := eq_true c7
          have c7b1 : decide ((((ji4) + 1) % 256) ≤ 16) = true := decide_eq_true c7
          by_cases c8 : 2 + ((⟨#[48, 49, 50, 51, 52, 53, 54, 55, 56, 57, 97, 98, 99, 100, 101, 102]⟩ : ByteArray).extract ((ji4) : Int).toNat ((((ji4) + 1) % 256) : Int).toNat).size ≤ 9223372036854775807
          · rw [if_pos c8] at H
            have c8b0 := eq_true c8
            have c8b1 : decide (2 + ((⟨#[48, 49, 50, 51, 52, 53, 54, 55, 56, 57, 97, 98, 99, 100, 101, 102]⟩ : ByteArray).extract ((ji4) : Int).toNat ((((ji4) + 1) % 256) : Int).toNat).size ≤ 9223372036854775807) = true := decide_eq_true c8
            try have c8b2 : (9223372036854775807 < 2 + ((⟨#[48, 49, 50, 51, 52, 53, 54, 55, 56, 57, 97, 98, 99, 100, 101, 102]⟩ : ByteArray).extract ((ji4) : Int).toNat ((((ji4) + 1) % 256) : Int).toNat).size) = False := eq_false (Nat.not_lt.2 c8)
            try have c8b3 : (9223372036854775807 < 2 + ((((ji4) + 1) % 256).toNat - (ji4).toNat)) = False := eq_false (by first | omega | (unfold wrap32; omega))
            obtain ⟨ji9, hji9⟩ : ∃ j_ : Int, (Int.tmod t202 16) = j_ := ⟨_, rfl⟩
            replace H : (if 0 ≤ (ji9) then (if (ji9) ≤ (((ji9) + 1) % 256) then (if (((ji9) + 1) % 256) ≤ 16 then (if ((⟨#[92, 120]⟩ : ByteArray) ++ ((⟨#[48, 49, 50, 51, 52, 53, 54, 55, 56, 57, 97, 98, 99, 100, 101, 102]⟩ : ByteArray).extract ((ji4) : Int).toNat ((((ji4) + 1) % 256) : Int).toNat)).size + ((⟨#[48, 49, 50, 51, 52, 53, 54, 55, 56, 57, 97, 98, 99, 100, 101, 102]⟩ : ByteArray).extract ((ji9) : Int).toNat ((((ji9) + 1) % 256) : Int).toNat).size ≤ 9223372036854775807 then ((redactorref17_cells.f k (((⟨#[92, 120]⟩ : ByteArray) ++ ((⟨#[48, 49, 50, 51, 52, 53, 54, 55, 56, 57, 97, 98, 99, 100, 101, 102]⟩ : ByteArray).extract ((ji4) : Int).toNat ((((ji4) + 1) % 256) : Int).toNat)) ++ ((⟨#[48, 49, 50, 51, 52, 53, 54, 55, 56, 57, 97, 98, 99, 100, 101, 102]⟩ : ByteArray).extract ((ji9) : Int).toNat ((((ji9) + 1) % 256) : Int).toNat))).bind fun t204 => (some t204)) else (none)) else (none)) else (none)) else (none)) = some r := by first | (rw [hji9] at H; exact H) | (simp only [hji9] at H ⊢; exact H)
            (try rw [hji9] at A2)
            by_cases c10 : 0 ≤ (ji9)
            · rw [if_pos c10] at H
              have c10b0 := eq_true c10
              have c10b1 : decide (0 ≤ (ji9)) = true := decide_eq_true c10
              clear c10
              by_cases c11 : (ji9) ≤ (((ji9) + 1) % 256)
              · rw [if_pos c11] at H
                have c11b0 := eq_true c11
                have c11b1 : decide ((ji9) ≤ (((ji9) + 1) % 256)) = true := decide_eq_true c11
                by_cases c12 : (((ji9) + 1) % 256) ≤ 16
                · rw [if_pos c12] at H
                  have c12b0 := eq_true c12
                  have c12b1 : decide ((((ji9) + 1) % 256) ≤ 16) = true := decide_eq_true c12
                  by_cases c13 : ((⟨#[92, 120]⟩ : ByteArray) ++ ((⟨#[48, 49, 50, 51, 52, 53, 54, 55, 56, 57, 97, 98, 99, 100, 101, 102]⟩ : ByteArray).extract ((ji4) : Int).toNat ((((ji4) + 1) % 256) : Int).toNat)).size + ((⟨#[48, 49, 50, 51, 52, 53, 54, 55, 56, 57, 97, 98, 99, 100, 101, 102]⟩ : ByteArray).extract ((ji9) : Int).toNat ((((ji9) + 1) % 256) : Int).toNat).size ≤ 9223372036854775807
                  · rw [if_pos c13] at H
                    have c13b0 := eq_true c13
                    have c13b1 : decide (((⟨#[92, 120]⟩ : ByteArray) ++ ((⟨#[48, 49, 50, 51, 52, 53, 54, 55, 56, 57, 97, 98, 99, 100, 101, 102]⟩ : ByteArray).extract ((ji4) : Int).toNat ((((ji4) + 1) % 256) : Int).toNat)).size + ((⟨#[48, 49, 50, 51, 52, 53, 54, 55, 56, 57, 97, 98, 99, 100, 101, 102]⟩ : ByteArray).extract ((ji9) : Int).toNat ((((ji9) + 1) % 256) : Int).toNat).size ≤ 9223372036854775807) = true := decide_eq_true c13
                    try have c13b2 : (9223372036854775807 < ((⟨#[92, 120]⟩ : ByteArray) ++ ((⟨#[48, 49, 50, 51, 52, 53, 54, 55, 56, 57, 97, 98, 99, 100, 101, 102]⟩ : ByteArray).extract ((ji4) : Int).toNat ((((ji4) + 1) % 256) : Int).toNat)).size + ((⟨#[48, 49, 50, 51, 52, 53, 54, 55, 56, 57, 97, 98, 99, 100, 101, 102]⟩ : ByteArray).extract ((ji9) : Int).toNat ((((ji9) + 1) % 256) : Int).toNat).size) = False := eq_false (Nat.not_lt.2 c13)
                    try have c13b3 : (9223372036854775807 < (2 + ((((ji4) + 1) % 256).toNat - (ji4).toNat)) + ((((ji9) + 1) % 256).toNat - (ji9).toNat)) = False := eq_false (by first | omega | (unfold wrap32; omega))
                    (try have c13b4 : (9223372036854775807 < 2 + ((⟨#[48, 49, 50, 51, 52, 53, 54, 55, 56, 57, 97, 98, 99, 100, 101, 102]⟩ : ByteArray).extract ((ji4) : Int).toNat ((((ji4) + 1) % 256) : Int).toNat).size + ((⟨#[48, 49, 50, 51, 52, 53, 54, 55, 56, 57, 97, 98, 99, 100, 101, 102]⟩ : ByteArray).extract ((ji9) : Int).toNat ((((ji9) + 1) % 256) : Int).toNat).size) = False := eq_false (Nat.not_lt.2 (show 2 + ((⟨#[48, 49, 50, 51, 52, 53, 54, 55, 56, 57, 97, 98, 99, 100, 101, 102]⟩ : ByteArray).extract ((ji4) : Int).toNat ((((ji4) + 1) % 256) : Int).toNat).size + ((⟨#[48, 49, 50, 51, 52, 53, 54, 55, 56, 57, 97, 98, 99, 100, 101, 102]⟩ : ByteArray).extract ((ji9) : Int).toNat ((((ji9) + 1) % 256) : Int).toNat).size ≤ 9223372036854775807 from (by have h_ := c13; simp only [ByteArray.size_append] at h_; have e0_ : (⟨#[92, 120]⟩ : ByteArray).size = 2 := rfl; omega))))
                    (try have c13b5 : (2 + ((⟨#[48, 49, 50, 51, 52, 53, 54, 55, 56, 57, 97, 98, 99, 100, 101, 102]⟩ : ByteArray).extract ((ji4) : Int).toNat ((((ji4) + 1) % 256) : Int).toNat).size + ((⟨#[48, 49, 50, 51, 52, 53, 54, 55, 56, 57, 97, 98, 99, 100, 101, 102]⟩ : ByteArray).extract ((ji9) : Int).toNat ((((ji9) + 1) % 256) : Int).toNat).size ≤ 9223372036854775807) = True := eq_true (by have h_ := c13; simp only [ByteArray.size_append] at h_; have e0_ : (⟨#[92, 120]⟩ : ByteArray).size = 2 := rfl; omega))
                    replace H := Option.bind_eq_some_iff.mp H
                    obtain ⟨t204, A140, H⟩ := H
                    replace H : (some t204) = some r := H
                    have A14 := Aside0.mk A140
                    clear A140
                    obtain rfl := Option.some.inj H
                    go_enter Tryd.func57, Tryd.ntmps57
                    try go_wp2_with (first | ((with_reducible refine gate_callee (f := 33) rfl ?_); refine goesL_ (some 7) rfl rfl Tryd.func33 (by kernel_rfl) rfl #[.int .i32 a0] rfl (by (try simp only [List.map_toArray, List.map_cons, List.map_nil]); first | done | rfl | (simp only [List.length_drop, List.length_take]; rfl)) ?_; (with_reducible refine (redactorref01_Byte.calls a0 t202 true _ A2.out).mono ?_); rintro e w' ⟨rfl, ⟨nd, rfl⟩⟩; refine ⟨_, rfl, ?_⟩))
                    have n0_ := Aside0.mk (below_drew1 (pw_below_drewN HB.out nd))
                    clear HB
                    have HB := n0_
                    clear n0_
                    refine start_ (n := 16) (S := fun w' => True) (ds := []) #[false, false, false, false, false, false, false, false, false, false, false, false, false, false, false, false] (by kernel_rfl) rfl rfl trivial (fun hHeld => ?_); refine with_tabW redactorref17_sign.tab3 redactorref17_sign.bits3 (fun HT_ HW_ => ?_)
                    generalize (w.drewN nd).drew = w15 at HB hHeld ⊢
                    refine pure_ (i := 0) (N := some 12) (v := ?_) (a' := ?_) #[true, false, false, false, false, false, false, false, false, false, false, false, false, false, false, false] rfl rfl (any_of HT_.out (by kernel_rfl)) (fun _ _ _ h => h) (Or.inl ⟨by rfl, ?_⟩) ?_ ?_
                    rotate_left
                    · intro w'
                      go_simp
                      with_reducible rfl
                    rotate_left
                    · simp only [Act.put, List.setIfInBounds_toArray, List.set_cons_zero, List.set_cons_succ, i64_w, i32_w]
                      rfl
                    refine pure_ (i := 1) (N := some 13) (v := ?_) (a' := ?_) #[true, true, false, false, false, false, false, false, false, false, false, false, false, false, false, false] rfl rfl (any_of HT_.out (by kernel_rfl)) (fun _ _ _ h => h) (Or.inl ⟨by rfl, ?_⟩) ?_ ?_
                    rotate_left
                    · intro w'
                      go_simp
                      with_reducible rfl
                    rotate_left
                    · simp only [Act.put, List.setIfInBounds_toArray, List.set_cons_zero, List.set_cons_succ, i64_w, i32_w]
                      rfl
                    refine pure_ (i := 2) (N := some 14) (v := ?_) (a' := ?_) #[true, true, true, false, false, false, false, false, false, false, false, false, false, false, false, false] rfl rfl (any_of HT_.out (by kernel_rfl)) (fun _ _ _ h => h) (Or.inl ⟨by rfl, ?_⟩) ?_ ?_
                    rotate_left
                    · intro w'
                      go_simp
                      with_reducible rfl
                    rotate_left
                    · simp only [Act.put, List.setIfInBounds_toArray, List.set_cons_zero, List.set_cons_succ, i64_w, i32_w]
                      rfl
                    refine pure_ (i := 3) (N := some 15) (v := ?_) (a' := ?_) #[true, true, true, true, false, false, false, false, false, false, false, false, false, false, false, false] rfl rfl (any_of HT_.out (by kernel_rfl)) (fun _ _ _ h => h) (Or.inl ⟨by rfl, ?_⟩) ?_ ?_
                    rotate_left
                    · intro w'
                      go_simp
                      with_reducible rfl
                    rotate_left
                    · simp only [Act.put, List.setIfInBounds_toArray, List.set_cons_zero, List.set_cons_succ, i64_w, i32_w]
                      rfl
                    refine pure_ (i := 4) (N := some 16) (v := ?_) (a' := ?_) #[true, true, true, true, true, false, false, false, false, false, false, false, false, false, false, false] rfl rfl (any_of HT_.out (by kernel_rfl)) (fun _ _ _ h => h) (Or.inl ⟨by rfl, ?_⟩) ?_ ?_
                    rotate_left
                    · intro w'
                      go_simp
                      with_reducible rfl
                    rotate_left
                    · simp only [Act.put, List.setIfInBounds_toArray, List.set_cons_zero, List.set_cons_succ, i64_w, i32_w]
                      rfl
                    refine pure_ (i := 5) (N := some 17) (v := ?_) (a' := ?_) #[true, true, true, true, true, true, false, false, false, false, false, false, false, false, false, false] rfl rfl (any_of HT_.out (by kernel_rfl)) (fun _ _ _ h => h) (Or.inl ⟨by rfl, ?_⟩) ?_ ?_
                    rotate_left
                    · intro w'
                      go_simp
                      with_reducible rfl
                    rotate_left
                    · simp only [Act.put, List.setIfInBounds_toArray, List.set_cons_zero, List.set_cons_succ, i64_w, i32_w]
                      rfl
                    refine pure_ (i := 6) (N := some 18) (v := ?_) (a' := ?_) #[true, true, true, true, true, true, true, false, false, false, false, false, false, false, false, false] rfl rfl (any_of HT_.out (by kernel_rfl)) (fun _ _ _ h => h) (Or.inl ⟨by rfl, ?_⟩) ?_ ?_
                    rotate_left
                    · intro w'
                      go_simp
                      with_reducible rfl
                    rotate_left
                    · simp only [Act.put, List.setIfInBounds_toArray, List.set_cons_zero, List.set_cons_succ, i64_w, i32_w]
                      rfl
                    refine pure_ (i := 7) (N := some 19) (v := ?_) (a' := ?_) #[true, true, true, true, true, true, true, true, false, false, false, false, false, false, false, false] rfl rfl (any_of HT_.out (by kernel_rfl)) (fun _ _ _ h => h) (Or.inl ⟨by rfl, ?_⟩) ?_ ?_
                    rotate_left
                    · intro w'
                      go_simp
                      with_reducible rfl
                    rotate_left
                    · simp only [Act.put, List.setIfInBounds_toArray, List.set_cons_zero, List.set_cons_succ, i64_w, i32_w]
                      rfl
                    refine pure_ (i := 8) (N := some 20) (v := ?_) (a' := ?_) #[true, true, true, true, true, true, true, true, true, false, false, false, false, false, false, false] rfl rfl (any_of HT_.out (by kernel_rfl)) (fun _ _ _ h => h) (Or.inl ⟨by rfl, ?_⟩) ?_ ?_
                    rotate_left
                    · intro w'
                      go_simp
                      with_reducible rfl
                    rotate_left
                    · simp only [Act.put, List.setIfInBounds_toArray, List.set_cons_zero, List.set_cons_succ, i64_w, i32_w]
                      rfl
                    refine pure_ (i := 9) (N := some 21) (v := ?_) (a' := ?_) #[true, true, true, true, true, true, true, true, true, true, false, false, false, false, false, false] rfl rfl (any_of HT_.out (by kernel_rfl)) (fun _ _ _ h => h) (Or.inl ⟨by rfl, ?_⟩) ?_ ?_
                    rotate_left
                    · intro w'
                      go_simp
                      with_reducible rfl
                    rotate_left
                    · simp only [Act.put, List.setIfInBounds_toArray, List.set_cons_zero, List.set_cons_succ, i64_w, i32_w]
                      rfl
                    refine pure_ (i := 10) (N := some 22) (v := ?_) (a' := ?_) #[true, true, true, true, true, true, true, true, true, true, true, false, false, false, false, false] rfl rfl (any_of HT_.out (by kernel_rfl)) (fun _ _ _ h => h) (Or.inl ⟨by rfl, ?_⟩) ?_ ?_
                    rotate_left
                    · intro w'
                      go_simp
                      with_reducible rfl
                    rotate_left
                    · simp only [Act.put, List.setIfInBounds_toArray, List.set_cons_zero, List.set_cons_succ, i64_w, i32_w]
                      rfl
                    refine pure_ (i := 11) (N := some 23) (v := ?_) (a' := ?_) #[true, true, true, true, true, true, true, true, true, true, true, true, false, false, false, false] rfl rfl (any_of HT_.out (by kernel_rfl)) (fun _ _ _ h => h) (Or.inl ⟨by rfl, ?_⟩) ?_ ?_
                    rotate_left
                    · intro w'
                      go_simp
                      with_reducible rfl
                    rotate_left
                    · simp only [Act.put, List.setIfInBounds_toArray, List.set_cons_zero, List.set_cons_succ, i64_w, i32_w]
                      rfl
                    refine pure_ (i := 12) (N := some 24) (v := ?_) (a' := ?_) #[true, true, true, true, true, true, true, true, true, true, true, true, true, false, false, false] rfl rfl (any_of HT_.out (by kernel_rfl)) (fun _ _ _ h => h) (Or.inl ⟨by rfl, ?_⟩) ?_ ?_
                    rotate_left
                    · intro w'
                      go_simp
                      with_reducible rfl
                    rotate_left
                    · simp only [Act.put, List.setIfInBounds_toArray, List.set_cons_zero, List.set_cons_succ, i64_w, i32_w]
                      rfl
                    refine pure_ (i := 13) (N := some 25) (v := ?_) (a' := ?_) #[true, true, true, true, true, true, true, true, true, true, true, true, true, true, false, false] rfl rfl (any_of HT_.out (by kernel_rfl)) (fun _ _ _ h => h) (Or.inl ⟨by rfl, ?_⟩) ?_ ?_
                    rotate_left
                    · intro w'
                      go_simp
                      with_reducible rfl
                    rotate_left
                    · simp only [Act.put, List.setIfInBounds_toArray, List.set_cons_zero, List.set_cons_succ, i64_w, i32_w]
                      rfl
                    refine one_ (i := 14) (N := some 26) #[true, true, true, true, true, true, true, true, true, true, true, true, true, true, true, false] rfl rfl (one_of HT_.out (by kernel_rfl)) (by decide) (fun K hK => ?_)
                    refine goes_ Tryd.func84 (by kernel_rfl) rfl #[.string (((⟨#[92, 120]⟩ : ByteArray) ++ ((⟨#[48, 49, 50, 51, 52, 53, 54, 55, 56, 57, 97, 98, 99, 100, 101, 102]⟩ : ByteArray).extract ((ji4) : Int).toNat ((((ji4) + 1) % 256) : Int).toNat)) ++ ((⟨#[48, 49, 50, 51, 52, 53, 54, 55, 56, 57, 97, 98, 99, 100, 101, 102]⟩ : ByteArray).extract ((ji9) : Int).toNat ((((ji9) + 1) % 256) : Int).toNat))] (by rfl) rfl rfl (by (try simp only [List.map_toArray, List.map_cons, List.map_nil]); first | done | (simp only [hji4, hji9]; rfl) | rfl | (simp only [List.length_drop, List.length_take]; rfl)) ?_
                    with_reducible refine (redactorref17_cells.calls k (((⟨#[92, 120]⟩ : ByteArray) ++ ((⟨#[48, 49, 50, 51, 52, 53, 54, 55, 56, 57, 97, 98, 99, 100, 101, 102]⟩ : ByteArray).extract ((ji4) : Int).toNat ((((ji4) + 1) % 256) : Int).toNat)) ++ ((⟨#[48, 49, 50, 51, 52, 53, 54, 55, 56, 57, 97, 98, 99, 100, 101, 102]⟩ : ByteArray).extract ((ji9) : Int).toNat ((((ji9) + 1) % 256) : Int).toNat)) t204 _ A14.out).mono ?_
                    rintro e w16 ⟨v205, rfl, ho0, hb⟩
                    refine ⟨_, rfl, ?_⟩
                    have n0_ := Aside0.mk (Kd.R_lower ho0 (below_size (by repeat (first | (with_reducible first | exact HB.out | apply below_alloc | apply pw_below_drewN | apply below_drew1) | exact HB.out))))
                    have n1_ := Aside0.mk (below_step (by repeat (first | (with_reducible first | exact HB.out | apply below_alloc | apply pw_below_drewN | apply below_drew1) | exact HB.out)) hb)
                    clear HB
                    have HO206 := n0_
                    have HB := n1_
                    clear n0_ n1_
                    (try clear hb)
                    (try clear hb2)
                    (try clear hk)
                    (try clear hi)
                    (try clear ho0)
                    refine hK.out _ _ trivial (fun hHeld => ?_)
                    clear hK K
                    refine norm_ (a' := ?_) ?_ ?_
                    rotate_left
                    · show Act.put _ (some 26) _ = _
                      simp only [Act.put, List.setIfInBounds_toArray, List.set_cons_zero, List.set_cons_succ, i64_w, i32_w]
                      rfl
                    refine pure_ (i := 15) (N := some 2) (v := ?_) (a' := ?_) #[true, true, true, true, true, true, true, true, true, true, true, true, true, true, true, true] rfl rfl (any_of HT_.out (by kernel_rfl)) (fun _ _ _ h => h) (Or.inl ⟨by rfl, ?_⟩) ?_ ?_
                    rotate_left
                    · intro w'
                      go_simp
                      with_reducible rfl
                    rotate_left
                    · simp only [Act.put, List.setIfInBounds_toArray, List.set_cons_zero, List.set_cons_succ, i64_w, i32_w]
                      rfl
                    refine done_ (done_of HT_.out (by kernel_rfl)) ?_
                    try go_wp2
                    go_ret
                    exact ⟨_, by first | rfl | (simp [errW_none, errW_some] <;> rfl) | (simp only [← hji4, ← hji9]; first | rfl | (simp [errW_none, errW_some] <;> rfl)) | (simp [*, errW_none, errW_some] <;> rfl), by (with_reducible repeat (first | apply Kd.R_alloc | apply Kd.R_drewN | apply Kd.R_drew)); exact HO206.out, by repeat (first | (with_reducible first | exact HB.out | apply below_alloc | apply pw_below_drewN | apply below_drew1) | exact HB.out)⟩
                  · rw [if_neg c13] at H
                    exact absurd H (by simp)
                · rw [if_neg c12] at H
                  exact absurd H (by simp)
              · rw [if_neg c11] at H
                exact absurd H (by simp)
            · rw [if_neg c10] at H
              exact absurd H (by simp)
          · rw [if_neg c8] at H
            exact absurd H (by simp)
        · rw [if_neg c7] at H
          exact absurd H (by simp)
      · rw [if_neg c6] at H
        exact absurd H (by simp)
    · rw [if_neg c5] at H
      exact absurd H (by simp)
  · replace c3 := Bool.eq_false_iff.mpr c3
    subst c3
    have H1 : ((redactorref01_Right.f a0).bind fun t207 => (if t207 = true then (if a0 = 92 then ((redactorref17_cells.f k (⟨#[92, 92]⟩ : ByteArray)).bind fun t208 => (some t208)) else (if a0 ≥ 7 then (redactorref17_sign.j0 k a0 (decide (a0 ≤ 13))) else (redactorref17_sign.j0 k a0 false))) else ((redactorref17_cells.f k (⟨#[92, 63]⟩ : ByteArray)).bind fun t226 => (some t226)))) = some r := by rw [if_neg (show ¬ (false = true) by decide)] at H; exact H
    clear H
    have H := H1
    clear H1
    replace H := Option.bind_eq_some_iff.mp H
    obtain ⟨t207, A170, H⟩ := H
    replace H : (if t207 = true then (if a0 = 92 then ((redactorref17_cells.f k (⟨#[92, 92]⟩ : ByteArray)).bind fun t208 => (some t208)) else (if a0 ≥ 7 then (redactorref17_sign.j0 k a0 (decide (a0 ≤ 13))) else (redactorref17_sign.j0 k a0 false))) else ((redactorref17_cells.f k (⟨#[92, 63]⟩ : ByteArray)).bind fun t226 => (some t226))) = some r := H
    have A17 := Aside0.mk A170
    clear A170
    by_cases c18 : t207 = true
    · subst c18
      have H1 : (if a0 = 92 then ((redactorref17_cells.f k (⟨#[92, 92]⟩ : ByteArray)).bind fun t208 => (some t208)) else (if a0 ≥ 7 then (redactorref17_sign.j0 k a0 (decide (a0 ≤ 13))) else (redactorref17_sign.j0 k a0 false))) = some r := by rw [if_pos rfl] at H; exact H
      clear H
      have H := H1
      clear H1
      by_cases c19 : a0 = 92
      · rw [if_pos c19] at H
        have c19b0 : (a0 == 92) = true := beq_iff_eq.mpr c19
        have c19b1 : (a0 != 92) = false := bne_eq_false_iff_eq.mpr c19
        clear c19
        replace H := Option.bind_eq_some_iff.mp H
        obtain ⟨t208, A200, H⟩ := H
        replace H : (some t208) = some r := H
        have A20 := Aside0.mk A200
        clear A200
        obtain rfl := Option.some.inj H
        go_enter Tryd.func57, Tryd.ntmps57
        go_wp2_with (first | ((with_reducible refine gate_callee (f := 33) rfl ?_); refine goesL_ (some 7) rfl rfl Tryd.func33 (by kernel_rfl) rfl #[.int .i32 a0] rfl (by (try simp only [List.map_toArray, List.map_cons, List.map_nil]); first | done | rfl | (simp only [List.length_drop, List.length_take]; rfl)) ?_; (with_reducible refine (redactorref01_Byte.calls a0 t202 false _ A2.out).mono ?_); rintro e w' ⟨rfl, ⟨nd, rfl⟩⟩; refine ⟨_, rfl, ?_⟩) | ((with_reducible refine gate_callee (f := 36) rfl ?_); refine goesL_ (some 29) rfl rfl Tryd.func36 (by kernel_rfl) rfl #[.int .i32 a0] rfl (by (try simp only [List.map_toArray, List.map_cons, List.map_nil]); first | done | rfl | (simp only [List.length_drop, List.length_take]; rfl)) ?_; (with_reducible refine (redactorref01_Right.calls a0 true _ A17.out).mono ?_); rintro e w' ⟨rfl, ⟨nd, rfl⟩⟩; refine ⟨_, rfl, ?_⟩) | ((with_reducible refine gate_callee (f := 84) rfl ?_); refine goesL_ (some 35) rfl rfl Tryd.func84 (by kernel_rfl) rfl #[.string (⟨#[92, 92]⟩ : ByteArray)] rfl (by (try simp only [List.map_toArray, List.map_cons, List.map_nil]); first | done | rfl | (simp only [List.length_drop, List.length_take]; rfl)) ?_; (with_reducible refine (redactorref17_cells.calls k (⟨#[92, 92]⟩ : ByteArray) t208 _ A20.out).mono ?_); rintro e w21 ⟨v209, rfl, ho0, hb⟩; refine ⟨_, rfl, ?_⟩; have n0_ := Aside0.mk (Kd.R_lower ho0 (below_size (by repeat (first | (with_reducible first | exact HB.out | apply below_alloc | apply pw_below_drewN | apply below_drew1) | exact HB.out)))); have n1_ := Aside0.mk (below_step (by repeat (first | (with_reducible first | exact HB.out | apply below_alloc | apply pw_below_drewN | apply below_drew1) | exact HB.out)) hb); clear HB; have HO210 := n0_; have HB := n1_; clear n0_ n1_; (try clear hb); (try clear hb2); (try clear hk); (try clear hi); (try clear ho0)))
        go_ret
        exact ⟨_, by first | rfl | (simp [errW_none, errW_some] <;> rfl) | (simp [*, errW_none, errW_some] <;> rfl), by (with_reducible repeat (first | apply Kd.R_alloc | apply Kd.R_drewN | apply Kd.R_drew)); exact HO210.out, by repeat (first | (with_reducible first | exact HB.out | apply below_alloc | apply pw_below_drewN | apply below_drew1) | exact HB.out)⟩
      · rw [if_neg c19] at H
        have c19b0 : (a0 == 92) = false := beq_eq_false_iff_ne.mpr c19
        have c19b1 : (a0 != 92) = true := bne_iff_ne.mpr c19
        have HC22 := Aside0.mk H
        clear H
        go_enter Tryd.func57, Tryd.ntmps57
        go_upto_region 8 with (first | ((with_reducible refine gate_callee (f := 33) rfl ?_); refine goesL_ (some 7) rfl rfl Tryd.func33 (by kernel_rfl) rfl #[.int .i32 a0] rfl (by (try simp only [List.map_toArray, List.map_cons, List.map_nil]); first | done | rfl | (simp only [List.length_drop, List.length_take]; rfl)) ?_; (with_reducible refine (redactorref01_Byte.calls a0 t202 false _ A2.out).mono ?_); rintro e w' ⟨rfl, ⟨nd, rfl⟩⟩; refine ⟨_, rfl, ?_⟩) | ((with_reducible refine gate_callee (f := 36) rfl ?_); refine goesL_ (some 29) rfl rfl Tryd.func36 (by kernel_rfl) rfl #[.int .i32 a0] rfl (by (try simp only [List.map_toArray, List.map_cons, List.map_nil]); first | done | rfl | (simp only [List.length_drop, List.length_take]; rfl)) ?_; (with_reducible refine (redactorref01_Right.calls a0 true _ A17.out).mono ?_); rintro e w' ⟨rfl, ⟨nd, rfl⟩⟩; refine ⟨_, rfl, ?_⟩))
        (try simp only [Act.put, List.setIfInBounds_toArray, List.set_cons_zero, List.set_cons_succ])
        go_cut [36] (fun v36 wc => ∃ (kq : Nat) (x36_21 : Bool), v36 = .bool x36_21 ∧ Aside0 (redactorref17_sign.j0 kq a0 x36_21 = some r) ∧ Aside0 (kq ≤ k) ∧ Aside0 (Below w.heap.size w wc))
        case first =>
          have H := HC22.out
          clear HC22
          by_cases c23 : a0 ≥ 7
          · rw [if_pos c23] at H
            have c23b0 : decide (7 ≤ a0) = true := decide_eq_true c23
            clear c23
            (first | rw [c23b0] | (simp only [i64_w, i32_w]; rw [c23b0]) | skip)
            have H' := Aside0.mk H
            clear H
            go_wp2
            go_meet
            case rel => exact ⟨_, (decide (a0 ≤ 13)), (by first | rfl | (simp; done) | (simp [*]; done)), H', ⟨by first | omega | exact Nat.le_refl _⟩, ⟨by repeat (first | (with_reducible first | exact HB.out | apply below_alloc | apply pw_below_drewN | apply below_drew1) | exact HB.out)⟩⟩
          · rw [if_neg c23] at H
            have c23b0 : decide (7 ≤ a0) = false := decide_eq_false c23
            clear c23
            (first | rw [c23b0] | (simp only [i64_w, i32_w]; rw [c23b0]) | skip)
            have H' := Aside0.mk H
            clear H
            go_wp2
            go_meet
            case rel => exact ⟨_, (false), (by first | rfl | (simp; done) | (simp [*]; done)), H', ⟨by first | omega | exact Nat.le_refl _⟩, ⟨by repeat (first | (with_reducible first | exact HB.out | apply below_alloc | apply pw_below_drewN | apply below_drew1) | exact HB.out)⟩⟩
        case rest =>
          clear HC22
          try clear c1
          try clear c2
          try clear p2
          try clear c3
          try clear c5
          try clear c5b0
          try clear c5b1
          try clear c6
          try clear c6b0
          try clear c6b1
          try clear c7
          try clear c7b0
          try clear c7b1
          try clear c8
          try clear c8b0
          try clear c8b1
          try clear c8b2
          try clear c10
          try clear c10b0
          try clear c10b1
          try clear c11
          try clear c11b0
          try clear c11b1
          try clear c12
          try clear c12b0
          try clear c12b1
          try clear c13
          try clear c13b0
          try clear c13b1
          try clear c13b2
          try clear c18
          try clear c19
          try clear c19b0
          try clear c19b1
          try clear c23
          try clear c23b0
          obtain ⟨kq, x36_21, rfl, HA, HJ21, HB⟩ := hcut
          cases kq with
          | zero => exact absurd HA.out (by simp [redactorref17_sign.j0])
          | succ kj21 =>
            have H := HA.out
            clear HA
            simp only [redactorref17_sign.j0] at H
            by_cases c24 : x36_21 = true
            · subst c24
              have H1 : (if 0 ≤ (wrap32 (a0 - 7)) then (if (wrap32 (a0 - 7)) ≤ (wrap32 (a0 - 6)) then (if (wrap32 (a0 - 6)) ≤ 7 then (if 1 + ((⟨#[97, 98, 116, 110, 118, 102, 114]⟩ : ByteArray).extract ((wrap32 (a0 - 7)) : Int).toNat ((wrap32 (a0 - 6)) : Int).toNat).size ≤ 9223372036854775807 then ((redactorref17_cells.f kj21 ((⟨#[92]⟩ : ByteArray) ++ ((⟨#[97, 98, 116, 110, 118, 102, 114]⟩ : ByteArray).extract ((wrap32 (a0 - 7)) : Int).toNat ((wrap32 (a0 - 6)) : Int).toNat))).bind fun t211 => (some t211)) else (none)) else (none)) else (none)) else (none)) = some r := by rw [if_pos rfl] at H; exact H
              clear H
              have H := H1
              clear H1
              obtain ⟨ji25, hji25⟩ : ∃ j_ : Int, (wrap32 (a0 - 7)) = j_ := ⟨_, rfl⟩
              replace H : (if 0 ≤ (ji25) then (if (ji25) ≤ (wrap32 (a0 - 6)) then (if (wrap32 (a0 - 6)) ≤ 7 then (if 1 + ((⟨#[97, 98, 116, 110, 118, 102, 114]⟩ : ByteArray).extract ((ji25) : Int).toNat ((wrap32 (a0 - 6)) : Int).toNat).size ≤ 9223372036854775807 then ((redactorref17_cells.f kj21 ((⟨#[92]⟩ : ByteArray) ++ ((⟨#[97, 98, 116, 110, 118, 102, 114]⟩ : ByteArray).extract ((ji25) : Int).toNat ((wrap32 (a0 - 6)) : Int).toNat))).bind fun t211 => (some t211)) else (none)) else (none)) else (none)) else (none)) = some r := by first | (rw [hji25] at H; exact H) | (simp only [hji25] at H ⊢; exact H)
              have hji25w : (IntKind.i32.wrap (a0 - 7)) = ji25 := (i32_w _).trans hji25
              by_cases c26 : 0 ≤ (ji25)
              · rw [if_pos c26] at H
                have c26b0 := eq_true c26
                have c26b1 : decide (0 ≤ (ji25)) = true := decide_eq_true c26
                clear c26
                by_cases c27 : (ji25) ≤ (wrap32 (a0 - 6))
                · rw [if_pos c27] at H
                  have c27b0 := eq_true c27
                  have c27b1 : decide ((ji25) ≤ (wrap32 (a0 - 6))) = true := decide_eq_true c27
                  clear c27
                  by_cases c28 : (wrap32 (a0 - 6)) ≤ 7
                  · rw [if_pos c28] at H
                    have c28b0 := eq_true c28
                    have c28b1 : decide ((wrap32 (a0 - 6)) ≤ 7) = true := decide_eq_true c28
                    clear c28
                    by_cases c29 : 1 + ((⟨#[97, 98, 116, 110, 118, 102, 114]⟩ : ByteArray).extract ((ji25) : Int).toNat ((wrap32 (a0 - 6)) : Int).toNat).size ≤ 9223372036854775807
                    · rw [if_pos c29] at H
                      have c29b0 := eq_true c29
                      have c29b1 : decide (1 + ((⟨#[97, 98, 116, 110, 118, 102, 114]⟩ : ByteArray).extract ((ji25) : Int).toNat ((wrap32 (a0 - 6)) : Int).toNat).size ≤ 9223372036854775807) = true := decide_eq_true c29
                      try have c29b2 : (9223372036854775807 < 1 + ((⟨#[97, 98, 116, 110, 118, 102, 114]⟩ : ByteArray).extract ((ji25) : Int).toNat ((wrap32 (a0 - 6)) : Int).toNat).size) = False := eq_false (Nat.not_lt.2 c29)
                      try have c29b3 : (9223372036854775807 < 1 + ((wrap32 (a0 - 6)).toNat - (ji25).toNat)) = False := eq_false (by first | omega | (unfold wrap32; omega))
                      replace H := Option.bind_eq_some_iff.mp H
                      obtain ⟨t211, A300, H⟩ := H
                      replace H : (some t211) = some r := H
                      have A30 := Aside0.mk A300
                      clear A300
                      obtain rfl := Option.some.inj H
                      go_wp2_with (first | ((with_reducible refine gate_callee (f := 84) rfl ?_); refine goesL_ (some 49) rfl rfl Tryd.func84 (by kernel_rfl) rfl #[.string ((⟨#[92]⟩ : ByteArray) ++ ((⟨#[97, 98, 116, 110, 118, 102, 114]⟩ : ByteArray).extract ((ji25) : Int).toNat ((wrap32 (a0 - 6)) : Int).toNat))] rfl (by (try simp only [List.map_toArray, List.map_cons, List.map_nil]); first | done | (simp only [hji25]; rfl) | rfl | (simp only [List.length_drop, List.length_take]; rfl)) ?_; (with_reducible refine (redactorref17_cells.calls kj21 ((⟨#[92]⟩ : ByteArray) ++ ((⟨#[97, 98, 116, 110, 118, 102, 114]⟩ : ByteArray).extract ((ji25) : Int).toNat ((wrap32 (a0 - 6)) : Int).toNat)) t211 _ A30.out).mono ?_); rintro e w31 ⟨v212, rfl, ho0, hb⟩; refine ⟨_, rfl, ?_⟩; have n0_ := Aside0.mk (Kd.R_lower ho0 (below_size (by repeat (first | (with_reducible first | exact HB.out | apply below_alloc | apply pw_below_drewN | apply below_drew1) | exact HB.out)))); have n1_ := Aside0.mk (below_step (by repeat (first | (with_reducible first | exact HB.out | apply below_alloc | apply pw_below_drewN | apply below_drew1) | exact HB.out)) hb); clear HB; have HO213 := n0_; have HB := n1_; clear n0_ n1_; (try clear hb); (try clear hb2); (try clear hk); (try clear hi); (try clear ho0)))
                      go_ret
                      exact ⟨_, by first | rfl | (simp [errW_none, errW_some] <;> rfl) | (simp only [← hji25]; first | rfl | (simp [errW_none, errW_some] <;> rfl)) | (simp [*, errW_none, errW_some] <;> rfl), by (with_reducible repeat (first | apply Kd.R_alloc | apply Kd.R_drewN | apply Kd.R_drew)); exact HO213.out, by repeat (first | (with_reducible first | exact HB.out | apply below_alloc | apply pw_below_drewN | apply below_drew1) | exact HB.out)⟩
                    · rw [if_neg c29] at H
                      exact absurd H (by simp)
                  · rw [if_neg c28] at H
                    exact absurd H (by simp)
                · rw [if_neg c27] at H
                  exact absurd H (by simp)
              · rw [if_neg c26] at H
                exact absurd H (by simp)
            · replace c24 := Bool.eq_false_iff.mpr c24
              subst c24
              have H1 : (if a0 < 32 then (some (([92, wrap32 (48 + (wrap32 (Int.tdiv a0 64))), wrap32 (48 + (Int.tmod (wrap32 (Int.tdiv a0 8)) 8)), wrap32 (48 + (Int.tmod a0 8))] : List Int))) else (if a0 ≥ 127 then (if a0 ≤ 159 then (some (([92, wrap32 (48 + (wrap32 (Int.tdiv a0 64))), wrap32 (48 + (Int.tmod (wrap32 (Int.tdiv a0 8)) 8)), wrap32 (48 + (Int.tmod a0 8))] : List Int))) else (some (([a0] : List Int)))) else (some (([a0] : List Int))))) = some r := by rw [if_neg (show ¬ (false = true) by decide)] at H; exact H
              clear H
              have H := H1
              clear H1
              by_cases c32 : a0 < 32
              · rw [if_pos c32] at H
                have c32b0 : decide (a0 < 32) = true := decide_eq_true c32
                clear c32
                obtain ⟨y214, hy214⟩ : ∃ y_ : List Int, y_ = (([92, wrap32 (48 + (wrap32 (Int.tdiv a0 64))), wrap32 (48 + (Int.tmod (wrap32 (Int.tdiv a0 8)) 8)), wrap32 (48 + (Int.tmod a0 8))] : List Int)) := ⟨_, rfl⟩
                replace H : (some y214) = some r := by first | (rw [hy214]; with_reducible exact H) | (have H2_ := (Option.bind_some _ _).symm.trans H; rw [hy214]; with_reducible exact H2_) | (have H2_ := (Option.bind_some _ _).symm.trans H; with_reducible exact H2_) | with_reducible exact H | (rw [hy214]; exact H) | exact H
                have Ny214 := Aside0.mk hy214
                clear hy214
                obtain rfl := Option.some.inj H
                go_wp2_with (first | ((with_reducible refine gate_dst (N := 71) rfl ?_); refine Kd.R_lit (Kd.int .i32) _ 24 ?hg (N := 71) ?hd (xs := ([92, wrap32 (48 + (wrap32 (Int.tdiv a0 64))), wrap32 (48 + (Int.tmod (wrap32 (Int.tdiv a0 8)) 8)), wrap32 (48 + (Int.tmod a0 8))] : List Int)) (inner := [.int .i32 92, .int .i32 (wrap32 (48 + (wrap32 (Int.tdiv a0 64)))), .int .i32 (wrap32 (48 + (Int.tmod (wrap32 (Int.tdiv a0 8)) 8))), .int .i32 (wrap32 (48 + (Int.tmod a0 8)))]) (ok := fun _ => True) (okp := fun _ => True) ?hr ?hp (fun _ hk => hk) trivial (Below.refl _ _) (Nat.le_refl _) (by simp) ?_; (case hd => rfl); (case hg => rfl); (case hr => first | (go_simp; done) | (go_simp; rfl)); (case hp => exact (Reps.one (show Kd.M (Kd.int .i32) _ _ _ 92 [.int .i32 92] from rfl) (Reps.one (show Kd.M (Kd.int .i32) _ _ _ (wrap32 (48 + (wrap32 (Int.tdiv a0 64)))) [.int .i32 (wrap32 (48 + (wrap32 (Int.tdiv a0 64))))] from rfl) (Reps.one (show Kd.M (Kd.int .i32) _ _ _ (wrap32 (48 + (Int.tmod (wrap32 (Int.tdiv a0 8)) 8))) [.int .i32 (wrap32 (48 + (Int.tmod (wrap32 (Int.tdiv a0 8)) 8)))] from rfl) (Reps.one (show Kd.M (Kd.int .i32) _ _ _ (wrap32 (48 + (Int.tmod a0 8))) [.int .i32 (wrap32 (48 + (Int.tmod a0 8)))] from rfl) (Reps.none _ _)))))); intro v215 w33 ho34 hb hg_ hnew_; clear hg_ hnew_; (first | rw [← Ny214.out] at ho34 | (simp only [Int.reduceToNat] at ho34; rw [← Ny214.out] at ho34)); have n0_ := Aside0.mk (Kd.R_lower ho34 (below_size (by repeat (first | (with_reducible first | exact HB.out | apply below_alloc | apply pw_below_drewN | apply below_drew1) | exact HB.out)))); have n1_ := Aside0.mk (below_step (by repeat (first | (with_reducible first | exact HB.out | apply below_alloc | apply pw_below_drewN | apply below_drew1) | exact HB.out)) hb); clear HB; have HO216 := n0_; have HB := n1_; clear n0_ n1_; clear hb ho34))
                go_ret
                exact ⟨_, by first | rfl | (simp [errW_none, errW_some] <;> rfl) | (simp [*, errW_none, errW_some] <;> rfl), by (with_reducible repeat (first | apply Kd.R_alloc | apply Kd.R_drewN | apply Kd.R_drew)); exact HO216.out, by repeat (first | (with_reducible first | exact HB.out | apply below_alloc | apply pw_below_drewN | apply below_drew1) | exact HB.out)⟩
              · rw [if_neg c32] at H
                have c32b0 : decide (a0 < 32) = false := decide_eq_false c32
                clear c32
                by_cases c35 : a0 ≥ 127
                · rw [if_pos c35] at H
                  have c35b0 : decide (127 ≤ a0) = true := decide_eq_true c35
                  clear c35
                  by_cases c36 : a0 ≤ 159
                  · rw [if_pos c36] at H
                    have c36b0 : decide (a0 ≤ 159) = true := decide_eq_true c36
                    clear c36
                    obtain ⟨y217, hy217⟩ : ∃ y_ : List Int, y_ = (([92, wrap32 (48 + (wrap32 (Int.tdiv a0 64))), wrap32 (48 + (Int.tmod (wrap32 (Int.tdiv a0 8)) 8)), wrap32 (48 + (Int.tmod a0 8))] : List Int)) := ⟨_, rfl⟩
                    replace H : (some y217) = some r := by first | (rw [hy217]; with_reducible exact H) | (have H2_ := (Option.bind_some _ _).symm.trans H; rw [hy217]; with_reducible exact H2_) | (have H2_ := (Option.bind_some _ _).symm.trans H; with_reducible exact H2_) | with_reducible exact H | (rw [hy217]; exact H) | exact H
                    have Ny217 := Aside0.mk hy217
                    clear hy217
                    obtain rfl := Option.some.inj H
                    go_wp2_with (first | ((with_reducible refine gate_dst (N := 71) rfl ?_); refine Kd.R_lit (Kd.int .i32) _ 24 ?hg (N := 71) ?hd (xs := ([92, wrap32 (48 + (wrap32 (Int.tdiv a0 64))), wrap32 (48 + (Int.tmod (wrap32 (Int.tdiv a0 8)) 8)), wrap32 (48 + (Int.tmod a0 8))] : List Int)) (inner := [.int .i32 92, .int .i32 (wrap32 (48 + (wrap32 (Int.tdiv a0 64)))), .int .i32 (wrap32 (48 + (Int.tmod (wrap32 (Int.tdiv a0 8)) 8))), .int .i32 (wrap32 (48 + (Int.tmod a0 8)))]) (ok := fun _ => True) (okp := fun _ => True) ?hr ?hp (fun _ hk => hk) trivial (Below.refl _ _) (Nat.le_refl _) (by simp) ?_; (case hd => rfl); (case hg => rfl); (case hr => first | (go_simp; done) | (go_simp; rfl)); (case hp => exact (Reps.one (show Kd.M (Kd.int .i32) _ _ _ 92 [.int .i32 92] from rfl) (Reps.one (show Kd.M (Kd.int .i32) _ _ _ (wrap32 (48 + (wrap32 (Int.tdiv a0 64)))) [.int .i32 (wrap32 (48 + (wrap32 (Int.tdiv a0 64))))] from rfl) (Reps.one (show Kd.M (Kd.int .i32) _ _ _ (wrap32 (48 + (Int.tmod (wrap32 (Int.tdiv a0 8)) 8))) [.int .i32 (wrap32 (48 + (Int.tmod (wrap32 (Int.tdiv a0 8)) 8)))] from rfl) (Reps.one (show Kd.M (Kd.int .i32) _ _ _ (wrap32 (48 + (Int.tmod a0 8))) [.int .i32 (wrap32 (48 + (Int.tmod a0 8)))] from rfl) (Reps.none _ _)))))); intro v218 w37 ho38 hb hg_ hnew_; clear hg_ hnew_; (first | rw [← Ny217.out] at ho38 | (simp only [Int.reduceToNat] at ho38; rw [← Ny217.out] at ho38)); have n0_ := Aside0.mk (Kd.R_lower ho38 (below_size (by repeat (first | (with_reducible first | exact HB.out | apply below_alloc | apply pw_below_drewN | apply below_drew1) | exact HB.out)))); have n1_ := Aside0.mk (below_step (by repeat (first | (with_reducible first | exact HB.out | apply below_alloc | apply pw_below_drewN | apply below_drew1) | exact HB.out)) hb); clear HB; have HO219 := n0_; have HB := n1_; clear n0_ n1_; clear hb ho38))
                    go_ret
                    exact ⟨_, by first | rfl | (simp [errW_none, errW_some] <;> rfl) | (simp [*, errW_none, errW_some] <;> rfl), by (with_reducible repeat (first | apply Kd.R_alloc | apply Kd.R_drewN | apply Kd.R_drew)); exact HO219.out, by repeat (first | (with_reducible first | exact HB.out | apply below_alloc | apply pw_below_drewN | apply below_drew1) | exact HB.out)⟩
                  · rw [if_neg c36] at H
                    have c36b0 : decide (a0 ≤ 159) = false := decide_eq_false c36
                    clear c36
                    obtain ⟨y220, hy220⟩ : ∃ y_ : List Int, y_ = (([a0] : List Int)) := ⟨_, rfl⟩
                    replace H : (some y220) = some r := by first | (rw [hy220]; with_reducible exact H) | (have H2_ := (Option.bind_some _ _).symm.trans H; rw [hy220]; with_reducible exact H2_) | (have H2_ := (Option.bind_some _ _).symm.trans H; with_reducible exact H2_) | with_reducible exact H | (rw [hy220]; exact H) | exact H
                    have Ny220 := Aside0.mk hy220
                    clear hy220
                    obtain rfl := Option.some.inj H
                    go_wp2_with (first | ((with_reducible refine gate_dst (N := 73) rfl ?_); refine Kd.R_lit (Kd.int .i32) _ 24 ?hg (N := 73) ?hd (xs := ([a0] : List Int)) (inner := [.int .i32 a0]) (ok := fun _ => True) (okp := fun _ => True) ?hr ?hp (fun _ hk => hk) trivial (Below.refl _ _) (Nat.le_refl _) (by simp) ?_; (case hd => rfl); (case hg => rfl); (case hr => first | (go_simp; done) | (go_simp; rfl)); (case hp => exact (Reps.one (show Kd.M (Kd.int .i32) _ _ _ a0 [.int .i32 a0] from rfl) (Reps.none _ _))); intro v221 w39 ho40 hb hg_ hnew_; clear hg_ hnew_; (first | rw [← Ny220.out] at ho40 | (simp only [Int.reduceToNat] at ho40; rw [← Ny220.out] at ho40)); have n0_ := Aside0.mk (Kd.R_lower ho40 (below_size (by repeat (first | (with_reducible first | exact HB.out | apply below_alloc | apply pw_below_drewN | apply below_drew1) | exact HB.out)))); have n1_ := Aside0.mk (below_step (by repeat (first | (with_reducible first | exact HB.out | apply below_alloc | apply pw_below_drewN | apply below_drew1) | exact HB.out)) hb); clear HB; have HO222 := n0_; have HB := n1_; clear n0_ n1_; clear hb ho40))
                    go_ret
                    exact ⟨_, by first | rfl | (simp [errW_none, errW_some] <;> rfl) | (simp [*, errW_none, errW_some] <;> rfl), by (with_reducible repeat (first | apply Kd.R_alloc | apply Kd.R_drewN | apply Kd.R_drew)); exact HO222.out, by repeat (first | (with_reducible first | exact HB.out | apply below_alloc | apply pw_below_drewN | apply below_drew1) | exact HB.out)⟩
                · rw [if_neg c35] at H
                  have c35b0 : decide (127 ≤ a0) = false := decide_eq_false c35
                  clear c35
                  obtain ⟨y223, hy223⟩ : ∃ y_ : List Int, y_ = (([a0] : List Int)) := ⟨_, rfl⟩
                  replace H : (some y223) = some r := by first | (rw [hy223]; with_reducible exact H) | (have H2_ := (Option.bind_some _ _).symm.trans H; rw [hy223]; with_reducible exact H2_) | (have H2_ := (Option.bind_some _ _).symm.trans H; with_reducible exact H2_) | with_reducible exact H | (rw [hy223]; exact H) | exact H
                  have Ny223 := Aside0.mk hy223
                  clear hy223
                  obtain rfl := Option.some.inj H
                  go_wp2_with (first | ((with_reducible refine gate_dst (N := 73) rfl ?_); refine Kd.R_lit (Kd.int .i32) _ 24 ?hg (N := 73) ?hd (xs := ([a0] : List Int)) (inner := [.int .i32 a0]) (ok := fun _ => True) (okp := fun _ => True) ?hr ?hp (fun _ hk => hk) trivial (Below.refl _ _) (Nat.le_refl _) (by simp) ?_; (case hd => rfl); (case hg => rfl); (case hr => first | (go_simp; done) | (go_simp; rfl)); (case hp => exact (Reps.one (show Kd.M (Kd.int .i32) _ _ _ a0 [.int .i32 a0] from rfl) (Reps.none _ _))); intro v224 w41 ho42 hb hg_ hnew_; clear hg_ hnew_; (first | rw [← Ny223.out] at ho42 | (simp only [Int.reduceToNat] at ho42; rw [← Ny223.out] at ho42)); have n0_ := Aside0.mk (Kd.R_lower ho42 (below_size (by repeat (first | (with_reducible first | exact HB.out | apply below_alloc | apply pw_below_drewN | apply below_drew1) | exact HB.out)))); have n1_ := Aside0.mk (below_step (by repeat (first | (with_reducible first | exact HB.out | apply below_alloc | apply pw_below_drewN | apply below_drew1) | exact HB.out)) hb); clear HB; have HO225 := n0_; have HB := n1_; clear n0_ n1_; clear hb ho42))
                  go_ret
                  exact ⟨_, by first | rfl | (simp [errW_none, errW_some] <;> rfl) | (simp [*, errW_none, errW_some] <;> rfl), by (with_reducible repeat (first | apply Kd.R_alloc | apply Kd.R_drewN | apply Kd.R_drew)); exact HO225.out, by repeat (first | (with_reducible first | exact HB.out | apply below_alloc | apply pw_below_drewN | apply below_drew1) | exact HB.out)⟩
    · replace c18 := Bool.eq_false_iff.mpr c18
      subst c18
      have H1 : ((redactorref17_cells.f k (⟨#[92, 63]⟩ : ByteArray)).bind fun t226 => (some t226)) = some r := by rw [if_neg (show ¬ (false = true) by decide)] at H; exact H
      clear H
      have H := H1
      clear H1
      replace H := Option.bind_eq_some_iff.mp H
      obtain ⟨t226, A430, H⟩ := H
      replace H : (some t226) = some r := H
      have A43 := Aside0.mk A430
      clear A430
      obtain rfl := Option.some.inj H
      go_enter Tryd.func57, Tryd.ntmps57
      go_wp2_with (first | ((with_reducible refine gate_callee (f := 33) rfl ?_); refine goesL_ (some 7) rfl rfl Tryd.func33 (by kernel_rfl) rfl #[.int .i32 a0] rfl (by (try simp only [List.map_toArray, List.map_cons, List.map_nil]); first | done | rfl | (simp only [List.length_drop, List.length_take]; rfl)) ?_; (with_reducible refine (redactorref01_Byte.calls a0 t202 false _ A2.out).mono ?_); rintro e w' ⟨rfl, ⟨nd, rfl⟩⟩; refine ⟨_, rfl, ?_⟩) | ((with_reducible refine gate_callee (f := 36) rfl ?_); refine goesL_ (some 29) rfl rfl Tryd.func36 (by kernel_rfl) rfl #[.int .i32 a0] rfl (by (try simp only [List.map_toArray, List.map_cons, List.map_nil]); first | done | rfl | (simp only [List.length_drop, List.length_take]; rfl)) ?_; (with_reducible refine (redactorref01_Right.calls a0 false _ A17.out).mono ?_); rintro e w' ⟨rfl, ⟨nd, rfl⟩⟩; refine ⟨_, rfl, ?_⟩) | ((with_reducible refine gate_callee (f := 84) rfl ?_); refine goesL_ (some 31) rfl rfl Tryd.func84 (by kernel_rfl) rfl #[.string (⟨#[92, 63]⟩ : ByteArray)] rfl (by (try simp only [List.map_toArray, List.map_cons, List.map_nil]); first | done | rfl | (simp only [List.length_drop, List.length_take]; rfl)) ?_; (with_reducible refine (redactorref17_cells.calls k (⟨#[92, 63]⟩ : ByteArray) t226 _ A43.out).mono ?_); rintro e w44 ⟨v227, rfl, ho0, hb⟩; refine ⟨_, rfl, ?_⟩; have n0_ := Aside0.mk (Kd.R_lower ho0 (below_size (by repeat (first | (with_reducible first | exact HB.out | apply below_alloc | apply pw_below_drewN | apply below_drew1) | exact HB.out)))); have n1_ := Aside0.mk (below_step (by repeat (first | (with_reducible first | exact HB.out | apply below_alloc | apply pw_below_drewN | apply below_drew1) | exact HB.out)) hb); clear HB; have HO228 := n0_; have HB := n1_; clear n0_ n1_; (try clear hb); (try clear hb2); (try clear hk); (try clear hi); (try clear ho0)))
      go_ret
      exact ⟨_, by first | rfl | (simp [errW_none, errW_some] <;> rfl) | (simp [*, errW_none, errW_some] <;> rfl), by (with_reducible repeat (first | apply Kd.R_alloc | apply Kd.R_drewN | apply Kd.R_drew)); exact HO228.out, by repeat (first | (with_reducible first | exact HB.out | apply below_alloc | apply pw_below_drewN | apply below_drew1) | exact HB.out)⟩

end Go.Proofs.YtcppmghhijffpaaDoor.X
