-- Written by xprint.py (a program of this claim's author) out of the translation. Not trusted: Lean checks it.
import Derived.Test.YtcppmghhijffpaaDoorX0
namespace Go.Proofs.YtcppmghhijffpaaDoor.X
open Go.RowKit Go.Proofs.YtcppmghhijffpaaDoorW.PrintWords Go.Proofs.YtcppmghhijffpaaDoorW.PrintLast Go.Proofs.YtcppmghhijffpaaDoorW.PrintMore
attribute [local go_sem] max2_int min2_int max_two min_two max_three min_three max_four min_four   -- for this text's walks alone
set_option linter.unusedVariables false
set_option linter.unusedSimpArgs false

/-! ### strconv_bool2_int: function 118 -/
def strconv_bool2_int.f (a0 : Bool) : Option (Int) := if a0 = true then (some 1) else (some 0)
set_option maxHeartbeats 8000000 in
set_option maxRecDepth 100000 in
theorem strconv_bool2_int.calls (a0 : Bool) (r : Int) (w : World) (h : strconv_bool2_int.f a0 = some r) :
    Calls Tryd.prog 118 #[.bool a0] w fun e w' => e = .returned (.int .i64 r) ∧ Drawn0 w w' := by
  have H : (if a0 = true then (some 1) else (some 0)) = some r := h
  clear h
  by_cases c2 : a0 = true
  · subst c2
    have H1 : (some 1) = some r := by rw [if_pos rfl] at H; exact H
    clear H
    have H := H1
    clear H1
    obtain rfl := Option.some.inj H
    go_enter Tryd.func118, Tryd.ntmps118
    go_wp2
    go_ret
    exact ⟨by first | rfl | (simp; done) | (simp [*]; done), by repeat (first | exact Drawn0.refl _ | apply Drawn0.step)⟩
  · replace c2 := Bool.eq_false_iff.mpr c2
    subst c2
    have H1 : (some 0) = some r := by rw [if_neg (show ¬ (false = true) by decide)] at H; exact H
    clear H
    have H := H1
    clear H1
    obtain rfl := Option.some.inj H
    go_enter Tryd.func118, Tryd.ntmps118
    go_wp2
    go_ret
    exact ⟨by first | rfl | (simp; done) | (simp [*]; done), by repeat (first | exact Drawn0.refl _ | apply Drawn0.step)⟩

-- NOT PRINTED: function 102 (strconv_numDigits)

-- NOT PRINTED: function 103 (strconv_formatBase10)

/-! ### strconv_isPowerOfTwo: function 119 -/
def strconv_isPowerOfTwo.f (a0 : Int) : Option (Bool) := some ((Go.bits .and .i64 a0 (wrap64 (a0 - 1))) == 0)
set_option maxHeartbeats 8000000 in
set_option maxRecDepth 100000 in
theorem strconv_isPowerOfTwo.calls (a0 : Int) (r : Bool) (w : World) (h : strconv_isPowerOfTwo.f a0 = some r) :
    Calls Tryd.prog 119 #[.int .i64 a0] w fun e w' => e = .returned (.bool r) ∧ Drawn0 w w' := by
  have H : (some ((Go.bits .and .i64 a0 (wrap64 (a0 - 1))) == 0)) = some r := h
  clear h
  obtain rfl := Option.some.inj H
  go_enter Tryd.func119, Tryd.ntmps119
  go_wp2
  go_ret
  exact ⟨by first | rfl | (simp; done) | (simp [*]; done), by repeat (first | exact Drawn0.refl _ | apply Drawn0.step)⟩

-- NOT PRINTED: function 124 (bits_TrailingZeros32)

-- NOT PRINTED: function 125 (bits_TrailingZeros64)

-- NOT PRINTED: function 120 (bits_TrailingZeros)

-- NOT PRINTED: function 104 (strconv_formatBits)

-- NOT PRINTED: function 87 (strconv_FormatInt_87)

/-! ### strconv_FormatInt_61: function 61 -/
def strconv_FormatInt_61.f (x0 : Int) (x1 : Int) : Option ByteArray := if 0 ≤ x0 then (if x0 < 4294967296 then (if x1 = 16 then (some (strOfNums (digs 16 31 x0.toNat))) else (if x1 = 8 then (some (strOfNums (digs 8 31 x0.toNat))) else (none))) else (none)) else (none)
theorem strconv_FormatInt_61.calls (a0 : Int) (a1 : Int) (r : ByteArray) (w : World) (ht : Tabs1 w) (h : strconv_FormatInt_61.f a0 a1 = some r) :
    Calls Tryd.prog 61 #[.int .i64 a0, .int .i64 a1] w fun e w' => e = .returned (.string r) ∧ Below w.heap.size w w' := by
  unfold strconv_FormatInt_61.f at h
  by_cases h0 : 0 ≤ a0
  · rw [if_pos h0] at h
    obtain ⟨n, rfl⟩ := Int.eq_ofNat_of_zero_le h0
    by_cases h1 : (n : Int) < 4294967296
    · rw [if_pos h1] at h
      by_cases h2 : a1 = 16
      · rw [if_pos h2] at h
        obtain rfl := Option.some.inj h
        subst h2
        exact fmt16 n (by omega) w ht
      · rw [if_neg h2] at h
        by_cases h3 : a1 = 8
        · rw [if_pos h3] at h
          obtain rfl := Option.some.inj h
          subst h3
          exact fmt8 n (by omega) w ht
        · rw [if_neg h3] at h
          cases h
    · rw [if_neg h1] at h
      cases h
  · rw [if_neg h0] at h
    cases h

-- NOT PRINTED: function 62 (strings_Builder_WriteByte)

-- NOT PRINTED: function 63 (strings_Builder_String)

/-! ### cell_Text: function 30 -/
def cell_Text.f (l0 : List Int) : Option ByteArray := if l0.length < 1099511627776 then (some (⟨(l0.flatMap txtL).toArray⟩ : ByteArray)) else (none)
theorem cell_Text.calls (A0 : Option Addr) (c0 : Nat) (l0 : List Int) (r : ByteArray) (w : World) (ht : Tabs1 w) (hr0 : Kd.C (Kd.int .i32) w A0 l0.length l0) (hc0 : l0.length ≤ c0) (h : cell_Text.f l0 = some r) :
    Calls Tryd.prog 30 #[.slice A0 l0.length c0] w fun e w' => e = .returned (.string r) ∧ Below w.heap.size w w' := by
  unfold cell_Text.f at h
  by_cases h0 : l0.length < 1099511627776
  · rw [if_pos h0] at h
    obtain rfl := Option.some.inj h
    exact text_walk A0 c0 l0 w ht hr0 hc0 h0
  · rw [if_neg h0] at h
    cases h

/-! ### cell_Escape: function 37 -/
def cell_Escape.f (a0 : Int) : Option (Int) := some (Go.bits .xor .i32 (-1) (wrap32 (a0)))
set_option maxHeartbeats 8000000 in
set_option maxRecDepth 100000 in
theorem cell_Escape.calls (a0 : Int) (r : Int) (w : World) (h : cell_Escape.f a0 = some r) :
    Calls Tryd.prog 37 #[.int .u8 a0] w fun e w' => e = .returned (.int .i32 r) ∧ Drawn0 w w' := by
  have H : (some (Go.bits .xor .i32 (-1) (wrap32 (a0)))) = some r := h
  clear h
  obtain rfl := Option.some.inj H
  go_enter Tryd.func37, Tryd.ntmps37
  go_wp2
  go_ret
  exact ⟨by first | rfl | (simp; done) | (simp [*]; done), by repeat (first | exact Drawn0.refl _ | apply Drawn0.step)⟩

-- NOT PRINTED: function 88 (utf8_decodeRuneInStringSlow)

-- NOT PRINTED: function 64 (utf8_DecodeRuneInString)

/-! ### cell_Of: function 31 -/
def cell_Of.f (x0 : ByteArray) : Option (List Int) := if x0.size < 35184372088832 then (some (ofAll x0)) else (none)
theorem cell_Of.calls (a0 : ByteArray) (r : List Int) (w : World) (ht : Tabs2 w) (h : cell_Of.f a0 = some r) :
    Calls Tryd.prog 31 #[.string a0] w fun e w' => ∃ v0_ : Value, e = .returned (v0_) ∧ Kd.R (Kd.int .i32) 24 w' w.heap.size (fun _ => True) v0_ r ∧ Below w.heap.size w w' := by
  unfold cell_Of.f at h
  by_cases h0 : a0.size < 35184372088832
  · rw [if_pos h0] at h
    obtain rfl := Option.some.inj h
    exact of_walk a0 h0 w ht
  · rw [if_neg h0] at h
    cases h

end Go.Proofs.YtcppmghhijffpaaDoor.X
