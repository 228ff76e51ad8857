import Derived.Test.YtcppmghhijffpaaDoorTabs
import Derived.Test.YtcppmghhijffpaaDoorWWords
import Derived.WalkKit
import Derived.Deep.LoopGhost
import Derived.OneCell
import Derived.RowKit
import Derived.Laws.BitsLemmas
/-! Numbers as texts: strconv.FormatInt at the bases 16 and 8. -/
namespace Go.Proofs.YtcppmghhijffpaaDoorW.PrintMore
open Go.RowKit Go.Proofs.YtcppmghhijffpaaDoorW.PrintWords

theorem tz16 (w : World) (ht : Tabs1 w) : Calls Tryd.prog 125 #[.int .u64 16] w fun e w' => e = .returned (.int .i64 4) ∧ w = w' := by
  have hc : w.cell? ⟨4, 15, none⟩ = some (.int .u8 4) := ht.1.cell gBruijn 15 (by decide)
  have e : IntKind.u64.wrap (Go.bits .and .u64 16 (IntKind.u64.wrap (-16)) * 285870213051353865) / 288230376151711744 = 15 := by kernel_rfl
  go_enter Tryd.func125, Tryd.ntmps125
  go_wp2
  go_ret
  exact ⟨rfl, rfl⟩
theorem tz8 (w : World) (ht : Tabs1 w) : Calls Tryd.prog 125 #[.int .u64 8] w fun e w' => e = .returned (.int .i64 3) ∧ w = w' := by
  have hc : w.cell? ⟨4, 7, none⟩ = some (.int .u8 3) := ht.1.cell gBruijn 7 (by decide)
  have e : IntKind.u64.wrap (Go.bits .and .u64 8 (IntKind.u64.wrap (-8)) * 285870213051353865) / 288230376151711744 = 7 := by kernel_rfl
  go_enter Tryd.func125, Tryd.ntmps125
  go_wp2
  go_ret
  exact ⟨rfl, rfl⟩
theorem trail16 (w : World) (ht : Tabs1 w) : Calls Tryd.prog 120 #[.int .u64 16] w fun e w' => e = .returned (.int .i64 4) ∧ w = w' := by
  go_enter Tryd.func120, Tryd.ntmps120
  go_wp2_with (go_at_call 125; refine (tz16 _ ht).mono ?_; rintro e w' ⟨rfl, rfl⟩)
  go_ret
  exact ⟨rfl, rfl⟩
theorem trail8 (w : World) (ht : Tabs1 w) : Calls Tryd.prog 120 #[.int .u64 8] w fun e w' => e = .returned (.int .i64 3) ∧ w = w' := by
  go_enter Tryd.func120, Tryd.ntmps120
  go_wp2_with (go_at_call 125; refine (tz8 _ ht).mono ?_; rintro e w' ⟨rfl, rfl⟩)
  go_ret
  exact ⟨rfl, rfl⟩
theorem pow16 (w : World) : Calls Tryd.prog 119 #[.int .i64 16] w fun e w' => e = .returned (.bool true) ∧ w = w' := by
  go_enter Tryd.func119, Tryd.ntmps119
  go_wp2
  go_ret
  exact ⟨by simp [show Go.bits .and .i64 16 15 = 0 from by decide], rfl⟩
theorem pow8 (w : World) : Calls Tryd.prog 119 #[.int .i64 8] w fun e w' => e = .returned (.bool true) ∧ w = w' := by
  go_enter Tryd.func119, Tryd.ntmps119
  go_wp2
  go_ret
  exact ⟨by simp [show Go.bits .and .i64 8 7 = 0 from by decide], rfl⟩
/-- A digit's sign; a number's digits, the greatest first. -/
def dch (d : Nat) : Int := if d < 10 then 48 + d else 87 + d
def digs (b : Nat) : Nat → Nat → List Int
  | 0, n => [dch n]
  | f + 1, n => if n < b then [dch n] else digs b f (n / b) ++ [dch (n % b)]
theorem digs_small (b f n : Nat) (h : n < b) : digs b f n = [dch n] := by
  cases f with
  | zero => rfl
  | succ f => rw [digs, if_pos h]
theorem digs_great (b f n : Nat) (h : b ≤ n) : digs b (f + 1) n = digs b f (n / b) ++ [dch (n % b)] := by
  rw [digs, if_neg (by omega)]
/-- The buffer of 65 signs: its end holds these. -/
def NumBlk (T B : Nat) (t : List Int) (wr : World) : Prop := ∃ cs : List Value, wr.heap[B]? = some (.cells cs.toArray T (0, 0)) ∧ cs.length = 65 ∧ cs.drop (65 - t.length) = t.map (Value.int .u8)
theorem NumBlk.cell {T B : Nat} {t : List Int} {wr : World} (h : NumBlk T B t wr) (j : Nat) (hj : j < 65) : ∃ v, wr.cell? ⟨B, j, none⟩ = some v := by
  obtain ⟨cs, hb, hl, _⟩ := h
  exact ⟨cs[j], by simp [World.cell?, hb, List.getElem?_eq_getElem (show j < cs.length by omega)]⟩
theorem NumBlk.free {T B : Nat} {t : List Int} {wr : World} (h : NumBlk T B t wr) (j : Nat) : wr.frozen? ⟨B, j, none⟩ = false := by
  obtain ⟨cs, hb, _⟩ := h
  simp [World.frozen?, hb]
theorem NumBlk.lt {T B : Nat} {t : List Int} {wr : World} (h : NumBlk T B t wr) : B < wr.heap.size := by
  obtain ⟨cs, hb, _⟩ := h
  exact lt_of_block hb
theorem NumBlk.put {T B : Nat} {t : List Int} {wr : World} (h : NumBlk T B t wr) (ht : t.length < 65) (c : Int) : NumBlk T B (c :: t) (wr.setCell ⟨B, 64 - t.length, none⟩ (.int .u8 c)) := by
  obtain ⟨cs, hb, hl, hd⟩ := h
  refine ⟨cs.set (64 - t.length) (.int .u8 c), ?_, by simp [hl], ?_⟩
  · have hlt := lt_of_block hb
    have h' : wr.heap[B] = .cells cs.toArray T (0, 0) := by simpa [Array.getElem?_eq_getElem hlt] using hb
    show (wr.heap.modify B _)[B]? = _
    rw [Array.getElem?_eq_getElem (by simpa using hlt), Array.getElem_modify_self, h']
    simp
  · rw [show 65 - (c :: t).length = 64 - t.length from by simp only [List.length_cons]; omega]
    rw [List.drop_eq_getElem_cons (by simp; omega), List.getElem_set_self, List.drop_set_of_lt (by omega)]
    rw [show 64 - t.length + 1 = 65 - t.length from by omega, hd]
    rfl
theorem NumBlk.reads {T B : Nat} {t : List Int} {wr : World} (h : NumBlk T B t wr) (ht : t.length ≤ 65) : ReadsInt wr .u8 (some ⟨B, 65 - t.length, none⟩) t.length t := by
  obtain ⟨cs, hb, hl, hd⟩ := h
  refine ⟨rfl, by omega, fun _ => ⟨_, rfl, fun j hj => ?_⟩⟩
  have e := congrArg (fun l => l[j]?) hd
  simp only [List.getElem?_drop, List.getElem?_map, List.getElem?_eq_getElem hj, Option.map_some] at e
  have ha : (⟨B, 65 - t.length, none⟩ : Addr).add j = ⟨B, 65 - t.length + j, none⟩ := by
    unfold Addr.add
    by_cases hj0 : j = 0
    · subst hj0
      rfl
    · simp [hj0]
  rw [ha]
  simp [World.cell?, hb, e, List.getD_eq_getElem?_getD, List.getElem?_eq_getElem hj]
theorem wrap_u64 (n : Int) : IntKind.u64.wrap n = n % 18446744073709551616 := by simp [IntKind.wrap, IntKind.bits, IntKind.signed]
theorem mask_u64 (i : Nat) (hi : i ≤ 32) (m : Nat) (hm : m < 4294967296) : Go.bits .and .u64 (m : Int) (2 ^ i - 1) = ((m % 2 ^ i : Nat) : Int) := by
  have := bits_mask .u64 32 (by decide) (fun x h0 h1 => by rw [wrap_u64]; omega) i hi (m : Int) (by omega) (by omega)
  rw [this]
  simp
theorem dch16 : ∀ d : Nat, d < 16 → bt (⟨#[48, 49, 50, 51, 52, 53, 54, 55, 56, 57, 97, 98, 99, 100, 101, 102, 103, 104, 105, 106, 107, 108, 109, 110, 111, 112, 113, 114, 115, 116, 117, 118, 119, 120, 121, 122]⟩ : ByteArray) (d : Int) = dch d := by decide
theorem dch_at (d : Nat) (hd : d < 16) (h : d < (⟨#[48, 49, 50, 51, 52, 53, 54, 55, 56, 57, 97, 98, 99, 100, 101, 102, 103, 104, 105, 106, 107, 108, 109, 110, 111, 112, 113, 114, 115, 116, 117, 118, 119, 120, 121, 122]⟩ : ByteArray).size) :
    (((⟨#[48, 49, 50, 51, 52, 53, 54, 55, 56, 57, 97, 98, 99, 100, 101, 102, 103, 104, 105, 106, 107, 108, 109, 110, 111, 112, 113, 114, 115, 116, 117, 118, 119, 120, 121, 122]⟩ : ByteArray)[d]'h).toNat : Int) = dch d := by
  have e := dch16 d hd
  unfold bt at e
  rw [dif_pos (by simpa using h)] at e
  exact e
set_option maxHeartbeats 1000000 in
set_option maxRecDepth 100000 in
theorem bits16 (n : Nat) (hn : n < 4294967296) (w : World) (ht : Tabs1 w) :
    Calls Tryd.prog 104 #[.slice none 0 0, .int .u64 n, .int .i64 16, .bool false, .bool false] w fun e w' => e = .returned (.tuple #[.slice none 0 0, .string (strOfNums (digs 16 31 n))]) ∧ Below w.heap.size w w' := by
  have HT := Aside0.mk ht
  clear ht
  have hz : NumBlk 159 w.heap.size [] (w.alloc (.cells Tryd.zeroCells159 159)) := ⟨List.replicate 65 (.int .u8 0), by rw [show Tryd.zeroCells159 = (List.replicate 65 (Value.int .u8 0)).toArray from by kernel_rfl]; exact heap_alloc_new w _, by simp, by simp⟩
  have HZ := Aside0.mk hz
  clear hz
  go_enter Tryd.func104, Tryd.ntmps104
  go_wp2_with (first | (go_at_call 119; refine (pow16 _).mono ?_; rintro e w' ⟨rfl, rfl⟩) | (go_at_call 120; refine (trail16 _ (HT.out.below ((Below.refl _ _).alloc (Nat.le_refl _) _))).mono ?_; rintro e w' ⟨rfl, rfl⟩))
  go_loopg [1, 13] 31 (fun f u i wr => ∃ (m : Nat) (t : List Int), u = .int .u64 (m : Int) ∧ i = .int .i64 ((65 - t.length : Nat) : Int) ∧ Aside0 (digs 16 f m ++ t = digs 16 31 n) ∧ Aside0 (f + t.length = 31) ∧ Aside0 (m < 2 ^ (f + 1)) ∧ Aside0 (NumBlk 159 w.heap.size t wr) ∧ Aside0 (Below w.heap.size w wr))
  case atStart => exact ⟨n, [], rfl, rfl, ⟨by simp⟩, ⟨rfl⟩, ⟨by simpa using hn⟩, HZ, ⟨(Below.refl _ _).alloc (Nat.le_refl _) _⟩⟩
  case round =>
    obtain ⟨m, t, rfl, rfl, HD, HF, HM, HZ, HB⟩ := hrel
    obtain ⟨q, hq⟩ : ∃ q, 65 - t.length = q + 1 := ⟨64 - t.length, by have := HF.out; omega⟩
    rw [hq]
    have hq64 : q < 65 := by omega
    have HQ := Aside0.mk hq
    clear hq
    obtain ⟨v0, hc⟩ := HZ.out.cell q hq64
    have hfz := HZ.out.free q
    have hm32 : m < 4294967296 := by
      have h1 := HM.out
      have h2 := HF.out
      exact Nat.lt_of_lt_of_le h1 (show 2 ^ (gk + 1) ≤ 2 ^ 32 from Nat.pow_le_pow_right (by decide) (by omega))
    have hand : Go.bits .and .u64 (m : Int) 15 = ((m % 16 : Nat) : Int) := mask_u64 4 (by decide) m hm32
    by_cases hlt : 16 ≤ m
    · have hge : decide ((16 : Int) ≤ (m : Int)) = true := decide_eq_true (by omega)
      have p1 : (0 ≤ ((m % 16 : Nat) : Int)) = True := eq_true (by omega)
      have p2 : (((m % 16 : Nat) : Int) < 36) = True := eq_true (by omega)
      have hx := bt_at (⟨#[48, 49, 50, 51, 52, 53, 54, 55, 56, 57, 97, 98, 99, 100, 101, 102, 103, 104, 105, 106, 107, 108, 109, 110, 111, 112, 113, 114, 115, 116, 117, 118, 119, 120, 121, 122]⟩ : ByteArray) ((m % 16 : Nat) : Int)
      go_wp2
      obtain ⟨f', hf'⟩ : ∃ f', gk = f' + 1 := ⟨gk - 1, by
        have h1 := HM.out
        rcases Nat.eq_zero_or_pos gk with h0 | h0
        · rw [h0] at h1
          simp at h1
          omega
        · omega⟩
      subst hf'
      go_roundg f'
      case measure => omega
      case rel =>
        have hq' := HQ.out
        have hf := HF.out
        refine ⟨m / 16, dch (m % 16) :: t, by simp, by rw [show q = 65 - (dch (m % 16) :: t).length from by simp only [List.length_cons]; omega], ⟨?_⟩, ⟨by simp only [List.length_cons]; omega⟩, ⟨?_⟩, ⟨?_⟩, ⟨?_⟩⟩
        · rw [← HD.out, digs_great 16 f' m hlt]
          simp
        · have := HM.out
          rw [Nat.pow_succ] at this
          omega
        · have := HZ.out.put (by omega) (dch (m % 16))
          rw [show 64 - t.length = q from by omega] at this
          rw [dch_at (m % 16) (by omega)]
          exact this
        · exact HB.out.setCell (Nat.le_refl _) _
    · have hge : decide ((16 : Int) ≤ (m : Int)) = false := decide_eq_false (by omega)
      have p1 : (0 ≤ (m : Int)) = True := eq_true (by omega)
      have p2 : ((m : Int) < 36) = True := eq_true (by omega)
      have p3 : (m < 36) = True := eq_true (by omega)
      have hq' := HQ.out
      have hR : ReadsInt (wr.setCell ⟨w.heap.size, q, none⟩ (.int .u8 (dch m))) .u8 (some ⟨w.heap.size, q, none⟩) (65 - q) (dch m :: t) := by
        have h1 := (HZ.out.put (by omega) (dch m)).reads (by simp only [List.length_cons]; omega)
        rw [show 65 - (dch m :: t).length = q from by simp only [List.length_cons]; omega, show 64 - t.length = q from by omega, show (dch m :: t).length = 65 - q from by simp only [List.length_cons]; omega] at h1
        exact h1
      have hsl : ∀ W, (Instr.sliceAt 159 (.pointer (some ⟨w.heap.size, 0, none⟩)) (some (.int .i64 (q : Int))) none none).run Tryd.prog W = .ok (.slice (some ⟨w.heap.size, q, none⟩) (65 - q) (65 - q)) W := fun W => by
        rw [run_sliceAt_array_l W 159 ⟨w.heap.size, 0, none⟩ (by simp [Program.arrayLen, Program.elem]) .i64 (q : Int) (by omega) (by simp [Program.arrayLen]; omega)]
        go_simp
        omega
      have HR := Aside0.mk hR
      clear hR
      go_wp2
      rw [dch_at m (by omega) _, string_of_reads (e := 5) rfl rfl rfl HR.out]
      go_wp2
      go_ret2
      refine ⟨?_, HB.out.setCell (Nat.le_refl _) _⟩
      rw [← HD.out, digs_small 16 gk m (by omega)]
      rfl
set_option maxHeartbeats 1000000 in
set_option maxRecDepth 100000 in
theorem bits8 (n : Nat) (hn : n < 4294967296) (w : World) (ht : Tabs1 w) :
    Calls Tryd.prog 104 #[.slice none 0 0, .int .u64 n, .int .i64 8, .bool false, .bool false] w fun e w' => e = .returned (.tuple #[.slice none 0 0, .string (strOfNums (digs 8 31 n))]) ∧ Below w.heap.size w w' := by
  have HT := Aside0.mk ht
  clear ht
  have hz : NumBlk 159 w.heap.size [] (w.alloc (.cells Tryd.zeroCells159 159)) := ⟨List.replicate 65 (.int .u8 0), by rw [show Tryd.zeroCells159 = (List.replicate 65 (Value.int .u8 0)).toArray from by kernel_rfl]; exact heap_alloc_new w _, by simp, by simp⟩
  have HZ := Aside0.mk hz
  clear hz
  go_enter Tryd.func104, Tryd.ntmps104
  go_wp2_with (first | (go_at_call 119; refine (pow8 _).mono ?_; rintro e w' ⟨rfl, rfl⟩) | (go_at_call 120; refine (trail8 _ (HT.out.below ((Below.refl _ _).alloc (Nat.le_refl _) _))).mono ?_; rintro e w' ⟨rfl, rfl⟩))
  go_loopg [1, 13] 31 (fun f u i wr => ∃ (m : Nat) (t : List Int), u = .int .u64 (m : Int) ∧ i = .int .i64 ((65 - t.length : Nat) : Int) ∧ Aside0 (digs 8 f m ++ t = digs 8 31 n) ∧ Aside0 (f + t.length = 31) ∧ Aside0 (m < 2 ^ (f + 1)) ∧ Aside0 (NumBlk 159 w.heap.size t wr) ∧ Aside0 (Below w.heap.size w wr))
  case atStart => exact ⟨n, [], rfl, rfl, ⟨by simp⟩, ⟨rfl⟩, ⟨by simpa using hn⟩, HZ, ⟨(Below.refl _ _).alloc (Nat.le_refl _) _⟩⟩
  case round =>
    obtain ⟨m, t, rfl, rfl, HD, HF, HM, HZ, HB⟩ := hrel
    obtain ⟨q, hq⟩ : ∃ q, 65 - t.length = q + 1 := ⟨64 - t.length, by have := HF.out; omega⟩
    rw [hq]
    have hq64 : q < 65 := by omega
    have HQ := Aside0.mk hq
    clear hq
    obtain ⟨v0, hc⟩ := HZ.out.cell q hq64
    have hfz := HZ.out.free q
    have hm32 : m < 4294967296 := by
      have h1 := HM.out
      have h2 := HF.out
      exact Nat.lt_of_lt_of_le h1 (show 2 ^ (gk + 1) ≤ 2 ^ 32 from Nat.pow_le_pow_right (by decide) (by omega))
    have hand : Go.bits .and .u64 (m : Int) 7 = ((m % 8 : Nat) : Int) := mask_u64 3 (by decide) m hm32
    by_cases hlt : 8 ≤ m
    · have hge : decide ((8 : Int) ≤ (m : Int)) = true := decide_eq_true (by omega)
      have p1 : (0 ≤ ((m % 8 : Nat) : Int)) = True := eq_true (by omega)
      have p2 : (((m % 8 : Nat) : Int) < 36) = True := eq_true (by omega)
      have hx := bt_at (⟨#[48, 49, 50, 51, 52, 53, 54, 55, 56, 57, 97, 98, 99, 100, 101, 102, 103, 104, 105, 106, 107, 108, 109, 110, 111, 112, 113, 114, 115, 116, 117, 118, 119, 120, 121, 122]⟩ : ByteArray) ((m % 8 : Nat) : Int)
      go_wp2
      obtain ⟨f', hf'⟩ : ∃ f', gk = f' + 1 := ⟨gk - 1, by
        have h1 := HM.out
        rcases Nat.eq_zero_or_pos gk with h0 | h0
        · rw [h0] at h1
          simp at h1
          omega
        · omega⟩
      subst hf'
      go_roundg f'
      case measure => omega
      case rel =>
        have hq' := HQ.out
        have hf := HF.out
        refine ⟨m / 8, dch (m % 8) :: t, by simp, by rw [show q = 65 - (dch (m % 8) :: t).length from by simp only [List.length_cons]; omega], ⟨?_⟩, ⟨by simp only [List.length_cons]; omega⟩, ⟨?_⟩, ⟨?_⟩, ⟨?_⟩⟩
        · rw [← HD.out, digs_great 8 f' m hlt]
          simp
        · have := HM.out
          rw [Nat.pow_succ] at this
          omega
        · have := HZ.out.put (by omega) (dch (m % 8))
          rw [show 64 - t.length = q from by omega] at this
          rw [dch_at (m % 8) (by omega)]
          exact this
        · exact HB.out.setCell (Nat.le_refl _) _
    · have hge : decide ((8 : Int) ≤ (m : Int)) = false := decide_eq_false (by omega)
      have p1 : (0 ≤ (m : Int)) = True := eq_true (by omega)
      have p2 : ((m : Int) < 36) = True := eq_true (by omega)
      have p3 : (m < 36) = True := eq_true (by omega)
      have hq' := HQ.out
      have hR : ReadsInt (wr.setCell ⟨w.heap.size, q, none⟩ (.int .u8 (dch m))) .u8 (some ⟨w.heap.size, q, none⟩) (65 - q) (dch m :: t) := by
        have h1 := (HZ.out.put (by omega) (dch m)).reads (by simp only [List.length_cons]; omega)
        rw [show 65 - (dch m :: t).length = q from by simp only [List.length_cons]; omega, show 64 - t.length = q from by omega, show (dch m :: t).length = 65 - q from by simp only [List.length_cons]; omega] at h1
        exact h1
      have hsl : ∀ W, (Instr.sliceAt 159 (.pointer (some ⟨w.heap.size, 0, none⟩)) (some (.int .i64 (q : Int))) none none).run Tryd.prog W = .ok (.slice (some ⟨w.heap.size, q, none⟩) (65 - q) (65 - q)) W := fun W => by
        rw [run_sliceAt_array_l W 159 ⟨w.heap.size, 0, none⟩ (by simp [Program.arrayLen, Program.elem]) .i64 (q : Int) (by omega) (by simp [Program.arrayLen]; omega)]
        go_simp
        omega
      have HR := Aside0.mk hR
      clear hR
      go_wp2
      rw [dch_at m (by omega) _, string_of_reads (e := 5) rfl rfl rfl HR.out]
      go_wp2
      go_ret2
      refine ⟨?_, HB.out.setCell (Nat.le_refl _) _⟩
      rw [← HD.out, digs_small 8 gk m (by omega)]
      rfl

theorem fmt_in16 (n : Nat) (hn : n < 4294967296) (w : World) (ht : Tabs1 w) :
    Calls Tryd.prog 87 #[.int .i64 n, .int .i64 16] w fun e w' => e = .returned (.string (strOfNums (digs 16 31 n))) ∧ Below w.heap.size w w' := by
  have hw : IntKind.u64.wrap (n : Int) = n := by rw [wrap_u64]; omega
  go_enter Tryd.func87, Tryd.ntmps87
  have p0 : decide ((n : Int) < 0) = false := decide_eq_false (by omega)
  go_wp2_with (go_at_call 104; refine (bits16 n hn _ ht).mono ?_; rintro e w' ⟨rfl, hb⟩)
  go_ret
  exact ⟨rfl, hb⟩
theorem fmt16 (n : Nat) (hn : n < 4294967296) (w : World) (ht : Tabs1 w) :
    Calls Tryd.prog 61 #[.int .i64 n, .int .i64 16] w fun e w' => e = .returned (.string (strOfNums (digs 16 31 n))) ∧ Below w.heap.size w w' := by
  go_enter Tryd.func61, Tryd.ntmps61
  go_wp2_with (go_at_call 87; refine (fmt_in16 n hn _ ht).mono ?_; rintro e w' ⟨rfl, hb⟩)
  go_ret
  exact ⟨rfl, hb⟩

theorem fmt_in8 (n : Nat) (hn : n < 4294967296) (w : World) (ht : Tabs1 w) :
    Calls Tryd.prog 87 #[.int .i64 n, .int .i64 8] w fun e w' => e = .returned (.string (strOfNums (digs 8 31 n))) ∧ Below w.heap.size w w' := by
  have hw : IntKind.u64.wrap (n : Int) = n := by rw [wrap_u64]; omega
  go_enter Tryd.func87, Tryd.ntmps87
  have p0 : decide ((n : Int) < 0) = false := decide_eq_false (by omega)
  go_wp2_with (go_at_call 104; refine (bits8 n hn _ ht).mono ?_; rintro e w' ⟨rfl, hb⟩)
  go_ret
  exact ⟨rfl, hb⟩
theorem fmt8 (n : Nat) (hn : n < 4294967296) (w : World) (ht : Tabs1 w) :
    Calls Tryd.prog 61 #[.int .i64 n, .int .i64 8] w fun e w' => e = .returned (.string (strOfNums (digs 8 31 n))) ∧ Below w.heap.size w w' := by
  go_enter Tryd.func61, Tryd.ntmps61
  go_wp2_with (go_at_call 87; refine (fmt_in8 n hn _ ht).mono ?_; rintro e w' ⟨rfl, hb⟩)
  go_ret
  exact ⟨rfl, hb⟩
end Go.Proofs.YtcppmghhijffpaaDoorW.PrintMore
