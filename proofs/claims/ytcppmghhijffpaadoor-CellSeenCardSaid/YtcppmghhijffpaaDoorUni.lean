import Derived.Test.YtcppmghhijffpaaDoorOf
import Derived.Test.YtcppmghhijffpaaDoorText
import Derived.Test.YtcppmghhijffpaaDoorEv
/-! What stands at a place of a text: by its own bytes; a text behind a letter begins anew. -/
namespace Go.Proofs.YtcppmghhijffpaaDoor.Tie
open Go.RowKit Go.Proofs.YtcppmghhijffpaaDoorW.PrintWords Go.Proofs.YtcppmghhijffpaaDoorW.PrintMore
def dec (b0 : Nat) (c1 c2 c3 : Bool) (a1 a2 a3 : Nat) : Nat × Nat :=
  if b0 < 128 then (b0, 1)
  else if b0 / 32 == 6 && c1 then (if b0 % 32 * 64 + a1 % 64 ≥ 128 then (b0 % 32 * 64 + a1 % 64, 2) else (65533, 1))
  else if b0 / 16 == 14 && c1 && c2 then
    (if (decide (b0 % 16 * 4096 + a1 % 64 * 64 + a2 % 64 ≥ 2048) && Utf8.valid ((b0 % 16 * 4096 + a1 % 64 * 64 + a2 % 64 : Nat) : Int)) = true then (b0 % 16 * 4096 + a1 % 64 * 64 + a2 % 64, 3) else (65533, 1))
  else if b0 / 8 == 30 && c1 && c2 && c3 then
    (if (decide (b0 % 8 * 262144 + a1 % 64 * 4096 + a2 % 64 * 64 + a3 % 64 ≥ 65536) && Utf8.valid ((b0 % 8 * 262144 + a1 % 64 * 4096 + a2 % 64 * 64 + a3 % 64 : Nat) : Int)) = true then (b0 % 8 * 262144 + a1 % 64 * 4096 + a2 % 64 * 64 + a3 % 64, 4) else (65533, 1))
  else (65533, 1)
def gb (s : ByteArray) (k : Nat) : Nat := (s.get! k).toNat
def ct (s : ByteArray) (k : Nat) : Bool := decide (k < s.size) && gb s k / 64 == 2
theorem decode_dec (s : ByteArray) (i : Nat) : Utf8.decode s i = dec (gb s i) (ct s (i + 1)) (ct s (i + 2)) (ct s (i + 3)) (gb s (i + 1)) (gb s (i + 2)) (gb s (i + 3)) := rfl
theorem dec_cases (b0 : Nat) (c1 c2 c3 : Bool) (a1 a2 a3 : Nat) : dec b0 c1 c2 c3 a1 a2 a3 = (65533, 1) ∨ (b0 < 128 ∧ dec b0 c1 c2 c3 a1 a2 a3 = (b0, 1)) ∨
   (b0 / 32 = 6 ∧ c1 = true ∧ b0 % 32 * 64 + a1 % 64 ≥ 128 ∧ dec b0 c1 c2 c3 a1 a2 a3 = (b0 % 32 * 64 + a1 % 64, 2)) ∨
   (b0 / 16 = 14 ∧ c1 = true ∧ c2 = true ∧ (b0 % 16 * 4096 + a1 % 64 * 64 + a2 % 64 ≥ 2048 ∧ Utf8.valid ((b0 % 16 * 4096 + a1 % 64 * 64 + a2 % 64 : Nat) : Int) = true) ∧ dec b0 c1 c2 c3 a1 a2 a3 = (b0 % 16 * 4096 + a1 % 64 * 64 + a2 % 64, 3)) ∨
   (b0 / 8 = 30 ∧ c1 = true ∧ c2 = true ∧ c3 = true ∧ (b0 % 8 * 262144 + a1 % 64 * 4096 + a2 % 64 * 64 + a3 % 64 ≥ 65536 ∧ Utf8.valid ((b0 % 8 * 262144 + a1 % 64 * 4096 + a2 % 64 * 64 + a3 % 64 : Nat) : Int) = true) ∧ dec b0 c1 c2 c3 a1 a2 a3 = (b0 % 8 * 262144 + a1 % 64 * 4096 + a2 % 64 * 64 + a3 % 64, 4)) := by
  unfold dec
  by_cases h1 : b0 < 128
  · right; left
    exact ⟨h1, if_pos h1⟩
  rw [if_neg h1]
  by_cases h2 : (b0 / 32 == 6 && c1) = true
  · rw [if_pos h2]
    simp only [Bool.and_eq_true, beq_iff_eq] at h2
    by_cases h3 : b0 % 32 * 64 + a1 % 64 ≥ 128
    · right; right; left
      exact ⟨h2.1, h2.2, h3, if_pos h3⟩
    · left
      exact if_neg h3
  rw [if_neg h2]
  by_cases h4 : (b0 / 16 == 14 && c1 && c2) = true
  · rw [if_pos h4]
    simp only [Bool.and_eq_true, beq_iff_eq] at h4
    split
    · rename_i h5
      simp only [Bool.and_eq_true, decide_eq_true_eq] at h5
      right; right; right; left
      exact ⟨h4.1.1, h4.1.2, h4.2, h5, rfl⟩
    · left
      rfl
  rw [if_neg h4]
  by_cases h6 : (b0 / 8 == 30 && c1 && c2 && c3) = true
  · rw [if_pos h6]
    simp only [Bool.and_eq_true, beq_iff_eq] at h6
    split
    · rename_i h5
      simp only [Bool.and_eq_true, decide_eq_true_eq] at h5
      right; right; right; right
      exact ⟨h6.1.1.1, h6.1.1.2, h6.1.2, h6.2, h5, rfl⟩
    · left
      rfl
  rw [if_neg h6]
  left
  rfl
theorem ct_lt {s : ByteArray} {k : Nat} (h : ct s k = true) : k < s.size := by
  unfold ct at h
  simp only [Bool.and_eq_true, decide_eq_true_eq] at h
  exact h.1
/-- A sequence's width keeps within the text; its scalar may be one. -/
theorem decode_in (s : ByteArray) (i : Nat) (h : i < s.size) : i + (Utf8.decode s i).2 ≤ s.size ∧ ((Utf8.decode s i).1 < 55296 ∨ (57344 ≤ (Utf8.decode s i).1 ∧ (Utf8.decode s i).1 ≤ 1114111)) := by
  rw [decode_dec]
  rcases dec_cases (gb s i) (ct s (i + 1)) (ct s (i + 2)) (ct s (i + 3)) (gb s (i + 1)) (gb s (i + 2)) (gb s (i + 3)) with e | ⟨hb, e⟩ | ⟨hb, h1, hc, e⟩ | ⟨hb, h1, h2, hc, e⟩ | ⟨hb, h1, h2, h3, hc, e⟩
  · rw [e]
    exact ⟨by show i + 1 ≤ _; omega, by simp⟩
  · rw [e]
    exact ⟨by show i + 1 ≤ _; omega, by left; show gb s i < _; omega⟩
  · rw [e]
    have := ct_lt h1
    exact ⟨by show i + 2 ≤ _; omega, by left; show _ < 55296; omega⟩
  · rw [e]
    have := ct_lt h1
    have := ct_lt h2
    refine ⟨by show i + 3 ≤ _; omega, ?_⟩
    have hv := hc.2
    unfold Utf8.valid at hv
    simp only [Bool.or_eq_true, Bool.and_eq_true, decide_eq_true_eq] at hv
    simp only [] 
    omega
  · rw [e]
    have := ct_lt h1
    have := ct_lt h2
    have := ct_lt h3
    refine ⟨by show i + 4 ≤ _; omega, ?_⟩
    have hv := hc.2
    unfold Utf8.valid at hv
    simp only [Bool.or_eq_true, Bool.and_eq_true, decide_eq_true_eq] at hv
    simp only []
    omega
theorem gb_front (A B : ByteArray) (k : Nat) (h : k < A.size) : gb (A ++ B) k = gb A k := by
  unfold gb
  rw [← Lib.getD_get!', ← Lib.getD_get!', ByteArray.data_append, Array.toList_append, List.getD_eq_getElem?_getD, List.getD_eq_getElem?_getD, List.getElem?_append_left (by simpa using h)]
theorem gb_back (A B : ByteArray) (k : Nat) : gb (A ++ B) (A.size + k) = gb B k := by
  unfold gb
  rw [← Lib.getD_get!', ← Lib.getD_get!', ByteArray.data_append, Array.toList_append, List.getD_eq_getElem?_getD, List.getD_eq_getElem?_getD, List.getElem?_append_right (by rw [Array.length_toList]; exact Nat.le_add_right _ _), show A.size + k - A.data.toList.length = k from by rw [Array.length_toList]; exact Nat.add_sub_cancel_left _ _]
theorem ct_front (A B : ByteArray) (k : Nat) (h : k < A.size) : ct (A ++ B) k = ct A k := by
  unfold ct
  rw [gb_front A B k h, decide_eq_true h, decide_eq_true (by rw [ByteArray.size_append]; omega)]
theorem ct_back (A B : ByteArray) (k : Nat) : ct (A ++ B) (A.size + k) = ct B k := by
  unfold ct
  rw [gb_back]
  by_cases h : k < B.size
  · rw [decide_eq_true h, decide_eq_true (by rw [ByteArray.size_append]; omega)]
  · rw [decide_eq_false h, decide_eq_false (by rw [ByteArray.size_append]; omega)]
theorem decode_back (A B : ByteArray) (q : Nat) : Utf8.decode (A ++ B) (A.size + q) = Utf8.decode B q := by
  rw [decode_dec, decode_dec, Nat.add_assoc, Nat.add_assoc, Nat.add_assoc, gb_back, gb_back, gb_back, gb_back, ct_back, ct_back, ct_back]
/-- Ahead of an end that is a letter, what stands behind does not matter. -/
theorem decode_front (A B : ByteArray) (i : Nat) (h : i < A.size) (hx : gb A (A.size - 1) < 128) : Utf8.decode (A ++ B) i = Utf8.decode A i := by
  rw [decode_dec, decode_dec, gb_front A B i h]
  have hno : ∀ k, k + 1 = A.size → ct A k = false := by
    intro k hk
    unfold ct
    have : gb A k / 64 ≠ 2 := by
      rw [show k = A.size - 1 from by omega]
      omega
    simp [this]
  have hoff : ∀ k, A.size ≤ k → ct A k = false := by
    intro k hk
    unfold ct
    simp [decide_eq_false (show ¬ k < A.size by omega)]
  by_cases h1 : i + 1 < A.size
  · rw [gb_front A B (i + 1) h1, ct_front A B (i + 1) h1]
    by_cases h2 : i + 2 < A.size
    · rw [gb_front A B (i + 2) h2, ct_front A B (i + 2) h2]
      by_cases h3 : i + 3 < A.size
      · rw [gb_front A B (i + 3) h3, ct_front A B (i + 3) h3]
      · rw [hno (i + 2) (by omega), hoff (i + 3) (by omega)]
        unfold dec
        simp
    · rw [hno (i + 1) (by omega), hoff (i + 2) (by omega)]
      unfold dec
      simp
  · have : gb A i < 128 := by rw [show i = A.size - 1 from by omega]; exact hx
    unfold dec
    rw [if_pos this, if_pos this]
theorem width1 (s : ByteArray) (pos : Nat) (h : pos < s.size) : 1 ≤ (Utf8.decode s pos).2 := width_pos s pos h
/-- More fuel than there are bytes does not matter. -/
theorem ofFrom_fuel (s : ByteArray) : ∀ (f g pos : Nat), s.size ≤ pos + f → s.size ≤ pos + g → ofFrom s f pos = ofFrom s g pos := by
  intro f
  induction f with
  | zero =>
    intro g pos h1 _
    rw [ofFrom_end s 0 pos (by omega), ofFrom_end s g pos (by omega)]
  | succ f ih =>
    intro g pos h1 h2
    by_cases hp : pos < s.size
    · obtain ⟨g', rfl⟩ : ∃ g', g = g' + 1 := ⟨g - 1, by omega⟩
      have hw := width1 s pos hp
      simp only [ofFrom, if_pos hp]
      rw [ih g' _ (by omega) (by omega)]
    · rw [ofFrom_end s _ pos hp, ofFrom_end s g pos hp]
theorem ofFrom_step (s : ByteArray) (f pos : Nat) (hp : pos < s.size) (h : s.size ≤ pos + f) :
    ofFrom s f pos = cellAt s pos :: ofFrom s f (pos + (Utf8.decode s pos).2) := by
  obtain ⟨g, rfl⟩ : ∃ g, f = g + 1 := ⟨f - 1, by omega⟩
  have hw := width1 s pos hp
  rw [show ofFrom s (g + 1) pos = cellAt s pos :: ofFrom s g (pos + (Utf8.decode s pos).2) by simp [ofFrom, hp], ofFrom_fuel s g (g + 1) _ (by omega) (by omega)]
theorem bt_gb (s : ByteArray) (k : Nat) (h : k < s.size) : bt s (k : Int) = (gb s k : Int) := by
  rw [← bt_at s (k : Int) (by simpa using h)]
  unfold gb
  rw [← Lib.getD_get!', List.getD_eq_getElem?_getD]
  simp [h, ByteArray.getElem_eq_getElem_data]
theorem cellAt_is (s : ByteArray) (pos : Nat) (h : pos < s.size) :
    cellAt s pos = if (Utf8.decode s pos).1 = 65533 ∧ (Utf8.decode s pos).2 = 1 then -1 - (gb s pos : Int) else ((Utf8.decode s pos).1 : Int) := by
  have hb : gb s pos < 256 := UInt8.toNat_lt _
  unfold cellAt
  rw [bt_gb s pos h, w32 (by omega) (by omega), xor_all _ (by omega) (by omega)]
  by_cases h1 : (Utf8.decode s pos).1 = 65533
  · by_cases h2 : (Utf8.decode s pos).2 = 1
    · rw [if_pos h1, if_pos h2, if_pos ⟨h1, h2⟩]
    · rw [if_pos h1, if_neg h2, if_neg (fun e => h2 e.2), h1]
      rfl
  · rw [if_neg h1, if_neg (fun e => h1 e.1)]
theorem cellAt_cell (s : ByteArray) (pos : Nat) (h : pos < s.size) : isCell (cellAt s pos) = true := by
  have hb : gb s pos < 256 := UInt8.toNat_lt _
  have hv := (decode_in s pos h).2
  rw [cellAt_is s pos h]
  unfold isCell
  split
  · simp
    omega
  · simp
    omega
theorem ofFrom_cells (s : ByteArray) : ∀ (f pos : Nat), ∀ c ∈ ofFrom s f pos, isCell c = true := by
  intro f
  induction f with
  | zero => intro pos c hc; simp [ofFrom] at hc
  | succ f ih =>
    intro pos c hc
    by_cases hp : pos < s.size
    · simp only [ofFrom, if_pos hp, List.mem_cons] at hc
      rcases hc with rfl | hc
      · exact cellAt_cell s pos hp
      · exact ih _ c hc
    · simp [ofFrom, hp] at hc
theorem ofAll_cells (s : ByteArray) : ∀ c ∈ ofAll s, isCell c = true := ofFrom_cells s _ _
theorem ofFrom_length (s : ByteArray) : ∀ (f pos : Nat), (ofFrom s f pos).length ≤ s.size - pos := by
  intro f
  induction f with
  | zero => intro pos; simp [ofFrom]
  | succ f ih =>
    intro pos
    by_cases hp : pos < s.size
    · simp only [ofFrom, if_pos hp, List.length_cons]
      have := ih (pos + (Utf8.decode s pos).2)
      have := width1 s pos hp
      omega
    · simp [ofFrom, hp]
theorem ofAll_length (s : ByteArray) : (ofAll s).length ≤ s.size := by
  have := ofFrom_length s s.size 0
  unfold ofAll
  omega
theorem cellAt_back (A B : ByteArray) (q : Nat) (h : q < B.size) : cellAt (A ++ B) (A.size + q) = cellAt B q := by
  rw [cellAt_is _ _ (by rw [ByteArray.size_append]; omega), cellAt_is _ _ h, decode_back, gb_back]
theorem ofFrom_back (A B : ByteArray) : ∀ (f q : Nat), ofFrom (A ++ B) f (A.size + q) = ofFrom B f q := by
  intro f
  induction f with
  | zero => intro q; rfl
  | succ f ih =>
    intro q
    by_cases hq : q < B.size
    · simp only [ofFrom, if_pos hq, if_pos (show A.size + q < (A ++ B).size by rw [ByteArray.size_append]; omega)]
      rw [cellAt_back A B q hq, decode_back, Nat.add_assoc, ih]
    · rw [ofFrom_end _ _ _ (by rw [ByteArray.size_append]; omega), ofFrom_end _ _ _ hq]
theorem cellAt_front (A B : ByteArray) (i : Nat) (h : i < A.size) (hx : gb A (A.size - 1) < 128) : cellAt (A ++ B) i = cellAt A i := by
  rw [cellAt_is _ _ (by rw [ByteArray.size_append]; omega), cellAt_is _ _ h, decode_front A B i h hx, gb_front A B i h]
theorem ofFrom_app (A B : ByteArray) (hx : gb A (A.size - 1) < 128) : ∀ (f i : Nat), i ≤ A.size → (A ++ B).size ≤ i + f →
    ofFrom (A ++ B) f i = ofFrom A f i ++ ofFrom B f 0 := by
  intro f
  induction f with
  | zero =>
    intro i _ h2
    simp [ofFrom]
  | succ f ih =>
    intro i h1 h2
    rw [ByteArray.size_append] at h2
    by_cases hi : i < A.size
    · have hw := width1 A i hi
      have hin := (decode_in A i hi).1
      have e1 : ofFrom (A ++ B) (f + 1) i = cellAt (A ++ B) i :: ofFrom (A ++ B) f (i + (Utf8.decode (A ++ B) i).2) := by
        simp only [ofFrom, if_pos (show i < (A ++ B).size by rw [ByteArray.size_append]; omega)]
      have e2 : ofFrom A (f + 1) i = cellAt A i :: ofFrom A f (i + (Utf8.decode A i).2) := by
        simp only [ofFrom, if_pos hi]
      rw [e1, e2, cellAt_front A B i hi hx, decode_front A B i hi hx, ih _ hin (by rw [ByteArray.size_append]; omega), List.cons_append, ofFrom_fuel B f (f + 1) 0 (by omega) (by omega)]
    · have : i = A.size := by omega
      subst this
      rw [ofFrom_end A _ _ (by omega), List.nil_append]
      exact ofFrom_back A B (f + 1) 0
/-- Behind a letter a text begins anew. -/
theorem ofAll_app (A B : ByteArray) (hx : gb A (A.size - 1) < 128) : ofAll (A ++ B) = ofAll A ++ ofAll B := by
  unfold ofAll
  rw [ofFrom_app A B hx (A ++ B).size 0 (Nat.zero_le _) (by omega), ofFrom_fuel A (A ++ B).size A.size 0 (by rw [ByteArray.size_append]; omega) (by omega), ofFrom_fuel B (A ++ B).size B.size 0 (by rw [ByteArray.size_append]; omega) (by omega)]
/-- Letters are their own cells. -/
theorem ofAll_ascii (s : ByteArray) (h : ∀ k, k < s.size → gb s k < 128) : ofAll s = s.data.toList.map fun b => (b.toNat : Int) := by
  have go : ∀ (f pos : Nat), s.size ≤ pos + f → ofFrom s f pos = (s.data.toList.drop pos).map fun b => (b.toNat : Int) := by
    intro f
    induction f with
    | zero =>
      intro pos hp
      rw [ofFrom_end s 0 pos (by omega), List.drop_eq_nil_of_le (by simpa using hp)]
      rfl
    | succ f ih =>
      intro pos hp
      by_cases hq : pos < s.size
      · have ha := h pos hq
        have hlen : pos < s.data.toList.length := by simpa using hq
        have hg : gb s pos = (s.data.toList[pos]).toNat := by
          unfold gb
          rw [← Lib.getD_get!', List.getD_eq_getElem?_getD, List.getElem?_eq_getElem hlen]
          rfl
        have hd : Utf8.decode s pos = (gb s pos, 1) := by
          rw [decode_dec]
          unfold dec
          rw [if_pos ha]
        have hc : cellAt s pos = (gb s pos : Int) := by
          rw [cellAt_is s pos hq, hd, if_neg (by rintro ⟨h1, _⟩; have h2 : gb s pos = 65533 := h1; omega)]
        simp only [ofFrom, if_pos hq]
        rw [hc, hd, ih (pos + 1) (by omega), List.drop_eq_getElem_cons hlen, List.map_cons, hg]
      · rw [ofFrom_end s _ pos hq, List.drop_eq_nil_of_le (by simpa using hq)]
        rfl
  exact go s.size 0 (by omega)
end Go.Proofs.YtcppmghhijffpaaDoor.Tie
