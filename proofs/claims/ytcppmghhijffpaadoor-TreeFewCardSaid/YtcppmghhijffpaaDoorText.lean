import Derived.Test.YtcppmghhijffpaaDoorBuild
import Derived.Deep.LoopGhost
import Derived.Laws.BitsLemmas
/-! redactor/cell.Text: cells as a text. -/
namespace Go.Proofs.YtcppmghhijffpaaDoorW.PrintMore
open Go.RowKit Go.Proofs.YtcppmghhijffpaaDoorW.PrintWords Go.Proofs.YtcppmghhijffpaaDoorW.PrintLast
set_option linter.unusedSimpArgs false
set_option linter.unusedVariables false
theorem w64' (x : Int) (h0 : -9223372036854775808 ≤ x) (h1 : x < 9223372036854775808) : wrap64 x = x := by
  unfold wrap64
  omega
theorem xor_all' (x : Int) (h0 : -2147483648 ≤ x) (h1 : x < 2147483648) : Go.bits .xor .i32 (-1) x = -1 - x := by
  have e : BitVec.ofInt 32 (-1) = BitVec.allOnes 32 := by decide
  show IntKind.i32.wrap ((BitVec.ofInt 32 (-1) ^^^ BitVec.ofInt 32 x).toNat : Int) = _
  rw [e, BitVec.allOnes_xor, BitVec.toNat_not, BitVec.toNat_ofInt, IntKind.wrap_i32]
  omega
set_option maxRecDepth 100000 in
theorem or_256 : ∀ b : Nat, b < 256 → Go.bits .or .i64 (b : Int) 256 = ((b + 256 : Nat) : Int) := by decide
theorem byte_yes (c : Int) (b : Nat) (hb : b < 256) (hc : c = -1 - (b : Int)) (w : World) : Calls Tryd.prog 32 #[.int .i32 c] w fun e w' => e = .returned (.tuple #[.int .u8 b, .bool true]) ∧ w = w' := by
  have p1 : decide ((0 : Int) ≤ c) = false := decide_eq_false (by omega)
  have p2 : decide (c < (-256 : Int)) = false := decide_eq_false (by omega)
  have e : Go.bits .xor .i32 (-1) c = (b : Int) := by rw [xor_all' c (by omega) (by omega)]; omega
  have e2 : (b : Int) % 256 = (b : Int) := by omega
  clear hc
  go_enter Tryd.func32, Tryd.ntmps32
  go_wp2
  go_ret2
  exact ⟨by simp [e, e2], rfl⟩
theorem byte_no (c : Int) (h : c < -256 ∨ 0 ≤ c) (w : World) : Calls Tryd.prog 32 #[.int .i32 c] w fun e w' => e = .returned (.tuple #[.int .u8 0, .bool false]) ∧ w = w' := by
  by_cases h0 : 0 ≤ c
  · have p1 : decide ((0 : Int) ≤ c) = true := decide_eq_true (by omega)
    go_enter Tryd.func32, Tryd.ntmps32
    go_wp2
    go_ret2
    exact ⟨rfl, rfl⟩
  · have p1 : decide ((0 : Int) ≤ c) = false := decide_eq_false (by omega)
    have p2 : decide (c < (-256 : Int)) = true := decide_eq_true (by omega)
    go_enter Tryd.func32, Tryd.ntmps32
    go_wp2
    go_ret2
    exact ⟨rfl, rfl⟩
/-- May it be a cell? -/
def isCell (c : Int) : Bool := decide (-256 ≤ c) && decide (c ≤ 1114111) && (decide (c < 55296) || decide (57343 < c))
theorem right_walk (c : Int) (w : World) : Calls Tryd.prog 35 #[.int .i32 c] w fun e w' => e = .returned (.bool (isCell c)) ∧ w = w' := by
  unfold isCell
  by_cases h1 : -256 ≤ c
  · have p1 : decide ((-256 : Int) ≤ c) = true := decide_eq_true h1
    by_cases h2 : c ≤ 1114111
    · have p2 : decide (c ≤ (1114111 : Int)) = true := decide_eq_true h2
      by_cases h3 : c < 55296
      · have p3 : decide (c < (55296 : Int)) = true := decide_eq_true h3
        go_enter Tryd.func35, Tryd.ntmps35
        go_wp2
        go_ret
        exact ⟨by simp [p1, p2, p3], rfl⟩
      · have p3 : decide (c < (55296 : Int)) = false := decide_eq_false h3
        go_enter Tryd.func35, Tryd.ntmps35
        go_wp2
        go_ret
        exact ⟨by simp [p1, p2, p3], rfl⟩
    · have p2 : decide (c ≤ (1114111 : Int)) = false := decide_eq_false h2
      go_enter Tryd.func35, Tryd.ntmps35
      go_wp2
      go_ret
      exact ⟨by simp [p1, p2], rfl⟩
  · have p1 : decide ((-256 : Int) ≤ c) = false := decide_eq_false h1
    go_enter Tryd.func35, Tryd.ntmps35
    go_wp2
    go_ret
    exact ⟨by simp [p1], rfl⟩
/-- A cell, to be looked at. -/
def txt (c : Int) : ByteArray :=
  if -256 ≤ c ∧ c < 0 then (⟨#[92, 120]⟩ : ByteArray) ++ (strOfNums (digs 16 31 ((-1 - c).toNat + 256))).extract 1 (strOfNums (digs 16 31 ((-1 - c).toNat + 256))).size
  else if isCell c = false then ⟨#[92, 63]⟩
  else if c = 10 then ⟨#[92, 110]⟩
  else if c = 92 then ⟨#[92, 92]⟩
  else if 32 ≤ c ∧ c ≤ 126 then ⟨#[UInt8.ofNat c.toNat]⟩
  else (⟨#[92, 117, 123]⟩ : ByteArray) ++ strOfNums (digs 16 31 c.toNat) ++ (⟨#[125]⟩ : ByteArray)
def txtL (c : Int) : List UInt8 := (txt c).data.toList
theorem digs_len (b : Nat) : ∀ f n, (digs b f n).length ≤ f + 1
  | 0, n => by simp [digs]
  | f + 1, n => by
    unfold digs
    split
    · simp
    · have := digs_len b f (n / b)
      simp
      omega
theorem txt_size (c : Int) : (txt c).size ≤ 64 := by
  have h1 := digs_len 16 31 ((-1 - c).toNat + 256)
  have h2 := digs_len 16 31 c.toNat
  unfold txt
  split
  · rw [ByteArray.size_append, ByteArray.size_extract, strOfNums_size]
    show 2 + _ ≤ _
    omega
  · split
    · decide
    · split
      · decide
      · split
        · decide
        · split
          · show 1 ≤ 64
            omega
          · rw [ByteArray.size_append, ByteArray.size_append, strOfNums_size]
            show 3 + _ + 1 ≤ _
            omega
theorem fmt16c (c : Int) (h0 : 0 ≤ c) (h1 : c < 4294967296) (w : World) (ht : Tabs1 w) :
    Calls Tryd.prog 61 #[.int .i64 c, .int .i64 16] w fun e w' => e = .returned (.string (strOfNums (digs 16 31 c.toNat))) ∧ Below w.heap.size w w' := by
  obtain ⟨n, rfl⟩ := Int.eq_ofNat_of_zero_le h0
  exact fmt16 n (by omega) w ht
theorem fmt16x (n : Nat) (h1 : n < 4294967296) (w : World) (ht : Tabs1 w) :
    Calls Tryd.prog 61 #[.int .i64 n, .int .i64 16] w fun e w' => ∃ X : ByteArray, Aside0 (X = strOfNums (digs 16 31 n)) ∧ e = .returned (.string X) ∧ Below w.heap.size w w' := (fmt16 n h1 w ht).mono fun _ _ h => ⟨_, ⟨rfl⟩, h⟩
theorem fmt16cx (c : Int) (h0 : 0 ≤ c) (h1 : c < 4294967296) (w : World) (ht : Tabs1 w) :
    Calls Tryd.prog 61 #[.int .i64 c, .int .i64 16] w fun e w' => ∃ X : ByteArray, Aside0 (X = strOfNums (digs 16 31 c.toNat)) ∧ e = .returned (.string X) ∧ Below w.heap.size w w' := (fmt16c c h0 h1 w ht).mono fun _ _ h => ⟨_, ⟨rfl⟩, h⟩
theorem digs_great_len (n : Nat) (h : 16 ≤ n) : 1 ≤ (strOfNums (digs 16 31 n)).size := by
  rw [strOfNums_size]
  rw [digs_great 16 30 n h]
  simp
theorem bld_below {B b : Nat} {bs : List Value} {w w' : World} (h : Bld B b bs w) (_hB : B ≤ w.heap.size) (hb : Below w.heap.size w w') : Bld B b bs w' := by
  have go : ∀ p, Lib.BuilderAt 87 5 B b p bs w → Lib.BuilderAt 87 5 B b p bs w' := fun p h => by
    obtain ⟨hB, v, hbk, hown, hne⟩ := h
    exact ⟨hB, v, (hb.block b (lt_of_block hbk)).trans hbk, own_move hown (fun k hk => hb.block k (hown.lt k hk).2), hne⟩
  exact h.imp (go _) (go _)
set_option maxHeartbeats 8000000 in
set_option maxRecDepth 1000000 in
theorem text_walk (A0 : Option Addr) (c0 : Nat) (l0 : List Int) (w : World) (ht : Tabs1 w) (hr0 : Kd.C (Kd.int .i32) w A0 l0.length l0) (hc0 : l0.length ≤ c0) (hl : l0.length < 1099511627776) :
    Calls Tryd.prog 30 #[.slice A0 l0.length c0] w fun e w' => e = .returned (.string ⟨(l0.flatMap txtL).toArray⟩) ∧ Below w.heap.size w w' := by
  have HT := Aside0.mk ht
  have HR := Aside0.mk hr0
  have HN := Aside0.mk hl
  clear ht hr0 hl hc0
  go_enter Tryd.func30, Tryd.ntmps30
  go_wp2
  go_loopg [10] l0.length (fun k v10 wr => ∃ (i : Nat) (acc : List UInt8), v10 = .int .i64 (i : Int) ∧ i + k = l0.length ∧ Aside0 (Bld w.heap.size w.heap.size (Lib.byteCells acc) wr) ∧ Aside0 (Below w.heap.size w wr) ∧ Aside0 (acc ++ (l0.drop i).flatMap txtL = l0.flatMap txtL) ∧ Aside0 (acc.length ≤ 64 * i))
  case atStart => exact ⟨0, [], rfl, by omega, ⟨.inl ⟨Nat.le_refl _, .slice none 0 0, heap_alloc_new w _, ⟨rfl, .inl ⟨rfl, rfl⟩⟩, by simp [Value.ownBlock]⟩⟩, ⟨(Below.refl _ _).alloc (Nat.le_refl _) _⟩, ⟨by simp⟩, ⟨by simp⟩⟩
  case round =>
    obtain ⟨i, acc, rfl, hik, HI, HB, HA, HL⟩ := hrel
    by_cases hi : i < l0.length
    · obtain ⟨ad, rfl, hcw⟩ := (Kd.reads_of_C (enc := Value.int .i32) (d := (0 : Int)) (h1 := fun _ => rfl) (Kd.C_below HR.out HB.out)).2.2 (by omega)
      have hcell := hcw i hi
      clear hcw
      have hlt : decide ((i : Int) < (l0.length : Int)) = true := decide_eq_true (by omega)
      have p0 : (0 ≤ (i : Int)) = True := eq_true (by omega)
      have p1 : ((i : Int) < (l0.length : Int)) = True := eq_true (by omega)
      have HD := Aside0.mk (show (l0.drop i).flatMap txtL = txtL (l0.getD i 0) ++ (l0.drop (i + 1)).flatMap txtL by
        rw [List.drop_eq_getElem_cons hi, List.flatMap_cons, List.getD_eq_getElem?_getD, List.getElem?_eq_getElem hi]
        rfl)
      obtain ⟨k', rfl⟩ : ∃ k', gk = k' + 1 := ⟨gk - 1, by omega⟩
      generalize l0.getD i 0 = c at hcell HD
      by_cases h1 : -256 ≤ c ∧ c < 0
      · obtain ⟨b, hb, hc⟩ : ∃ b : Nat, b < 256 ∧ c = -1 - (b : Int) := ⟨(-1 - c).toNat, by omega, by omega⟩
        have htx : txt c = ((⟨#[92, 120]⟩ : ByteArray) ++ (strOfNums (digs 16 31 (b + 256 ))).extract 1 (strOfNums (digs 16 31 (b + 256 ))).size) := by rw [txt, if_pos h1, show (-1 - c).toNat = b from by omega]
        have hor := or_256 b hb
        have hw : IntKind.i64.wrap (b : Int) = (b : Int) := by rw [IntKind.wrap_i64]; omega
        have HC := Aside0.mk hc
        clear hc
        have hone := digs_great_len (b + 256 ) (by omega)
        go_wp2_with (first | (go_at_call 32; refine (byte_yes c b hb HC.out _).mono ?_; rintro e w1 ⟨rfl, rfl⟩) | (go_at_call 61; refine (fmt16x (b + 256 ) (by omega) _ (HT.out.below HB.out)).mono ?_; rintro e w2 ⟨X, HX, rfl, hb2⟩; have hXl := (show X.size ≤ 32 by rw [HX.out, strOfNums_size]; exact digs_len _ _ _); have z1 : (9223372036854775807 < 3 + X.size) = False := eq_false (by omega); have z2 : (9223372036854775807 < 3 + X.size + 1) = False := eq_false (by omega); have z3 : (9223372036854775807 < 2 + (X.size - 1)) = False := eq_false (by omega); (try have q1 : ((1 : Int) ≤ (X.size : Int)) = True := eq_true (by rw [HX.out]; omega)); have HI2 := Aside0.mk (bld_below HI.out HB.out.size hb2); have HB2 := Aside0.mk (below_step HB.out hb2); clear HI HB hb2; have HI := HI2; have HB := HB2; clear HI2 HB2) | (go_at_call 60; refine (bld_string_walk w.heap.size w.heap.size _ _ _ HI.out (by have := HL.out; have := HN.out; have := txt_size c; rw [Lib.byteCells_length]; rw [HX.out, ← htx]; omega) HB.out.size).mono ?_; rintro e w3 ⟨rfl, hI3, hb3⟩; rw [Lib.strCells_eq, ← Lib.byteCells_append] at hI3))
        go_roundg k'
        case measure => omega
        case rel =>
          refine ⟨i + 1, acc ++ txtL c, by have := HN.out; rw [w64' _ (by omega) (by omega)]; simp, by omega, ⟨.inr ?_⟩, ⟨HB.out.trans hb3⟩, ⟨?_⟩, ⟨?_⟩⟩
          · rw [HX.out] at hI3; rw [txtL, htx]; exact hI3
          · rw [← HA.out, HD.out]
            simp
          · have := HL.out
            have := txt_size c
            have : (txtL c).length = (txt c).size := (Lib.size_eq (txt c)).symm
            simp
            omega
      · by_cases h2 : isCell c = false
        · have htx : txt c = (⟨#[92, 63]⟩ : ByteArray) := by rw [txt, if_neg h1, if_pos h2]
          go_wp2_with (first | (go_at_call 32; refine (byte_no c (by omega) _).mono ?_; rintro e w1 ⟨rfl, rfl⟩) | (go_at_call 35; refine (right_walk c _).mono ?_; rintro e w1 ⟨rfl, rfl⟩; rw [h2]) | (go_at_call 60; refine (bld_string_walk w.heap.size w.heap.size _ (⟨#[92, 63]⟩ : ByteArray) _ HI.out (by have := HL.out; have := HN.out; have := txt_size c; rw [Lib.byteCells_length]; rw [← htx]; omega) HB.out.size).mono ?_; rintro e w3 ⟨rfl, hI3, hb3⟩; rw [Lib.strCells_eq, ← Lib.byteCells_append] at hI3))
          go_roundg k'
          case measure => omega
          case rel =>
            refine ⟨i + 1, acc ++ txtL c, by have := HN.out; rw [w64' _ (by omega) (by omega)]; simp, by omega, ⟨.inr ?_⟩, ⟨HB.out.trans hb3⟩, ⟨?_⟩, ⟨?_⟩⟩
            · rw [txtL, htx]; exact hI3
            · rw [← HA.out, HD.out]
              simp
            · have := HL.out
              have := txt_size c
              have : (txtL c).length = (txt c).size := (Lib.size_eq (txt c)).symm
              simp
              omega
        · have h2n := h2
          have h2 : isCell c = true := by simpa using h2n
          have hrg : 0 ≤ c ∧ c < 4294967296 := by
            unfold isCell at h2
            simp at h2
            omega
          by_cases h3 : c = 10
          · have htx : txt c = (⟨#[92, 110]⟩ : ByteArray) := by rw [txt, if_neg h1, if_neg h2n, if_pos h3]
            have p3 : (c == 10) = true := beq_iff_eq.mpr h3
            clear h3
            go_wp2_with (first | (go_at_call 32; refine (byte_no c (by omega) _).mono ?_; rintro e w1 ⟨rfl, rfl⟩) | (go_at_call 35; refine (right_walk c _).mono ?_; rintro e w1 ⟨rfl, rfl⟩; rw [h2]) | (go_at_call 60; refine (bld_string_walk w.heap.size w.heap.size _ (⟨#[92, 110]⟩ : ByteArray) _ HI.out (by have := HL.out; have := HN.out; have := txt_size c; rw [Lib.byteCells_length]; rw [← htx]; omega) HB.out.size).mono ?_; rintro e w3 ⟨rfl, hI3, hb3⟩; rw [Lib.strCells_eq, ← Lib.byteCells_append] at hI3))
            go_roundg k'
            case measure => omega
            case rel =>
              refine ⟨i + 1, acc ++ txtL c, by have := HN.out; rw [w64' _ (by omega) (by omega)]; simp, by omega, ⟨.inr ?_⟩, ⟨HB.out.trans hb3⟩, ⟨?_⟩, ⟨?_⟩⟩
              · rw [txtL, htx]; exact hI3
              · rw [← HA.out, HD.out]
                simp
              · have := HL.out
                have := txt_size c
                have : (txtL c).length = (txt c).size := (Lib.size_eq (txt c)).symm
                simp
                omega
          · have p3 : (c == 10) = false := beq_eq_false_iff_ne.mpr h3
            have q3 : decide (c = 10) = false := decide_eq_false h3
            by_cases h4 : c = 92
            · have htx : txt c = (⟨#[92, 92]⟩ : ByteArray) := by rw [txt, if_neg h1, if_neg h2n, if_neg h3, if_pos h4]
              have p4 : (c == 92) = true := beq_iff_eq.mpr h4
              clear h4
              go_wp2_with (first | (go_at_call 32; refine (byte_no c (by omega) _).mono ?_; rintro e w1 ⟨rfl, rfl⟩) | (go_at_call 35; refine (right_walk c _).mono ?_; rintro e w1 ⟨rfl, rfl⟩; rw [h2]) | (go_at_call 60; refine (bld_string_walk w.heap.size w.heap.size _ (⟨#[92, 92]⟩ : ByteArray) _ HI.out (by have := HL.out; have := HN.out; have := txt_size c; rw [Lib.byteCells_length]; rw [← htx]; omega) HB.out.size).mono ?_; rintro e w3 ⟨rfl, hI3, hb3⟩; rw [Lib.strCells_eq, ← Lib.byteCells_append] at hI3))
              go_roundg k'
              case measure => omega
              case rel =>
                refine ⟨i + 1, acc ++ txtL c, by have := HN.out; rw [w64' _ (by omega) (by omega)]; simp, by omega, ⟨.inr ?_⟩, ⟨HB.out.trans hb3⟩, ⟨?_⟩, ⟨?_⟩⟩
                · rw [txtL, htx]; exact hI3
                · rw [← HA.out, HD.out]
                  simp
                · have := HL.out
                  have := txt_size c
                  have : (txtL c).length = (txt c).size := (Lib.size_eq (txt c)).symm
                  simp
                  omega
            · have p4 : (c == 92) = false := beq_eq_false_iff_ne.mpr h4
              have q4 : decide (c = 92) = false := decide_eq_false h4
              by_cases h5 : 32 ≤ c ∧ c ≤ 126
              · have htx : txt c = (⟨#[UInt8.ofNat c.toNat]⟩ : ByteArray) := by rw [txt, if_neg h1, if_neg h2n, if_neg h3, if_neg h4, if_pos h5]
                have p5 : decide ((32 : Int) ≤ c) = true := decide_eq_true h5.1
                have p6 : decide (c ≤ (126 : Int)) = true := decide_eq_true h5.2
                go_wp2_with (first | (go_at_call 32; refine (byte_no c (by omega) _).mono ?_; rintro e w1 ⟨rfl, rfl⟩) | (go_at_call 35; refine (right_walk c _).mono ?_; rintro e w1 ⟨rfl, rfl⟩; rw [h2]) | (go_at_call 62; refine (bld_byte_walk w.heap.size w.heap.size _ _ _ HI.out (by have := HL.out; have := HN.out; rw [Lib.byteCells_length]; omega) HB.out.size).mono ?_; rintro e w3 ⟨rfl, hI3, hb3⟩))
                go_roundg k'
                case measure => omega
                case rel =>
                  refine ⟨i + 1, acc ++ txtL c, by have := HN.out; rw [w64' _ (by omega) (by omega)]; simp, by omega, ⟨.inr ?_⟩, ⟨HB.out.trans hb3⟩, ⟨?_⟩, ⟨?_⟩⟩
                  · rw [txtL, htx, Lib.byteCells_append]
                    have e : c = ((UInt8.ofNat c.toNat).toNat : Int) := by rw [UInt8.toNat_ofNat']; omega
                    have e2 : Lib.byteCells (⟨#[UInt8.ofNat c.toNat]⟩ : ByteArray).data.toList = [Value.int .u8 c] := by
                      show [Value.int .u8 ((UInt8.ofNat c.toNat).toNat : Int)] = _
                      rw [← e]
                    rw [e2]
                    exact hI3
                  · rw [← HA.out, HD.out]
                    simp
                  · have := HL.out
                    have := txt_size c
                    have : (txtL c).length = (txt c).size := (Lib.size_eq (txt c)).symm
                    simp
                    omega
              · by_cases h6 : 32 ≤ c
                · have htx : txt c = ((⟨#[92, 117, 123]⟩ : ByteArray) ++ strOfNums (digs 16 31 c.toNat) ++ (⟨#[125]⟩ : ByteArray)) := by rw [txt, if_neg h1, if_neg h2n, if_neg h3, if_neg h4, if_neg h5]
                  have hw : IntKind.i64.wrap c = c := by rw [IntKind.wrap_i64]; omega
                  have p5 : decide ((32 : Int) ≤ c) = true := decide_eq_true h6
                  have p6 : decide (c ≤ (126 : Int)) = false := decide_eq_false (by omega)
                  go_wp2_with (first | (go_at_call 32; refine (byte_no c (by omega) _).mono ?_; rintro e w1 ⟨rfl, rfl⟩) | (go_at_call 35; refine (right_walk c _).mono ?_; rintro e w1 ⟨rfl, rfl⟩; rw [h2]) | (go_at_call 61; refine (fmt16cx c hrg.1 hrg.2 _ (HT.out.below HB.out)).mono ?_; rintro e w2 ⟨X, HX, rfl, hb2⟩; have hXl := (show X.size ≤ 32 by rw [HX.out, strOfNums_size]; exact digs_len _ _ _); have z1 : (9223372036854775807 < 3 + X.size) = False := eq_false (by omega); have z2 : (9223372036854775807 < 3 + X.size + 1) = False := eq_false (by omega); have z3 : (9223372036854775807 < 2 + (X.size - 1)) = False := eq_false (by omega); (try have q1 : ((1 : Int) ≤ (X.size : Int)) = True := eq_true (by rw [HX.out]; omega)); have HI2 := Aside0.mk (bld_below HI.out HB.out.size hb2); have HB2 := Aside0.mk (below_step HB.out hb2); clear HI HB hb2; have HI := HI2; have HB := HB2; clear HI2 HB2) | (go_at_call 60; refine (bld_string_walk w.heap.size w.heap.size _ _ _ HI.out (by have := HL.out; have := HN.out; have := txt_size c; rw [Lib.byteCells_length]; rw [HX.out, ← htx]; omega) HB.out.size).mono ?_; rintro e w3 ⟨rfl, hI3, hb3⟩; rw [Lib.strCells_eq, ← Lib.byteCells_append] at hI3))
                  go_roundg k'
                  case measure => omega
                  case rel =>
                    refine ⟨i + 1, acc ++ txtL c, by have := HN.out; rw [w64' _ (by omega) (by omega)]; simp, by omega, ⟨.inr ?_⟩, ⟨HB.out.trans hb3⟩, ⟨?_⟩, ⟨?_⟩⟩
                    · rw [HX.out] at hI3; rw [txtL, htx]; exact hI3
                    · rw [← HA.out, HD.out]
                      simp
                    · have := HL.out
                      have := txt_size c
                      have : (txtL c).length = (txt c).size := (Lib.size_eq (txt c)).symm
                      simp
                      omega
                · have htx : txt c = ((⟨#[92, 117, 123]⟩ : ByteArray) ++ strOfNums (digs 16 31 c.toNat) ++ (⟨#[125]⟩ : ByteArray)) := by rw [txt, if_neg h1, if_neg h2n, if_neg h3, if_neg h4, if_neg h5]
                  have hw : IntKind.i64.wrap c = c := by rw [IntKind.wrap_i64]; omega
                  have p5 : decide ((32 : Int) ≤ c) = false := decide_eq_false h6
                  go_wp2_with (first | (go_at_call 32; refine (byte_no c (by omega) _).mono ?_; rintro e w1 ⟨rfl, rfl⟩) | (go_at_call 35; refine (right_walk c _).mono ?_; rintro e w1 ⟨rfl, rfl⟩; rw [h2]) | (go_at_call 61; refine (fmt16cx c hrg.1 hrg.2 _ (HT.out.below HB.out)).mono ?_; rintro e w2 ⟨X, HX, rfl, hb2⟩; have hXl := (show X.size ≤ 32 by rw [HX.out, strOfNums_size]; exact digs_len _ _ _); have z1 : (9223372036854775807 < 3 + X.size) = False := eq_false (by omega); have z2 : (9223372036854775807 < 3 + X.size + 1) = False := eq_false (by omega); have z3 : (9223372036854775807 < 2 + (X.size - 1)) = False := eq_false (by omega); (try have q1 : ((1 : Int) ≤ (X.size : Int)) = True := eq_true (by rw [HX.out]; omega)); have HI2 := Aside0.mk (bld_below HI.out HB.out.size hb2); have HB2 := Aside0.mk (below_step HB.out hb2); clear HI HB hb2; have HI := HI2; have HB := HB2; clear HI2 HB2) | (go_at_call 60; refine (bld_string_walk w.heap.size w.heap.size _ _ _ HI.out (by have := HL.out; have := HN.out; have := txt_size c; rw [Lib.byteCells_length]; rw [HX.out, ← htx]; omega) HB.out.size).mono ?_; rintro e w3 ⟨rfl, hI3, hb3⟩; rw [Lib.strCells_eq, ← Lib.byteCells_append] at hI3))
                  go_roundg k'
                  case measure => omega
                  case rel =>
                    refine ⟨i + 1, acc ++ txtL c, by have := HN.out; rw [w64' _ (by omega) (by omega)]; simp, by omega, ⟨.inr ?_⟩, ⟨HB.out.trans hb3⟩, ⟨?_⟩, ⟨?_⟩⟩
                    · rw [HX.out] at hI3; rw [txtL, htx]; exact hI3
                    · rw [← HA.out, HD.out]
                      simp
                    · have := HL.out
                      have := txt_size c
                      have : (txtL c).length = (txt c).size := (Lib.size_eq (txt c)).symm
                      simp
                      omega
    · have hlt : decide ((i : Int) < (l0.length : Int)) = false := decide_eq_false (by omega)
      go_wp2_with (go_at_call 63; refine (Tryd.Builder_String_any w.heap.size w.heap.size acc _ HI.out HB.out.size).mono ?_; rintro e w1 ⟨rfl, hb1⟩)
      go_ret
      have hA := HA.out
      rw [List.drop_eq_nil_of_le (by omega)] at hA
      simp only [List.flatMap_nil, List.append_nil] at hA
      rw [← hA]
      exact ⟨rfl, HB.out.trans hb1⟩
end Go.Proofs.YtcppmghhijffpaaDoorW.PrintMore
