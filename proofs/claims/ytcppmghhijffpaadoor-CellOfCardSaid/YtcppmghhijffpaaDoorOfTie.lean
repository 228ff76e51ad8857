import Derived.Test.YtcppmghhijffpaaDoorUni
import Derived.Test.YtcppmghhijffpaaDoorTextTie
import Derived.Test.YtcppmghhijffpaaDoorX19
import Derived.Test.YtcppmghhijffpaaDoorX11
import Derived.Test.YtcppmghhijffpaaDoorX18
import Derived.Test.YtcppmghhijffpaaDoorX17
import Derived.KernelRfl
/-! The reference's First and Of: what Go's own decoding says. -/
namespace Go.Proofs.YtcppmghhijffpaaDoor.Tie
open Go.RowKit Go.Proofs.YtcppmghhijffpaaDoor.X Go.Proofs.YtcppmghhijffpaaDoorW.PrintWords Go.Proofs.YtcppmghhijffpaaDoorW.PrintMore
def needN (b : Int) : Int := if b < 128 then 1 else if 194 ≤ b ∧ b ≤ 223 then 2 else if 224 ≤ b ∧ b ≤ 239 then 3 else if 240 ≤ b ∧ b ≤ 244 then 4 else 0
theorem need_ev (b : Int) : Ev (fun k => redactorref01_need.f k b) (needN b) := by
  have hj1 : 194 ≤ b → ¬ b ≤ 223 → ∀ q, q = decide (224 ≤ b ∧ b ≤ 239) → Ev (fun k => redactorref01_need.j1 k b q) (needN b) := by
    rintro h0 h1 q rfl
    have e0 : needN b = if 224 ≤ b ∧ b ≤ 239 then 3 else if 240 ≤ b ∧ b ≤ 244 then 4 else 0 := by
      unfold needN
      rw [if_neg (show ¬ b < 128 by omega), if_neg (show ¬ (194 ≤ b ∧ b ≤ 223) by omega)]
    refine Ev_succ ?_
    simp only [redactorref01_need.j1]
    by_cases h : 224 ≤ b ∧ b ≤ 239
    · rw [e0, if_pos h]
      exact Ev_yes (decide_eq_true h) (Ev_done rfl)
    · rw [e0, if_neg h]
      refine Ev_no (by rw [decide_eq_false h]; simp) ?_
      by_cases h2 : b ≥ 240
      · refine Ev_yes h2 ?_
        by_cases h3 : b ≤ 244
        · exact Ev_yes h3 (Ev_done (if_pos ⟨h2, h3⟩).symm)
        · exact Ev_no h3 (Ev_done (if_neg (by omega)).symm)
      · exact Ev_no h2 (Ev_done (if_neg (by omega)).symm)
  unfold redactorref01_need.f
  by_cases h0 : b < 128
  · refine Ev_yes h0 (Ev_done ?_)
    unfold needN
    rw [if_pos h0]
  refine Ev_no h0 ?_
  by_cases h1 : b ≥ 194
  · refine Ev_yes h1 (Ev_succ ?_)
    simp only [redactorref01_need.j0]
    by_cases h2 : b ≤ 223
    · refine Ev_yes (decide_eq_true h2) (Ev_done ?_)
      unfold needN
      rw [if_neg h0, if_pos ⟨h1, h2⟩]
    · refine Ev_no (by simpa using h2) ?_
      by_cases h3 : b ≥ 224
      · exact Ev_yes h3 (hj1 h1 h2 _ (by congr 1; simp [show 224 ≤ b from h3]))
      · exact Ev_no h3 (hj1 h1 h2 _ (decide_eq_false (by omega)).symm)
  · refine Ev_no h1 (Ev_succ ?_)
    simp only [redactorref01_need.j0]
    refine Ev_no (by simp) (Ev_no (by omega) (Ev_succ ?_))
    simp only [redactorref01_need.j1]
    refine Ev_no (by simp) (Ev_no (by omega) (Ev_done ?_))
    unfold needN
    rw [if_neg h0, if_neg (by omega), if_neg (by omega), if_neg (by omega)]
/-- The scalar that a text begins with; none. -/
def firstOf (s : ByteArray) : Int × Int := if (Utf8.decode s 0).1 = 65533 ∧ (Utf8.decode s 0).2 = 1 then (0, 0) else (((Utf8.decode s 0).1 : Int), ((Utf8.decode s 0).2 : Int))
theorem firstOf_err {s : ByteArray} (h : Utf8.decode s 0 = (65533, 1)) : firstOf s = (0, 0) := by
  unfold firstOf
  rw [h, if_pos ⟨rfl, rfl⟩]
theorem firstOf_wide {s : ByteArray} {c n : Nat} (h : Utf8.decode s 0 = (c, n)) (hn : ¬ (c = 65533 ∧ n = 1)) : firstOf s = ((c : Int), (n : Int)) := by
  unfold firstOf
  rw [h]
  exact if_neg hn
theorem first_loop (s : ByteArray) (n c : Int) (i : Nat) (r : Int × Int) (hi : (i : Int) < n) (hs : i < s.size) (hb : i < 8)
    (h0 : gb s i / 64 ≠ 2 → r = (0, 0)) (h1 : gb s i / 64 = 2 → Ev (fun k => redactorref01_First.l0 k s n (wrap32 (wrap32 (c * 64) + ((gb s i % 64 : Nat) : Int))) ((i + 1 : Nat) : Int)) r) :
    Ev (fun k => redactorref01_First.l0 k s n c (i : Int)) r := by
  have hg : gb s i < 256 := UInt8.toNat_lt _
  refine Ev_succ ?_
  simp only [redactorref01_First.l0]
  rw [bt_gb s i hs]
  refine Ev_yes hi (Ev_yes (by omega) (Ev_yes (by omega) ?_))
  by_cases c1 : (gb s i : Int) < 128
  · exact Ev_yes c1 (Ev_done (h0 (by omega)).symm)
  · refine Ev_no c1 ?_
    by_cases c2 : (gb s i : Int) > 191
    · exact Ev_yes c2 (Ev_done (h0 (by omega)).symm)
    · refine Ev_no c2 ?_
      have := h1 (by omega)
      rw [Int.tmod_eq_emod_of_nonneg (by omega), show (gb s i : Int) % 64 = ((gb s i % 64 : Nat) : Int) from by omega, w32 (n := ((gb s i % 64 : Nat) : Int)) (by omega) (by omega), w64 (by omega) (by omega)]
      exact this
def leastN (n : Int) : Int := rd [0, 0, 128, 2048, 65536] n
theorem first_end (s : ByteArray) (n c : Int) (h0 : 0 ≤ n) (h1 : n < 5) :
    Ev (fun k => redactorref01_First.l0 k s n c n) (if c < leastN n then (0, 0) else if isCell c = true then (c, n) else (0, 0)) := by
  refine Ev_succ ?_
  simp only [redactorref01_First.l0]
  refine Ev_no (by omega) (Ev_let rfl (Ev_yes h0 (Ev_yes (by simpa using h1) ?_)))
  by_cases h : c < leastN n
  · rw [if_pos h]
    exact Ev_yes h (Ev_done rfl)
  · rw [if_neg h]
    refine Ev_no h (Ev_let (rRight c) ?_)
    by_cases h2 : isCell c = true
    · exact Ev_yes h2 (Ev_done (if_pos h2).symm)
    · exact Ev_no h2 (Ev_done (if_neg h2).symm)
theorem dec2 (b0 : Nat) (c1 c2 c3 : Bool) (a1 a2 a3 : Nat) (h : b0 / 32 = 6) : dec b0 c1 c2 c3 a1 a2 a3 = if c1 = true ∧ b0 % 32 * 64 + a1 % 64 ≥ 128 then (b0 % 32 * 64 + a1 % 64, 2) else (65533, 1) := by
  unfold dec
  rw [if_neg (by omega)]
  cases c1
  · rw [if_neg (by simp), if_neg (by simp), if_neg (by simp), if_neg (by simp)]
  · rw [if_pos (by simp [h])]
    by_cases hc : b0 % 32 * 64 + a1 % 64 ≥ 128
    · rw [if_pos hc, if_pos ⟨rfl, hc⟩]
    · rw [if_neg hc, if_neg (fun e => hc e.2)]
theorem dec3 (b0 : Nat) (c1 c2 c3 : Bool) (a1 a2 a3 : Nat) (h : b0 / 16 = 14) : dec b0 c1 c2 c3 a1 a2 a3 = if c1 = true ∧ c2 = true ∧ b0 % 16 * 4096 + a1 % 64 * 64 + a2 % 64 ≥ 2048 ∧ Utf8.valid ((b0 % 16 * 4096 + a1 % 64 * 64 + a2 % 64 : Nat) : Int) = true then (b0 % 16 * 4096 + a1 % 64 * 64 + a2 % 64, 3) else (65533, 1) := by
  have q6 : (b0 / 32 == 6) = false := beq_eq_false_iff_ne.mpr (by omega)
  have q30 : (b0 / 8 == 30) = false := beq_eq_false_iff_ne.mpr (by omega)
  unfold dec
  rw [if_neg (by omega), if_neg (by simp [q6])]
  by_cases hc : (b0 / 16 == 14 && c1 && c2) = true
  · rw [if_pos hc]
    simp only [Bool.and_eq_true, beq_iff_eq] at hc
    by_cases hd : b0 % 16 * 4096 + a1 % 64 * 64 + a2 % 64 ≥ 2048 ∧ Utf8.valid ((b0 % 16 * 4096 + a1 % 64 * 64 + a2 % 64 : Nat) : Int) = true
    · rw [if_pos (by simp only [Bool.and_eq_true, decide_eq_true_eq]; exact hd), if_pos ⟨hc.1.2, hc.2, hd.1, hd.2⟩]
    · rw [if_neg (by simp only [Bool.and_eq_true, decide_eq_true_eq]; exact hd), if_neg (fun e => hd ⟨e.2.2.1, e.2.2.2⟩)]
  · rw [if_neg hc, if_neg (by simp [q30]), if_neg (fun e => hc (by simp [h, e.1, e.2.1]))]
theorem dec4 (b0 : Nat) (c1 c2 c3 : Bool) (a1 a2 a3 : Nat) (h : b0 / 8 = 30) : dec b0 c1 c2 c3 a1 a2 a3 = if c1 = true ∧ c2 = true ∧ c3 = true ∧ b0 % 8 * 262144 + a1 % 64 * 4096 + a2 % 64 * 64 + a3 % 64 ≥ 65536 ∧ Utf8.valid ((b0 % 8 * 262144 + a1 % 64 * 4096 + a2 % 64 * 64 + a3 % 64 : Nat) : Int) = true then (b0 % 8 * 262144 + a1 % 64 * 4096 + a2 % 64 * 64 + a3 % 64, 4) else (65533, 1) := by
  have q6 : (b0 / 32 == 6) = false := beq_eq_false_iff_ne.mpr (by omega)
  have q14 : (b0 / 16 == 14) = false := beq_eq_false_iff_ne.mpr (by omega)
  unfold dec
  rw [if_neg (by omega), if_neg (by simp [q6]), if_neg (by simp [q14])]
  by_cases hc : (b0 / 8 == 30 && c1 && c2 && c3) = true
  · rw [if_pos hc]
    simp only [Bool.and_eq_true, beq_iff_eq] at hc
    by_cases hd : b0 % 8 * 262144 + a1 % 64 * 4096 + a2 % 64 * 64 + a3 % 64 ≥ 65536 ∧ Utf8.valid ((b0 % 8 * 262144 + a1 % 64 * 4096 + a2 % 64 * 64 + a3 % 64 : Nat) : Int) = true
    · rw [if_pos (by simp only [Bool.and_eq_true, decide_eq_true_eq]; exact hd), if_pos ⟨hc.1.1.2, hc.1.2, hc.2, hd.1, hd.2⟩]
    · rw [if_neg (by simp only [Bool.and_eq_true, decide_eq_true_eq]; exact hd), if_neg (fun e => hd ⟨e.2.2.2.1, e.2.2.2.2⟩)]
  · rw [if_neg hc, if_neg (fun e => hc (by simp [h, e.1, e.2.1, e.2.2.1]))]
theorem decE (b0 : Nat) (c1 c2 c3 : Bool) (a1 a2 a3 : Nat) (h0 : ¬ b0 < 128) (h6 : b0 / 32 ≠ 6) (h14 : b0 / 16 ≠ 14) (h30 : b0 / 8 ≠ 30) : dec b0 c1 c2 c3 a1 a2 a3 = (65533, 1) := by
  unfold dec
  rw [if_neg h0, if_neg (by simp [h6]), if_neg (by simp [h14]), if_neg (by simp [h30])]
theorem ct_is (s : ByteArray) (k : Nat) : ct s k = true ↔ k < s.size ∧ gb s k / 64 = 2 := by
  unfold ct
  simp
theorem valid_cell (n : Nat) : Utf8.valid (n : Int) = isCell (n : Int) := by
  unfold Utf8.valid isCell
  rw [Bool.eq_iff_iff]
  simp
  omega
/-- How First goes on, where so many bytes are asked. -/
theorem first_j0 (s : ByteArray) (n m : Nat) (r : Int × Int) (h0 : 0 < s.size) (hn : 2 ≤ n) (h4 : n ≤ 4) (hm : shl .i32 1 (IntKind.u64.wrap (wrap64 (7 - (n : Int)))) = (m : Int)) (hm0 : 0 < m) (hr : Ev (fun k => redactorref01_First.l0 k s (n : Int) ((gb s 0 % m : Nat) : Int) 1) r) :
    Ev (fun k => redactorref01_First.j0 k s (n : Int) false) r := by
  have hg : gb s 0 < 256 := UInt8.toNat_lt _
  have e0 : bt s 0 = (gb s 0 : Int) := bt_gb s 0 h0
  have hu : 0 ≤ IntKind.u64.wrap (wrap64 (7 - (n : Int))) := by
    rw [w64 (by omega) (by omega)]
    have : n = 2 ∨ n = 3 ∨ n = 4 := by omega
    rcases this with rfl | rfl | rfl <;> decide
  refine Ev_succ ?_
  simp only [redactorref01_First.j0]
  rw [hm, e0, w32 (n := (gb s 0 : Int)) (by omega) (by omega), Int.tmod_eq_emod_of_nonneg (by omega), show (gb s 0 : Int) % (m : Int) = ((gb s 0 % m : Nat) : Int) from by omega]
  refine Ev_no (by simp) (Ev_yes (by omega) (Ev_yes (by omega) (Ev_yes hu (Ev_no (by omega) (Ev_succ ?_)))))
  simp only [redactorref01_First.j1]
  exact hr
theorem first_ev (s : ByteArray) (h0 : 0 < s.size) : Ev (fun k => redactorref01_First.f k s) (firstOf s) := by
  have hg : gb s 0 < 256 := UInt8.toNat_lt _
  have hg1 : gb s 1 < 256 := UInt8.toNat_lt _
  have hg2 : gb s 2 < 256 := UInt8.toNat_lt _
  have hg3 : gb s 3 < 256 := UInt8.toNat_lt _
  have e0 : bt s 0 = (gb s 0 : Int) := bt_gb s 0 h0
  have hd : Utf8.decode s 0 = dec (gb s 0) (ct s 1) (ct s 2) (ct s 3) (gb s 1) (gb s 2) (gb s 3) := decode_dec s 0
  have none_ : ∀ n : Int, firstOf s = (0, 0) → Ev (fun k => redactorref01_First.j0 k s n true) (firstOf s) := by
    intro n h
    rw [h]
    refine Ev_succ ?_
    simp only [redactorref01_First.j0]
    exact Ev_yes (by trivial) (Ev_done rfl)
  unfold redactorref01_First.f
  refine Ev_no ?_ (Ev_yes (by omega) ?_)
  · rw [ByteArray.toList_eq]
    intro e
    have : s.data.toList.length = 0 := by rw [e]; rfl
    rw [Array.length_toList] at this
    exact absurd h0 (by show ¬ 0 < s.data.size; omega)
  rw [e0]
  refine Ev.bind (need_ev _) ?_
  by_cases b1 : gb s 0 < 128
  · have hN : needN (gb s 0 : Int) = 1 := by
      unfold needN
      rw [if_pos (by omega)]
    have hF : firstOf s = ((gb s 0 : Int), 1) := firstOf_wide (c := gb s 0) (n := 1) (by rw [hd]; unfold dec; rw [if_pos b1]) (by omega)
    rw [hN, hF]
    refine Ev_no (by decide) ?_
    rw [decide_eq_false (by omega)]
    refine Ev_succ ?_
    simp only [redactorref01_First.j0]
    refine Ev_no (by simp) (Ev_yes (by omega) (Ev_no (by decide) (Ev_succ ?_)))
    simp only [redactorref01_First.j1]
    rw [e0, w32 (n := (gb s 0 : Int)) (by omega) (by omega)]
    have := first_end s 1 (gb s 0 : Int) (by decide) (by decide)
    rw [if_neg (by show ¬ _ < (0 : Int); omega), if_pos (by unfold isCell; simp; omega)] at this
    exact this
  by_cases b2 : 194 ≤ gb s 0 ∧ gb s 0 ≤ 223
  · have hN : needN (gb s 0 : Int) = 2 := by
      unfold needN
      rw [if_neg (by omega), if_pos (by omega)]
    rw [dec2 _ _ _ _ _ _ _ (by omega)] at hd
    rw [hN]
    refine Ev_no (by decide) ?_
    by_cases hs : 2 > (s.size : Int)
    · rw [decide_eq_true hs]
      refine none_ 2 (firstOf_err ?_)
      rw [hd, if_neg (by rintro ⟨h, _⟩; have := (ct_is s 1).1 h; omega)]
    · rw [decide_eq_false hs]
      refine first_j0 s 2 32 _ h0 (by decide) (by decide) (by kernel_rfl) (by decide) ?_
      refine first_loop s _ _ 1 _ (by decide) (by omega) (by decide) (fun h => ?_) (fun h => ?_)
      · refine firstOf_err ?_
        rw [hd, if_neg (by rintro ⟨h', _⟩; exact h ((ct_is s 1).1 h').2)]
      · have := first_end s 2 ((gb s 0 % 32 * 64 + gb s 1 % 64 : Nat) : Int) (by decide) (by decide)
        rw [if_neg (by show ¬ _ < (128 : Int); omega), if_pos (by unfold isCell; simp; omega)] at this
        rw [w32 (n := ((gb s 0 % 32 : Nat) : Int) * 64) (by omega) (by omega), w32 (by omega) (by omega), firstOf_wide (c := gb s 0 % 32 * 64 + gb s 1 % 64) (n := 2) (by rw [hd, if_pos ⟨(ct_is s 1).2 ⟨by omega, h⟩, by omega⟩]) (by omega)]
        rw [show ((gb s 0 % 32 : Nat) : Int) * 64 + ((gb s 1 % 64 : Nat) : Int) = ((gb s 0 % 32 * 64 + gb s 1 % 64 : Nat) : Int) from by omega]
        exact this
  by_cases b3 : 224 ≤ gb s 0 ∧ gb s 0 ≤ 239
  · have hN : needN (gb s 0 : Int) = 3 := by
      unfold needN
      rw [if_neg (by omega), if_neg (by omega), if_pos (by omega)]
    rw [dec3 _ _ _ _ _ _ _ (by omega)] at hd
    rw [hN]
    refine Ev_no (by decide) ?_
    by_cases hs : 3 > (s.size : Int)
    · rw [decide_eq_true hs]
      refine none_ 3 (firstOf_err ?_)
      rw [hd, if_neg (by rintro ⟨_, h, _⟩; have := (ct_is s 2).1 h; omega)]
    · rw [decide_eq_false hs]
      refine first_j0 s 3 16 _ h0 (by decide) (by decide) (by kernel_rfl) (by decide) ?_
      refine first_loop s _ _ 1 _ (by decide) (by omega) (by decide) (fun h => ?_) (fun h => ?_)
      · refine firstOf_err ?_
        rw [hd, if_neg (by rintro ⟨h', _⟩; exact h ((ct_is s 1).1 h').2)]
      refine first_loop s _ _ 2 _ (by decide) (by omega) (by decide) (fun h' => ?_) (fun h' => ?_)
      · refine firstOf_err ?_
        rw [hd, if_neg (by rintro ⟨_, h2, _⟩; exact h' ((ct_is s 2).1 h2).2)]
      rw [w32 (n := ((gb s 0 % 16 : Nat) : Int) * 64) (by omega) (by omega), w32 (n := ((gb s 0 % 16 : Nat) : Int) * 64 + ((gb s 1 % 64 : Nat) : Int)) (by omega) (by omega), w32 (n := (((gb s 0 % 16 : Nat) : Int) * 64 + ((gb s 1 % 64 : Nat) : Int)) * 64) (by omega) (by omega), w32 (by omega) (by omega)]
      rw [show (((gb s 0 % 16 : Nat) : Int) * 64 + ((gb s 1 % 64 : Nat) : Int)) * 64 + ((gb s 2 % 64 : Nat) : Int) = ((gb s 0 % 16 * 4096 + gb s 1 % 64 * 64 + gb s 2 % 64 : Nat) : Int) from by omega]
      have := first_end s 3 ((gb s 0 % 16 * 4096 + gb s 1 % 64 * 64 + gb s 2 % 64 : Nat) : Int) (by decide) (by decide)
      have hL : leastN 3 = 2048 := rfl
      rw [hL] at this
      rw [valid_cell] at hd
      by_cases hc : gb s 0 % 16 * 4096 + gb s 1 % 64 * 64 + gb s 2 % 64 ≥ 2048 ∧ isCell ((gb s 0 % 16 * 4096 + gb s 1 % 64 * 64 + gb s 2 % 64 : Nat) : Int) = true
      · rw [if_pos ⟨(ct_is s 1).2 ⟨by omega, h⟩, (ct_is s 2).2 ⟨by omega, h'⟩, hc.1, hc.2⟩] at hd
        rw [firstOf_wide hd (by omega)]
        rw [if_neg (by omega), if_pos hc.2] at this
        exact this
      · rw [if_neg (fun e => hc ⟨e.2.2.1, e.2.2.2⟩)] at hd
        rw [firstOf_err hd]
        by_cases hl : gb s 0 % 16 * 4096 + gb s 1 % 64 * 64 + gb s 2 % 64 ≥ 2048
        · rw [if_neg (by omega), if_neg (fun e => hc ⟨hl, e⟩)] at this
          exact this
        · rw [if_pos (by omega)] at this
          exact this
  by_cases b4 : 240 ≤ gb s 0 ∧ gb s 0 ≤ 244
  · have hN : needN (gb s 0 : Int) = 4 := by
      unfold needN
      rw [if_neg (by omega), if_neg (by omega), if_neg (by omega), if_pos (by omega)]
    rw [dec4 _ _ _ _ _ _ _ (by omega)] at hd
    rw [hN]
    refine Ev_no (by decide) ?_
    by_cases hs : 4 > (s.size : Int)
    · rw [decide_eq_true hs]
      refine none_ 4 (firstOf_err ?_)
      rw [hd, if_neg (by rintro ⟨_, _, h, _⟩; have := (ct_is s 3).1 h; omega)]
    · rw [decide_eq_false hs]
      refine first_j0 s 4 8 _ h0 (by decide) (by decide) (by kernel_rfl) (by decide) ?_
      refine first_loop s _ _ 1 _ (by decide) (by omega) (by decide) (fun h => ?_) (fun h => ?_)
      · refine firstOf_err ?_
        rw [hd, if_neg (by rintro ⟨h', _⟩; exact h ((ct_is s 1).1 h').2)]
      refine first_loop s _ _ 2 _ (by decide) (by omega) (by decide) (fun h' => ?_) (fun h' => ?_)
      · refine firstOf_err ?_
        rw [hd, if_neg (by rintro ⟨_, h2, _⟩; exact h' ((ct_is s 2).1 h2).2)]
      refine first_loop s _ _ 3 _ (by decide) (by omega) (by decide) (fun h2 => ?_) (fun h2 => ?_)
      · refine firstOf_err ?_
        rw [hd, if_neg (by rintro ⟨_, _, h3, _⟩; exact h2 ((ct_is s 3).1 h3).2)]
      rw [w32 (n := ((gb s 0 % 8 : Nat) : Int) * 64) (by omega) (by omega), w32 (n := ((gb s 0 % 8 : Nat) : Int) * 64 + ((gb s 1 % 64 : Nat) : Int)) (by omega) (by omega), w32 (n := (((gb s 0 % 8 : Nat) : Int) * 64 + ((gb s 1 % 64 : Nat) : Int)) * 64) (by omega) (by omega), w32 (n := (((gb s 0 % 8 : Nat) : Int) * 64 + ((gb s 1 % 64 : Nat) : Int)) * 64 + ((gb s 2 % 64 : Nat) : Int)) (by omega) (by omega), w32 (n := ((((gb s 0 % 8 : Nat) : Int) * 64 + ((gb s 1 % 64 : Nat) : Int)) * 64 + ((gb s 2 % 64 : Nat) : Int)) * 64) (by omega) (by omega), w32 (by omega) (by omega)]
      rw [show ((((gb s 0 % 8 : Nat) : Int) * 64 + ((gb s 1 % 64 : Nat) : Int)) * 64 + ((gb s 2 % 64 : Nat) : Int)) * 64 + ((gb s 3 % 64 : Nat) : Int) = ((gb s 0 % 8 * 262144 + gb s 1 % 64 * 4096 + gb s 2 % 64 * 64 + gb s 3 % 64 : Nat) : Int) from by omega]
      have := first_end s 4 ((gb s 0 % 8 * 262144 + gb s 1 % 64 * 4096 + gb s 2 % 64 * 64 + gb s 3 % 64 : Nat) : Int) (by decide) (by decide)
      have hL : leastN 4 = 65536 := rfl
      rw [hL] at this
      rw [valid_cell] at hd
      by_cases hc : gb s 0 % 8 * 262144 + gb s 1 % 64 * 4096 + gb s 2 % 64 * 64 + gb s 3 % 64 ≥ 65536 ∧ isCell ((gb s 0 % 8 * 262144 + gb s 1 % 64 * 4096 + gb s 2 % 64 * 64 + gb s 3 % 64 : Nat) : Int) = true
      · rw [if_pos ⟨(ct_is s 1).2 ⟨by omega, h⟩, (ct_is s 2).2 ⟨by omega, h'⟩, (ct_is s 3).2 ⟨by omega, h2⟩, hc.1, hc.2⟩] at hd
        rw [firstOf_wide hd (by omega)]
        rw [if_neg (by omega), if_pos hc.2] at this
        exact this
      · rw [if_neg (fun e => hc ⟨e.2.2.2.1, e.2.2.2.2⟩)] at hd
        rw [firstOf_err hd]
        by_cases hl : gb s 0 % 8 * 262144 + gb s 1 % 64 * 4096 + gb s 2 % 64 * 64 + gb s 3 % 64 ≥ 65536
        · rw [if_neg (by omega), if_neg (fun e => hc ⟨hl, e⟩)] at this
          exact this
        · rw [if_pos (by omega)] at this
          exact this
  · have hN : needN (gb s 0 : Int) = 0 := by
      unfold needN
      rw [if_neg (by omega), if_neg (by omega), if_neg (by omega), if_neg (by omega)]
    rw [hN]
    refine Ev_yes rfl (none_ 0 (firstOf_err ?_))
    rw [hd]
    by_cases h6 : gb s 0 / 32 = 6
    · rw [dec2 _ _ _ _ _ _ _ h6, if_neg (by rintro ⟨_, h⟩; omega)]
    · by_cases h30 : gb s 0 / 8 = 30
      · rw [dec4 _ _ _ _ _ _ _ h30, if_neg]
        rintro ⟨_, _, _, _, hv⟩
        rw [valid_cell] at hv
        unfold isCell at hv
        simp at hv
        omega
      · exact decE _ _ _ _ _ _ _ b1 h6 (by omega) h30
theorem rEsc (b : Int) (h0 : 0 ≤ b) (h1 : b < 256) : redactorref01_Escape.f b = some (-1 - b) := by
  unfold redactorref01_Escape.f
  rw [w32 (n := b) (by omega) (by omega), w32 (by omega) (by omega)]
theorem rof_ev0 (s : ByteArray) (hs : s.size < 35184372088832) : ∀ (f pos : Nat) (acc : List Int), s.size ≤ pos + f → pos ≤ s.size → acc.length ≤ pos →
    Ev (fun k => redactorref01_Of.l0 k s acc (pos : Int)) (acc ++ ofFrom s f pos) := by
  intro f
  induction f with
  | zero =>
    intro pos acc h1 h2 h3
    refine Ev_succ ?_
    simp only [redactorref01_Of.l0]
    exact Ev_no (by omega) (Ev_done (by simp [ofFrom]))
  | succ f ih =>
    intro pos acc h1 h2 h3
    refine Ev_succ ?_
    simp only [redactorref01_Of.l0]
    by_cases hp : pos < s.size
    · have hw := width1 s pos hp
      have hin := (decode_in s pos hp).1
      have hg : gb s pos < 256 := UInt8.toNat_lt _
      have e1 : ofFrom s (f + 1) pos = cellAt s pos :: ofFrom s f (pos + (Utf8.decode s pos).2) := by simp only [ofFrom, if_pos hp]
      have hfe := first_ev (s.extract pos s.size) (by rw [Lib.tail_size]; omega)
      have hfo : firstOf (s.extract pos s.size) = if (Utf8.decode s pos).1 = 65533 ∧ (Utf8.decode s pos).2 = 1 then (0, 0) else (((Utf8.decode s pos).1 : Int), ((Utf8.decode s pos).2 : Int)) := by
        unfold firstOf
        rw [Lib.tail_decode, Nat.add_zero]
      rw [e1, cellAt_is s pos hp]
      refine Ev_yes (by omega) (Ev_yes (by omega) (Ev_yes (by omega) ?_))
      rw [show ((pos : Int)).toNat = pos from by omega]
      refine Ev.bind hfe ?_
      rw [hfo, bt_gb s pos hp]
      by_cases he : (Utf8.decode s pos).1 = 65533 ∧ (Utf8.decode s pos).2 = 1
      · rw [if_pos he, if_pos he]
        refine Ev_yes rfl (Ev_let (rEsc _ (by omega) (by omega)) (Ev_yes (by omega) ?_))
        have := ih (pos + 1) (acc ++ [-1 - (gb s pos : Int)]) (by omega) (by omega) (by simp; omega)
        rw [w64 (by omega) (by omega), he.2]
        simpa using this
      · rw [if_neg he, if_neg he]
        refine Ev_no (by show ¬ ((Utf8.decode s pos).2 : Int) = 0; omega) (Ev_yes (by omega) ?_)
        have := ih (pos + (Utf8.decode s pos).2) (acc ++ [((Utf8.decode s pos).1 : Int)]) (by omega) (by omega) (by simp; omega)
        rw [w64 (by omega) (by omega)]
        simpa using this
    · rw [ofFrom_end s _ pos hp]
      exact Ev_no (by omega) (Ev_done (by simp))
theorem rof_ev (s : ByteArray) (hs : s.size < 35184372088832) : Ev (fun k => redactorref01_Of.f k s) (ofAll s) := by
  unfold redactorref01_Of.f ofAll
  have := rof_ev0 s hs s.size 0 [] (by omega) (by omega) (by simp)
  simpa using this
theorem cOf (s : ByteArray) (hs : s.size < 35184372088832) : cell_Of.f s = some (ofAll s) := by
  unfold cell_Of.f
  rw [if_pos hs]
end Go.Proofs.YtcppmghhijffpaaDoor.Tie
