import Derived.Test.YtcppmghhijffpaaDoorText
import Derived.Test.YtcppmghhijffpaaDoorEv
import Derived.Test.YtcppmghhijffpaaDoorX8
import Derived.Test.YtcppmghhijffpaaDoorUtfTieS
import Derived.Test.YtcppmghhijffpaaDoorUtfTieC
import Derived.Test.YtcppmghhijffpaaDoorX4
import Derived.Test.YtcppmghhijffpaaDoorX5
import Derived.Test.YtcppmghhijffpaaDoorX9
import Derived.Test.YtcppmghhijffpaaDoorX10
import Derived.Test.YtcppmghhijffpaaDoorX3
import Derived.KernelRfl
/-! One cell's sign and the signs in lines: what the program's functions and the reference's come to. -/
namespace Go.Proofs.YtcppmghhijffpaaDoor.Tie
open Go.RowKit Go.Proofs.YtcppmghhijffpaaDoor.X Go.Proofs.YtcppmghhijffpaaDoorW.PrintWords Go.Proofs.YtcppmghhijffpaaDoorW.PrintMore
theorem rByte_no (c : Int) (h : c < -256 ∨ 0 ≤ c) : redactorref01_Byte.f c = some (0, false) := by
  unfold redactorref01_Byte.f
  by_cases h0 : c ≥ 0
  · rw [if_pos h0]
  · rw [if_neg h0, if_pos (by omega)]
theorem rRight (c : Int) : redactorref01_Right.f c = some (isCell c) := by
  unfold redactorref01_Right.f isCell
  by_cases h1 : c ≥ -256
  · rw [if_pos h1]
    by_cases h3 : c < 55296
    · rw [if_pos h3, decide_eq_true h3, decide_eq_true (show c ≤ 1114111 by omega), decide_eq_true (show -256 ≤ c by omega)]
      rfl
    · rw [if_neg h3, decide_eq_false h3, decide_eq_true (show -256 ≤ c by omega)]
      by_cases h4 : c > 57343
      · rw [if_pos h4, decide_eq_true (show 57343 < c by omega)]
        simp
      · rw [if_neg h4, decide_eq_false (show ¬ 57343 < c by omega)]
        simp
  · rw [if_neg h1, if_neg (by omega), decide_eq_false (show ¬ -256 ≤ c by omega)]
    rfl
theorem bytes_of {l : List Int} (h : ∀ x ∈ l, (Lit.int .u8 x).wf = true) : ∀ x ∈ l, 0 ≤ x ∧ x < 256 := by
  intro x hx
  have := h x hx
  simp only [Lit.wf, Bool.and_eq_true, decide_eq_true_eq, show IntKind.u8.min = 0 from rfl, show IntKind.u8.max = 255 from rfl] at this
  omega
theorem words_of {l : List Int} (h : ∀ x ∈ l, (Lit.int .i32 x).wf = true) : ∀ x ∈ l, -2147483648 ≤ x ∧ x < 2147483648 := by
  intro x hx
  have := h x hx
  simp only [Lit.wf, Bool.and_eq_true, decide_eq_true_eq, show IntKind.i32.min = -2147483648 from rfl, show IntKind.i32.max = 2147483647 from rfl] at this
  omega
theorem cellOf_all : (List.range 256).all (fun k => isCell (cellOf (k : Int))) = true := by kernel_rfl
theorem cellsOf_is (l : List Int) (h : ∀ x ∈ l, 0 ≤ x ∧ x < 256) : ∀ c ∈ cellsOf l, isCell c = true := by
  intro c hc
  unfold cellsOf at hc
  obtain ⟨k, hk, rfl⟩ := List.mem_map.1 hc
  have hk' := h k (List.mem_of_mem_take hk)
  have := List.all_eq_true.1 cellOf_all k.toNat (List.mem_range.2 (by omega))
  rwa [Int.toNat_of_nonneg hk'.1] at this
theorem cell_in {c : Int} (h : isCell c = true) : -256 ≤ c ∧ c ≤ 1114111 := by
  unfold isCell at h
  simp at h
  omega
/-- A cell's sign. -/
def sgn (c : Int) : List Int :=
  if -256 ≤ c ∧ c < 0 then [92, 120, dch ((-1 - c).toNat / 16), dch ((-1 - c).toNat % 16)]
  else if isCell c = false then [92, 63]
  else if c = 92 then [92, 92]
  else if 7 ≤ c ∧ c ≤ 13 then [92, rd [97, 98, 116, 110, 118, 102, 114] (c - 7)]
  else if c < 32 ∨ (126 < c ∧ c < 160) then [92, 48 + c / 64, 48 + c / 8 % 8, 48 + c % 8]
  else [c]
/-- The few: below 160. -/
def few : List Int := (List.range 416).map fun i : Nat => (i : Int) - 256
theorem few_in (c : Int) (h0 : -256 ≤ c) (h1 : c < 160) : c ∈ few := by
  unfold few
  exact List.mem_map.2 ⟨(c + 256).toNat, List.mem_range.2 (by omega), by show (((c + 256).toNat : Nat) : Int) - 256 = c; omega⟩
theorem sgn_far (c : Int) (h : c < -256 ∨ 160 ≤ c) : sgn c = if isCell c = true then [c] else [92, 63] := by
  unfold sgn
  rw [if_neg (by omega)]
  by_cases hc : isCell c = true
  · have := cell_in hc
    rw [if_neg (by simp [hc]), if_pos hc, if_neg (by omega), if_neg (by omega), if_neg (by omega)]
  · rw [if_pos (by simpa using hc), if_neg hc]
theorem sign_few : few.all (fun c => list_sign.f 4 c == some (sgn c)) = true := by kernel_rfl
theorem rsign_few : few.all (fun c => redactorref17_sign.f 12 c == some (sgn c)) = true := by kernel_rfl
theorem yes_few : few.all (fun c => decide (1 ≤ (sgn c).length) && decide ((sgn c).length ≤ 4) && (sgn c).all (fun x => decide (32 ≤ x) && (decide (x < 127) || decide (159 < x)))) = true := by kernel_rfl
theorem cByte_far (c : Int) (h : c < -256 ∨ 160 ≤ c) : cell_Byte.f c = some (0, false) := by
  unfold cell_Byte.f
  by_cases h0 : c ≥ 0
  · rw [if_pos h0]
  · rw [if_neg h0, if_pos (by omega)]
theorem cRight' (c : Int) : cell_Right.f c = some (isCell c) := by
  unfold cell_Right.f isCell
  by_cases h1 : c ≥ -256
  · rw [if_pos h1]
    by_cases h2 : c ≤ 1114111
    · rw [if_pos h2]
      by_cases h3 : c < 55296
      · rw [if_pos h3]
        simp [h2, h3]
        omega
      · rw [if_neg h3]
        simp [h2, h3]
        omega
    · rw [if_neg h2]
      simp [h2]
  · rw [if_neg h1]
    simp
    omega
theorem bang : cell_Of.f (⟨#[92, 63]⟩ : ByteArray) = some [92, 63] := by kernel_rfl
theorem sign_ev (c : Int) (hc : -2147483648 ≤ c ∧ c < 2147483648) : Ev (fun k => list_sign.f k c) (sgn c) := by
  by_cases h : -256 ≤ c ∧ c < 160
  · exact Ev.of (fun k => list_sign.mono c k) (eq_of_beq (List.all_eq_true.1 sign_few c (few_in c h.1 h.2)))
  · rw [sgn_far c (by omega)]
    unfold list_sign.f
    refine Ev_let (cByte_far c (by omega)) (Ev_no (by simp) (Ev_let (cRight' c) ?_))
    by_cases hr : isCell c = true
    · have := cell_in hr
      rw [if_pos hr]
      refine Ev_yes hr (Ev_no (by omega) (Ev_yes (by omega) ?_))
      rw [w64 (n := c) (by omega) (by omega), decide_eq_false (by omega)]
      refine Ev_succ ?_
      simp only [list_sign.j0]
      refine Ev_no (by simp) (Ev_no (by omega) (Ev_yes (by omega) ?_))
      rw [decide_eq_false (by omega)]
      refine Ev_succ ?_
      simp only [list_sign.j1]
      exact Ev_no (by simp) (Ev_done rfl)
    · rw [if_neg hr]
      exact Ev_no hr (Ev_let bang (Ev_done rfl))
theorem rbang : redactorref17_cells.f 5 (⟨#[92, 63]⟩ : ByteArray) = some [92, 63] := by kernel_rfl
theorem rsign_ev (c : Int) : Ev (fun k => redactorref17_sign.f k c) (sgn c) := by
  by_cases h : -256 ≤ c ∧ c < 160
  · exact Ev.of (fun k => redactorref17_sign.mono c k) (eq_of_beq (List.all_eq_true.1 rsign_few c (few_in c h.1 h.2)))
  · rw [sgn_far c (by omega)]
    unfold redactorref17_sign.f
    refine Ev_let (rByte_no c (by omega)) (Ev_no (by simp) (Ev_let (rRight c) ?_))
    by_cases hr : isCell c = true
    · have := cell_in hr
      rw [if_pos hr]
      refine Ev_yes hr (Ev_no (by omega) (Ev_yes (by omega) ?_))
      rw [decide_eq_false (by omega)]
      refine Ev_succ ?_
      simp only [redactorref17_sign.j0]
      exact Ev_no (by simp) (Ev_no (by omega) (Ev_yes (by omega) (Ev_no (by omega) (Ev_done rfl))))
    · rw [if_neg hr]
      exact Ev_no hr (Ev.bind (Ev.of (fun k => redactorref17_cells.mono _ k) rbang) (Ev_done rfl))
theorem sgn_len (c : Int) : 1 ≤ (sgn c).length ∧ (sgn c).length ≤ 4 := by
  by_cases h : -256 ≤ c ∧ c < 160
  · have := List.all_eq_true.1 yes_few c (few_in c h.1 h.2)
    simp only [Bool.and_eq_true, decide_eq_true_eq] at this
    exact this.1
  · rw [sgn_far c (by omega)]
    split
    · exact ⟨Nat.le_refl _, by show 1 ≤ 4; decide⟩
    · exact ⟨by decide, by decide⟩
theorem sgn_seen (c : Int) : ∀ x ∈ sgn c, 32 ≤ x ∧ (x < 127 ∨ 159 < x) := by
  intro x hx
  by_cases h : -256 ≤ c ∧ c < 160
  · have := List.all_eq_true.1 yes_few c (few_in c h.1 h.2)
    simp only [Bool.and_eq_true, decide_eq_true_eq] at this
    have := List.all_eq_true.1 this.2 x hx
    simp only [Bool.and_eq_true, Bool.or_eq_true, decide_eq_true_eq] at this
    exact this
  · rw [sgn_far c (by omega)] at hx
    split at hx
    · rename_i hr
      have := cell_in hr
      rw [List.mem_singleton] at hx
      subst hx
      omega
    · simp only [List.mem_cons, List.not_mem_nil, or_false] at hx
      rcases hx with rfl | rfl <;> omega
/-- The signs, in lines. -/
def showL (wide : Int) (l : List Int) : List Int := ((l.map sgn ++ [[36]]).foldl (Show.fold1 wide) ([], 0)).1
theorem sgns_ev : ∀ (l : List Int), (∀ c ∈ l, -2147483648 ≤ c ∧ c < 2147483648) → Ev (fun k => Show.sgns (fun c => list_sign.f k c) l) (l.map sgn) := by
  intro l
  induction l with
  | nil => intro _; exact Ev_done rfl
  | cons c l ih =>
    intro h
    have hc := h c (by simp)
    have hl := sgn_len c
    simp only [Show.sgns]
    exact Ev.bind (sign_ev c hc) (Ev_yes ⟨hl.1, by omega⟩ (Ev.bind (ih (fun x hx => h x (by simp [hx]))) (Ev_done rfl)))
theorem show_ev (l : List Int) (wide : Int) (hl : l.length < 1073741824) (h : ∀ c ∈ l, -2147483648 ≤ c ∧ c < 2147483648) : Ev (fun k => list_Show.f k l wide) (showL wide l) := by
  unfold list_Show.f
  exact Ev_yes hl (Ev.bind (sgns_ev l h) (Ev_done rfl))
theorem known_is : redactorlaw17_known.f 20 = some true := by kernel_rfl
theorem known_ev : Ev (fun k => redactorlaw17_known.f k) true := Ev.of (fun k => redactorlaw17_known.mono k) known_is
/-- The state after some signs. -/
def stOf (wide : Int) (l : List Int) : List Int × Int := (l.map sgn).foldl (Show.fold1 wide) ([], 0)
theorem stOf_snoc (wide : Int) (l : List Int) (c : Int) : stOf wide (l ++ [c]) = Show.fold1 wide (stOf wide l) (sgn c) := by
  unfold stOf
  rw [List.map_append, List.foldl_append]
  rfl
theorem showL_st (wide : Int) (l : List Int) : showL wide l = (Show.fold1 wide (stOf wide l) [36]).1 := by
  unfold showL stOf
  rw [List.foldl_append]
  rfl
theorem fold_in (wide : Int) : ∀ (l : List Int) (st : List Int × Int), 0 ≤ st.2 → ((l.map sgn).foldl (Show.fold1 wide) st).1.length ≤ st.1.length + 6 * l.length ∧ 0 ≤ ((l.map sgn).foldl (Show.fold1 wide) st).2 ∧ ((l.map sgn).foldl (Show.fold1 wide) st).2 ≤ st.2 + 4 * l.length := by
  intro l
  induction l with
  | nil =>
    intro st h
    simp
    exact h
  | cons c l ih =>
    intro st h
    have hc := sgn_len c
    have h1 : 0 ≤ (Show.fold1 wide st (sgn c)).2 ∧ (Show.fold1 wide st (sgn c)).2 ≤ st.2 + 4 ∧ (Show.fold1 wide st (sgn c)).1.length ≤ st.1.length + 6 := by
      unfold Show.fold1
      split
      · refine ⟨by simp only []; omega, by simp only []; omega, ?_⟩
        simp only [List.length_append, List.length_cons, List.length_nil]
        omega
      · refine ⟨by simp only []; omega, by simp only []; omega, ?_⟩
        simp only [List.length_append]
        omega
    have := ih (Show.fold1 wide st (sgn c)) h1.1
    rw [List.map_cons, List.foldl_cons, List.length_cons]
    omega
theorem stOf_in (wide : Int) (l : List Int) : (stOf wide l).1.length ≤ 6 * l.length ∧ 0 ≤ (stOf wide l).2 ∧ (stOf wide l).2 ≤ 4 * l.length := by
  have := fold_in wide l ([], 0) (Int.le_refl 0)
  unfold stOf
  simp only [List.length_nil] at this
  omega
theorem fold_none (l : List (List Int)) : ∀ st : List Int × Int, (l.foldl (Show.fold1 0) st).1 = st.1 ++ l.flatten := by
  induction l with
  | nil => intro st; simp
  | cons s l ih =>
    intro st
    rw [List.foldl_cons, ih, List.flatten_cons]
    have : Show.fold1 0 st s = (st.1 ++ s, st.2 + s.length) := if_neg (by omega)
    rw [this, List.append_assoc]
/-- Unfolded: one sign behind the other. -/
theorem showL_zero (l : List Int) : showL 0 l = l.flatMap sgn ++ [36] := by
  unfold showL
  rw [fold_none, List.nil_append, List.flatten_append, List.flatMap_def]
  rfl
end Go.Proofs.YtcppmghhijffpaaDoor.Tie
