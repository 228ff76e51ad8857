/- Letters are themselves, however many, with ends of lines where they have to be: for every input. -/
import Derived.Test.YtcppmghhijffpaaDoorListTie
import Derived.Test.YtcppmghhijffpaaDoorX6
namespace Go.Proofs.YtcppmghhijffpaaDoor.Pure
open Go.RowKit Go.Proofs.YtcppmghhijffpaaDoor.X Go.Proofs.YtcppmghhijffpaaDoorW.PrintWords Go.Proofs.YtcppmghhijffpaaDoorW.PrintMore Go.Proofs.YtcppmghhijffpaaDoor.Tie
theorem letters_few : (List.range 26).all (fun i => sgn (97 + (i : Int)) == [97 + (i : Int)]) = true := by kernel_rfl
theorem sgn_letter (c : Int) (h0 : 97 ≤ c) (h1 : c ≤ 122) : sgn c = [c] := by
  have := eq_of_beq (List.all_eq_true.1 letters_few (c - 97).toNat (List.mem_range.2 (by omega)))
  rwa [show 97 + (((c - 97).toNat : Nat) : Int) = c from by omega] at this
theorem mod_step (W n : Nat) (hW : 0 < W) : (n + 1) % W = if n % W = W - 1 then 0 else n % W + 1 := by
  have h1 := Nat.div_add_mod n W
  have h2 := Nat.mod_lt n hW
  have e : n + 1 = W * (n / W) + (n % W + 1) := by omega
  rw [e, Nat.mul_add_mod]
  split
  · rename_i h
    rw [h, Nat.sub_add_cancel hW, Nat.mod_self]
  · exact Nat.mod_eq_of_lt (by omega)
/-- Where the line stands after so many letters. -/
theorem st_long (W : Nat) (hW : 0 < W) (l : List Int) (hl : ∀ c ∈ l, 97 ≤ c ∧ c ≤ 122) : ∀ i, i ≤ l.length → (stOf ((W : Int) + 1) (l.take i)).2 = if i = 0 then 0 else (((i - 1) % W : Nat) : Int) + 1 := by
  intro i
  induction i with
  | zero => intro _; rfl
  | succ i ih =>
    intro hi
    have hlt : i < l.length := by omega
    have hc := hl _ (List.getElem_mem hlt)
    have := ih (by omega)
    rw [List.take_add_one, List.getElem?_eq_getElem hlt, show (some l[i]).toList = [l[i]] from rfl, stOf_snoc, sgn_letter _ hc.1 hc.2, if_neg (by omega), show i + 1 - 1 = i from by omega]
    unfold Show.fold1
    rw [this]
    by_cases h0 : i = 0
    · subst h0
      rw [if_pos rfl, if_neg (by omega), Nat.zero_mod]
      rfl
    · rw [if_neg h0]
      obtain ⟨j, rfl⟩ : ∃ j, i = j + 1 := ⟨i - 1, by omega⟩
      rw [show j + 1 - 1 = j from by omega, mod_step W j hW]
      have hm := Nat.mod_lt j hW
      by_cases hm1 : j % W = W - 1
      · rw [if_pos hm1, if_pos (by simp only [List.length_cons, List.length_nil]; omega)]
        rfl
      · rw [if_neg hm1, if_neg (by simp only [List.length_cons, List.length_nil]; omega)]
        simp only [List.length_cons, List.length_nil]
        omega
theorem cond_is (W : Nat) (hW : 0 < W) (l : List Int) (hl : ∀ c ∈ l, 97 ≤ c ∧ c ≤ 122) (i : Nat) (hi : i ≤ l.length) (s : List Int) (hs : s.length = 1) :
    (2 ≤ (W : Int) + 1 ∧ 0 < (stOf ((W : Int) + 1) (l.take i)).2 ∧ (W : Int) + 1 ≤ (stOf ((W : Int) + 1) (l.take i)).2 + s.length) ↔ (0 < i ∧ i % W = 0) := by
  rw [st_long W hW l hl i hi, hs]
  by_cases h0 : i = 0
  · subst h0
    simp
  · rw [if_neg h0]
    obtain ⟨j, rfl⟩ : ∃ j, i = j + 1 := ⟨i - 1, by omega⟩
    rw [show j + 1 - 1 = j from by omega, mod_step W j hW]
    have hm := Nat.mod_lt j hW
    by_cases hm1 : j % W = W - 1
    · rw [if_pos hm1]
      constructor
      · intro _
        omega
      · intro _
        omega
    · rw [if_neg hm1]
      constructor
      · rintro ⟨_, _, h⟩
        exfalso
        omega
      · rintro ⟨_, h⟩
        exfalso
        omega
theorem plain_end (W : Nat) (l want : List Int) (hl : l.length ≤ 60) (hc : ∀ c ∈ l, 97 ≤ c ∧ c ≤ 122) (hw : want.length < 1000000) (he : want ++ [36] = showL ((W : Int) + 1) l) (x : Int) (hx : ¬ x ≤ (l.length : Int)) :
    Ev (fun k => redactorlaw17_ListPlain.l1 k l ((W : Int) + 1) want x) true := by
  refine Ev_succ ?_
  simp only [redactorlaw17_ListPlain.l1]
  have s0 := same_ev (showL ((W : Int) + 1) l) (want ++ [36]) (by rw [← he, List.length_append, List.length_cons, List.length_nil]; omega)
  rw [decide_eq_true he.symm] at s0
  exact Ev_no hx (Ev_yes (by omega) (Ev.bind known_ev (Ev_yes rfl (Ev.bind (show_ev l _ (by omega) (fun c h => by have := hc c h; omega)) (Ev.bind s0 (Ev_done rfl))))))
theorem plain_ev (W : Nat) (hW : 0 < W) (hW2 : W < 1000) (l : List Int) (hl : l.length ≤ 60) (hc : ∀ c ∈ l, 97 ≤ c ∧ c ≤ 122) : ∀ (f i : Nat), l.length ≤ i + f → i ≤ l.length →
    Ev (fun k => redactorlaw17_ListPlain.l1 k l ((W : Int) + 1) (stOf ((W : Int) + 1) (l.take i)).1 (i : Int)) true := by
  have main : ∀ (i : Nat), i ≤ l.length → (∀ h : i < l.length, Ev (fun k => redactorlaw17_ListPlain.l1 k l ((W : Int) + 1) (stOf ((W : Int) + 1) (l.take (i + 1))).1 ((i + 1 : Nat) : Int)) true) →
      Ev (fun k => redactorlaw17_ListPlain.l1 k l ((W : Int) + 1) (stOf ((W : Int) + 1) (l.take i)).1 (i : Int)) true := by
    intro i hi hnext
    have hin := stOf_in ((W : Int) + 1) (l.take i)
    have htl : (l.take i).length ≤ 60 := by rw [List.length_take]; omega
    have w1 : wrap64 ((i : Int) + 1) = ((i + 1 : Nat) : Int) := by rw [w64 (by omega) (by omega)]; omega
    have hj : ∀ b : Bool, (b = true ↔ (0 < i ∧ i % W = 0)) → Ev (fun k => redactorlaw17_ListPlain.j3 k l ((W : Int) + 1) (stOf ((W : Int) + 1) (l.take i)).1 (i : Int) b) true := by
      intro b hb
      refine Ev_succ ?_
      simp only [redactorlaw17_ListPlain.j3]
      rw [w1]
      have cc := cond_is W hW l hc i hi
      by_cases hi2 : i < l.length
      · have hci := hc _ (List.getElem_mem hi2)
        have nx := hnext hi2
        rw [List.take_add_one, List.getElem?_eq_getElem hi2, show (some l[i]).toList = [l[i]] from rfl, stOf_snoc, sgn_letter _ hci.1 hci.2] at nx
        unfold Show.fold1 at nx
        rw [rd_at l i hi2]
        by_cases hbt : b = true
        · rw [if_pos ((cc [l[i]] rfl).2 (hb.1 hbt))] at nx
          exact Ev_yes hbt (Ev_let rfl (Ev_yes (by simp only [List.length_cons, List.length_nil]; omega) (Ev_let rfl (Ev_yes (by omega) (Ev_yes (by omega) (Ev_yes (by simp only [List.length_append, List.length_cons, List.length_nil]; omega) nx))))))
        · rw [if_neg (fun e => hbt (hb.2 ((cc [l[i]] rfl).1 e)))] at nx
          exact Ev_no hbt (Ev_yes (by omega) (Ev_yes (by omega) (Ev_yes (by omega) nx)))
      · have hil : i = l.length := by omega
        have hst : stOf ((W : Int) + 1) (l.take i) = stOf ((W : Int) + 1) l := by rw [hil, List.take_length]
        have hsh := showL_st ((W : Int) + 1) l
        rw [← hst] at hsh
        unfold Show.fold1 at hsh
        by_cases hbt : b = true
        · rw [if_pos ((cc [36] rfl).2 (hb.1 hbt))] at hsh
          exact Ev_yes hbt (Ev_let rfl (Ev_yes (by simp only [List.length_cons, List.length_nil]; omega) (Ev_let rfl (Ev_no (by omega) (plain_end W l _ hl hc (by simp only [List.length_append, List.length_cons, List.length_nil]; omega) hsh.symm _ (by omega))))))
        · rw [if_neg (fun e => hbt (hb.2 ((cc [36] rfl).1 e)))] at hsh
          exact Ev_no hbt (Ev_no (by omega) (plain_end W l _ hl hc (by omega) hsh.symm _ (by omega)))
    refine Ev_succ ?_
    simp only [redactorlaw17_ListPlain.l1]
    refine Ev_yes (by omega) ?_
    rw [show (W : Int) + 1 - 1 = (W : Int) from by omega, w64 (n := (W : Int)) (by omega) (by omega), Int.tmod_eq_emod_of_nonneg (by omega), show (i : Int) % (W : Int) = ((i % W : Nat) : Int) from (Int.natCast_emod i W).symm]
    by_cases h0 : (i : Int) > 0
    · refine Ev_yes h0 (Ev_no (by omega) (hj _ ?_))
      rw [beq_iff_eq]
      omega
    · refine Ev_no h0 (hj _ ?_)
      constructor
      · intro e
        cases e
      · rintro ⟨h, _⟩
        omega
  intro f
  induction f with
  | zero =>
    intro i h1 h2
    exact main i h2 (fun h => by omega)
  | succ f ih =>
    intro i h1 h2
    by_cases hi : i < l.length
    · exact main i h2 (fun h => ih (i + 1) (by omega) h)
    · exact ih i (by omega) h2
theorem letters_ev (c : List Int) (hc : ∀ x ∈ c, 0 ≤ x ∧ x < 256) (_hn : c.length < 9223372036854775807) (a1 : Int) (r : Bool) (hr : ∀ l : List Int, l.length ≤ 60 → (∀ x ∈ l, 97 ≤ x ∧ x ≤ 122) → Ev (fun k => redactorlaw17_ListPlain.j1 k a1 l) r) :
    ∀ (f i : Nat) (acc : List Int), c.length ≤ i + f → acc.length = i → i ≤ 60 → (∀ x ∈ acc, 97 ≤ x ∧ x ≤ 122) → Ev (fun k => redactorlaw17_ListPlain.l0 k c a1 acc (i : Int)) r := by
  intro f
  induction f with
  | zero =>
    intro i acc h1 h2 h3 h4
    refine Ev_succ ?_
    simp only [redactorlaw17_ListPlain.l0]
    exact Ev_no (by omega) (hr acc (by omega) h4)
  | succ f ih =>
    intro i acc h1 h2 h3 h4
    refine Ev_succ ?_
    simp only [redactorlaw17_ListPlain.l0]
    by_cases hi : i < c.length
    · refine Ev_yes (by omega) ?_
      by_cases h60 : (i : Int) < 60
      · have hx := hc _ (List.getElem_mem hi)
        rw [rd_at c i hi, Int.tmod_eq_emod_of_nonneg hx.1, w64 (by omega) (by omega)]
        refine Ev_yes h60 (Ev_yes (by omega) (Ev_yes (by omega) (ih (i + 1) _ (by omega) (by simp; omega) (by omega) ?_)))
        intro x hx2
        rw [List.mem_append, List.mem_singleton] at hx2
        rcases hx2 with hx2 | rfl
        · exact h4 x hx2
        · omega
      · exact Ev_no h60 (hr acc (by omega) h4)
    · exact Ev_no (by omega) (hr acc (by omega) h4)
theorem ListPlain : redactorlaw17_ListPlain.Pure := by
  intro l0 a1 _ n0 h0 h1
  simp only [Lit.wf, Bool.and_eq_true, decide_eq_true_eq, show IntKind.u8.min = 0 from rfl, show IntKind.u8.max = 255 from rfl] at h1
  refine Ev.rounds ?_
  unfold redactorlaw17_ListPlain.f
  refine letters_ev l0 (bytes_of h0) (by omega) a1 true ?_ l0.length 0 [] (by omega) rfl (by omega) (by simp)
  intro l hl hc
  refine Ev_succ ?_
  simp only [redactorlaw17_ListPlain.j1]
  have hm := Int.emod_nonneg a1 (show (30 : Int) ≠ 0 by decide)
  have hm2 := Int.emod_lt_of_pos a1 (show (0 : Int) < 30 by decide)
  rw [Int.tmod_eq_emod_of_nonneg h1.1, w64 (n := a1 % 30) (by omega) (by omega), w64 (n := 2 + a1 % 30) (by omega) (by omega)]
  obtain ⟨W, hW⟩ : ∃ W : Nat, 2 + a1 % 30 = (W : Int) + 1 := ⟨(1 + a1 % 30).toNat, by omega⟩
  rw [hW]
  exact plain_ev W (by omega) (by omega) l hl hc l.length 0 (by omega) (Nat.zero_le _)
end Go.Proofs.YtcppmghhijffpaaDoor.Pure
