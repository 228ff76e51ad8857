/- Without the folds it is what it is unfolded; no line is too wide: for every input. -/
import Derived.Test.YtcppmghhijffpaaDoorListTie
import Derived.Test.YtcppmghhijffpaaDoorX12
namespace Go.Proofs.YtcppmghhijffpaaDoor.Pure
open Go.RowKit Go.Proofs.YtcppmghhijffpaaDoor.X Go.Proofs.YtcppmghhijffpaaDoorW.PrintWords Go.Proofs.YtcppmghhijffpaaDoorW.PrintMore Go.Proofs.YtcppmghhijffpaaDoor.Tie
/-- The signs with the folds, from a place in a line on. -/
def toks (wide : Int) : Int → List (List Int) → List Int
  | _, [] => []
  | long, s :: ss => if 2 ≤ wide ∧ 0 < long ∧ wide ≤ long + s.length then [92, 10] ++ (s ++ toks wide s.length ss) else s ++ toks wide (long + s.length) ss
theorem fold_toks (wide : Int) : ∀ (ss : List (List Int)) (st : List Int × Int), (ss.foldl (Show.fold1 wide) st).1 = st.1 ++ toks wide st.2 ss := by
  intro ss
  induction ss with
  | nil => intro st; simp [toks]
  | cons s ss ih =>
    intro st
    rw [List.foldl_cons, ih]
    unfold Show.fold1
    rw [toks]
    split <;> simp
theorem toks_head (wide : Int) : ∀ (ss : List (List Int)) (long : Int), (∀ s ∈ ss, 1 ≤ s.length ∧ ∀ x ∈ s, x ≠ 10) → (toks wide long ss).head? ≠ some 10 := by
  intro ss long h
  cases ss with
  | nil => simp [toks]
  | cons s ss =>
    have hs := h s (by simp)
    rw [toks]
    split
    · simp
    · cases s with
      | nil => simp at hs
      | cons a s =>
        have := hs.2 a (by simp)
        simpa using this
theorem step_fold (x : List Int) (wide : Int) (l acc p t : List Int) (long : Int) (r : Bool) (hl : l = p ++ 92 :: 10 :: t) (hn : l.length < 1000000000)
    (h : Ev (fun k => redactorlaw17_ListFolds.l0 k x wide l acc 0 ((p ++ [92, 10]).length : Int)) r) : Ev (fun k => redactorlaw17_ListFolds.l0 k x wide l acc long (p.length : Int)) r := by
  have hlen : l.length = p.length + t.length + 2 := by rw [hl]; simp; omega
  have r0 : rd l (p.length : Int) = 92 := by rw [hl, rd_mid]
  have r1 : rd l ((p.length : Int) + 1) = 10 := by
    have := rd_mid (p ++ [92]) 10 t
    rw [List.append_assoc, show [92] ++ 10 :: t = 92 :: 10 :: t from rfl, ← hl] at this
    simpa using this
  have e1 : ((p ++ [92, 10]).length : Int) = (p.length : Int) + 1 + 1 := by simp; omega
  refine Ev_succ ?_
  simp only [redactorlaw17_ListFolds.l0]
  rw [w64 (n := (p.length : Int) + 1) (by omega) (by omega), r0, r1]
  refine Ev_yes (by omega) (Ev_yes (by omega) (Ev_yes (by trivial) (Ev_yes (by omega) (Ev_yes (by omega) (Ev_succ ?_)))))
  simp only [redactorlaw17_ListFolds.j1]
  rw [w64 (n := (p.length : Int) + 1) (by omega) (by omega), w64 (n := (p.length : Int) + 1 + 1) (by omega) (by omega), ← e1]
  exact Ev_yes (by simp) h
theorem step_one (x : List Int) (wide : Int) (l acc p t : List Int) (a long : Int) (r : Bool) (hl : l = p ++ a :: t) (hn : l.length < 1000000000) (ha : ¬ (a = 92 ∧ t.head? = some 10)) (hacc : acc.length ≤ p.length) (h0 : 0 ≤ long) (hw : long + 1 ≤ wide - 1) (hw2 : wide < 1000)
    (h : Ev (fun k => redactorlaw17_ListFolds.l0 k x wide l (acc ++ [a]) (long + 1) ((p ++ [a]).length : Int)) r) : Ev (fun k => redactorlaw17_ListFolds.l0 k x wide l acc long (p.length : Int)) r := by
  have hlen : l.length = p.length + t.length + 1 := by rw [hl]; simp; omega
  have r0 : rd l (p.length : Int) = a := by rw [hl, rd_mid]
  have e1 : ((p ++ [a]).length : Int) = (p.length : Int) + 1 := by simp
  have hj : Ev (fun k => redactorlaw17_ListFolds.j1 k x wide l acc long (p.length : Int) false) r := by
    refine Ev_succ ?_
    simp only [redactorlaw17_ListFolds.j1]
    rw [w64 (n := long + 1) (by omega) (by omega), w64 (n := wide - 1) (by omega) (by omega), w64 (n := (p.length : Int) + 1) (by omega) (by omega), r0, ← e1]
    exact Ev_no (by simp) (Ev_yes (by omega) (Ev_yes (by omega) (Ev_yes (by omega) (Ev_no (by omega) h))))
  refine Ev_succ ?_
  simp only [redactorlaw17_ListFolds.l0]
  rw [w64 (n := (p.length : Int) + 1) (by omega) (by omega), r0]
  refine Ev_yes (by omega) (Ev_yes (by omega) ?_)
  by_cases h92 : a = 92
  · refine Ev_yes h92 ?_
    cases t with
    | nil => exact Ev_no (by simp at hlen; omega) hj
    | cons b t =>
      have r1 : rd l ((p.length : Int) + 1) = b := by
        have := rd_mid (p ++ [a]) b t
        rw [List.append_assoc, show [a] ++ b :: t = a :: b :: t from rfl, ← hl] at this
        simpa using this
      have hb : (b == 10) = false := beq_eq_false_iff_ne.mpr (fun e => ha ⟨h92, by rw [e]; rfl⟩)
      rw [r1, hb]
      simp only [List.length_cons] at hlen
      exact Ev_yes (by omega) (Ev_yes (by omega) hj)
  · exact Ev_no h92 hj
theorem step_sign (x : List Int) (wide : Int) (l : List Int) (hn : l.length < 1000000000) (hw2 : wide < 1000) (t : List Int) (ht : t.head? ≠ some 10) (r : Bool) : ∀ (s p acc : List Int) (long : Int), l = p ++ (s ++ t) → (∀ e ∈ s, e ≠ 10) → acc.length ≤ p.length → 0 ≤ long → long + s.length ≤ wide - 1 →
    Ev (fun k => redactorlaw17_ListFolds.l0 k x wide l (acc ++ s) (long + s.length) ((p ++ s).length : Int)) r → Ev (fun k => redactorlaw17_ListFolds.l0 k x wide l acc long (p.length : Int)) r := by
  intro s
  induction s with
  | nil =>
    intro p acc long _ _ _ _ _ h
    simpa using h
  | cons a s ih =>
    intro p acc long h1 h2 h3 h4 h5 h
    simp only [List.length_cons] at h5
    refine step_one x wide l acc p (s ++ t) a long r (by rw [h1]; rfl) hn ?_ h3 h4 (by omega) hw2 ?_
    · rintro ⟨_, e⟩
      cases s with
      | nil => exact ht (by simpa using e)
      | cons b s => exact h2 b (by simp) (by simpa using e)
    · refine ih (p ++ [a]) (acc ++ [a]) (long + 1) (by rw [h1]; simp) (fun e he => h2 e (by simp [he])) (by simp; omega) (by omega) (by omega) ?_
      rw [List.append_assoc, List.append_assoc, show long + 1 + (s.length : Int) = long + ((a :: s).length : Int) from by rw [List.length_cons]; omega]
      exact h
theorem folds_ev (x : List Int) (wide : Int) (l : List Int) (hn : l.length < 1000000000) (hw1 : 12 ≤ wide) (hw2 : wide < 1000) (all : List Int) (r : Bool) (hend : ∀ lg, Ev (fun k => redactorlaw17_ListFolds.l0 k x wide l all lg (l.length : Int)) r) : ∀ (ss : List (List Int)) (p acc : List Int) (long : Int),
    (∀ s ∈ ss, (1 ≤ s.length ∧ s.length ≤ 4) ∧ ∀ e ∈ s, e ≠ 10) → l = p ++ toks wide long ss → acc.length ≤ p.length → 0 ≤ long → long ≤ wide - 1 → acc ++ ss.flatten = all → Ev (fun k => redactorlaw17_ListFolds.l0 k x wide l acc long (p.length : Int)) r := by
  intro ss
  induction ss with
  | nil =>
    intro p acc long _ h2 _ _ _ h6
    have e1 : l = p := by rw [h2, toks, List.append_nil]
    have e2 : all = acc := by rw [← h6]; simp
    have := hend long
    rw [e2, e1] at this
    rw [e1]
    exact this
  | cons s ss ih =>
    intro p acc long h1 h2 h3 h4 h5 h6
    have hs := h1 s (by simp)
    have hss := fun q hq => h1 q (List.mem_cons_of_mem s hq)
    rw [List.flatten_cons, ← List.append_assoc] at h6
    rw [toks] at h2
    by_cases hc : 2 ≤ wide ∧ 0 < long ∧ wide ≤ long + s.length
    · rw [if_pos hc] at h2
      refine step_fold x wide l acc p (s ++ toks wide s.length ss) long r h2 hn ?_
      refine step_sign x wide l hn hw2 (toks wide s.length ss) (toks_head wide ss _ (fun q hq => ⟨(hss q hq).1.1, (hss q hq).2⟩)) r s (p ++ [92, 10]) acc 0 (by rw [h2]; simp) hs.2 (by simp; omega) (by omega) (by omega) ?_
      rw [Int.zero_add]
      exact ih (p ++ [92, 10] ++ s) (acc ++ s) (s.length : Int) hss (by rw [h2]; simp) (by simp; omega) (by omega) (by omega) h6
    · rw [if_neg hc] at h2
      refine step_sign x wide l hn hw2 (toks wide (long + s.length) ss) (toks_head wide ss _ (fun q hq => ⟨(hss q hq).1.1, (hss q hq).2⟩)) r s p acc long h2 hs.2 h3 h4 (by omega) ?_
      exact ih (p ++ s) (acc ++ s) (long + s.length) hss (by rw [h2]; simp) (by simp; omega) (by omega) (by omega) h6
theorem flat_len : ∀ l : List Int, (l.flatMap sgn).length ≤ 4 * l.length := by
  intro l
  induction l with
  | nil => simp
  | cons c l ih =>
    have := sgn_len c
    rw [List.flatMap_cons, List.length_append, List.length_cons]
    omega
theorem ListFolds : redactorlaw17_ListFolds.Pure := by
  intro l0 a1 _ n0 h0 h1
  simp only [Lit.wf, Bool.and_eq_true, decide_eq_true_eq, show IntKind.u8.min = 0 from rfl, show IntKind.u8.max = 255 from rfl] at h1
  refine Ev.rounds ?_
  have e0 := cellsOf_length l0
  have i0 := cellsOf_is l0 (bytes_of h0)
  have w0 : ∀ c ∈ cellsOf l0, -2147483648 ≤ c ∧ c < 2147483648 := fun c hc => by
    have := cell_in (i0 c hc)
    omega
  unfold redactorlaw17_ListFolds.f
  refine Ev.bind (cells_ev l0 (bytes_of h0) (by omega)) ?_
  generalize cellsOf l0 = x at e0 i0 w0 ⊢
  have hm := Int.emod_nonneg a1 (show (60 : Int) ≠ 0 by decide)
  have hm2 := Int.emod_lt_of_pos a1 (show (0 : Int) < 60 by decide)
  rw [Int.tmod_eq_emod_of_nonneg h1.1, w64 (n := a1 % 60) (by omega) (by omega), w64 (n := 12 + a1 % 60) (by omega) (by omega)]
  obtain ⟨wide, hw⟩ : ∃ wide, wide = 12 + a1 % 60 := ⟨_, rfl⟩
  rw [← hw]
  refine Ev.bind (show_ev x wide (by omega) w0) ?_
  have hst := stOf_in wide x
  have hlen : (showL wide x).length < 1000000000 := by
    rw [showL_st]
    unfold Show.fold1
    split
    · simp only [List.length_append, List.length_cons, List.length_nil]
      omega
    · simp only [List.length_append, List.length_cons, List.length_nil]
      omega
  have lx := flat_len x
  refine folds_ev x wide _ hlen (by omega) (by omega) (showL 0 x) true ?_ (x.map sgn ++ [[36]]) [] [] 0 ?_ ?_ (Nat.le_refl _) (Int.le_refl _) (by omega) ?_
  · intro lg
    refine Ev_succ ?_
    simp only [redactorlaw17_ListFolds.l0]
    have s0 := same_ev (showL 0 x) (showL 0 x) (by rw [showL_zero, List.length_append, List.length_cons, List.length_nil]; omega)
    rw [decide_eq_true rfl] at s0
    exact Ev_no (by omega) (Ev.bind known_ev (Ev_yes rfl (Ev.bind (show_ev x 0 (by omega) w0) (Ev.bind s0 (Ev_done rfl)))))
  · intro s hs
    rw [List.mem_append, List.mem_singleton] at hs
    rcases hs with hs | rfl
    · obtain ⟨c, _, rfl⟩ := List.mem_map.1 hs
      exact ⟨sgn_len c, fun e he => by have := sgn_seen c e he; omega⟩
    · exact ⟨⟨by decide, by decide⟩, fun e he => by rw [List.mem_singleton.1 he]; decide⟩
  · unfold showL
    rw [fold_toks]
  · rw [showL_zero, List.nil_append, List.flatten_append, List.flatMap_def]
    rfl
end Go.Proofs.YtcppmghhijffpaaDoor.Pure
