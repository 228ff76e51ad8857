/- What is told may be seen, and ends with its sign; unlike cells are told otherwise: for every input. -/
import Derived.Test.YtcppmghhijffpaaDoorListTie
import Derived.Test.YtcppmghhijffpaaDoorX13
namespace Go.Proofs.YtcppmghhijffpaaDoor.Pure
open Go.RowKit Go.Proofs.YtcppmghhijffpaaDoor.X Go.Proofs.YtcppmghhijffpaaDoorW.PrintWords Go.Proofs.YtcppmghhijffpaaDoorW.PrintMore Go.Proofs.YtcppmghhijffpaaDoor.Tie
theorem low_few : few.all (fun c => (sgn c).all fun x => decide (x < 127)) = true := by kernel_rfl
theorem pre_few : few.all (fun c => few.all fun d => c == d || !((sgn c).isPrefixOf (sgn d))) = true := by kernel_rfl
theorem sgn_one (c : Int) (hc : isCell c = true) (h : 160 ≤ c) : sgn c = [c] := by rw [sgn_far c (by omega), if_pos hc]
theorem pre_free (c d : Int) (hc : isCell c = true) (hd : isCell d = true) (h : sgn c <+: sgn d) : c = d := by
  have rc := cell_in hc
  have rd := cell_in hd
  have low : ∀ e, -256 ≤ e → e < 160 → ∀ x ∈ sgn e, x < 127 := fun e h0 h1 x hx => by
    have := List.all_eq_true.1 (List.all_eq_true.1 low_few e (few_in e h0 h1)) x hx
    exact of_decide_eq_true this
  by_cases h1 : c < 160
  · by_cases h2 : d < 160
    · have := List.all_eq_true.1 (List.all_eq_true.1 pre_few c (few_in c rc.1 h1)) d (few_in d rd.1 h2)
      rw [List.isPrefixOf_iff_prefix.2 h] at this
      simpa using this
    · rw [sgn_one d hd (by omega)] at h
      have hl := sgn_len c
      obtain ⟨x, hx⟩ := List.exists_mem_of_length_pos (show 0 < (sgn c).length by omega)
      have := low c rc.1 h1 x hx
      have := List.mem_singleton.1 (h.subset hx)
      omega
  · rw [sgn_one c hc (by omega)] at h
    by_cases h2 : d < 160
    · have := low d rd.1 h2 c (h.subset (by simp))
      omega
    · rw [sgn_one d hd (by omega)] at h
      exact List.mem_singleton.1 (h.subset (by simp))
theorem flat_inj : ∀ (x y : List Int), (∀ c ∈ x, isCell c = true) → (∀ c ∈ y, isCell c = true) → x.flatMap sgn = y.flatMap sgn → x = y := by
  intro x
  induction x with
  | nil =>
    intro y _ _ h
    cases y with
    | nil => rfl
    | cons d y =>
      have hd := sgn_len d
      have := congrArg List.length h
      rw [List.flatMap_cons, List.length_append] at this
      simp only [List.flatMap_nil, List.length_nil] at this
      omega
  | cons c x ih =>
    intro y hx hy h
    cases y with
    | nil =>
      have hc := sgn_len c
      have := congrArg List.length h
      rw [List.flatMap_cons, List.length_append] at this
      simp only [List.flatMap_nil, List.length_nil] at this
      omega
    | cons d y =>
      rw [List.flatMap_cons, List.flatMap_cons] at h
      have hcd : c = d := by
        rcases List.prefix_or_prefix_of_prefix (List.prefix_append (sgn c) (x.flatMap sgn)) (h ▸ List.prefix_append (sgn d) (y.flatMap sgn)) with hp | hp
        · exact pre_free c d (hx c (by simp)) (hy d (by simp)) hp
        · exact (pre_free d c (hy d (by simp)) (hx c (by simp)) hp).symm
      subst hcd
      rw [ih y (fun e he => hx e (by simp [he])) (fun e he => hy e (by simp [he])) (List.append_cancel_left h)]
theorem seen_loop (x y l : List Int) (hl : l.length < 9223372036854775807) (hs : ∀ e ∈ l, 32 ≤ e ∧ (e < 127 ∨ 159 < e)) (r : Bool) (he : Ev (fun k => redactorlaw17_ListSeen.l0 k x y l (l.length : Int)) r) :
    ∀ (f i : Nat), l.length ≤ i + f → i ≤ l.length → Ev (fun k => redactorlaw17_ListSeen.l0 k x y l (i : Int)) r := by
  intro f
  induction f with
  | zero =>
    intro i h1 h2
    rw [show i = l.length from by omega]
    exact he
  | succ f ih =>
    intro i h1 h2
    by_cases hi : i < l.length
    · have := hs _ (List.getElem_mem hi)
      refine Ev_succ ?_
      simp only [redactorlaw17_ListSeen.l0]
      rw [rd_at l i hi, w64 (n := (i : Int) + 1) (by omega) (by omega)]
      have nx := ih (i + 1) (by omega) (by omega)
      refine Ev_yes (by omega) (Ev_yes (by omega) (Ev_no (by omega) ?_))
      by_cases h3 : l[i] ≥ 127
      · exact Ev_yes h3 (Ev_no (by omega) nx)
      · exact Ev_no h3 nx
    · rw [show i = l.length from by omega]
      exact he
theorem flat_len : ∀ l : List Int, (l.flatMap sgn).length ≤ 4 * l.length := by
  intro l
  induction l with
  | nil => simp
  | cons c l ih =>
    have := sgn_len c
    rw [List.flatMap_cons, List.length_append, List.length_cons]
    omega
theorem ListSeen : redactorlaw17_ListSeen.Pure := by
  intro l0 l1 _ n0 h0 _ n1 h1
  refine Ev.rounds ?_
  have e0 := cellsOf_length l0
  have e1 := cellsOf_length l1
  have i0 := cellsOf_is l0 (bytes_of h0)
  have i1 := cellsOf_is l1 (bytes_of h1)
  have w0 : ∀ c ∈ cellsOf l0, -2147483648 ≤ c ∧ c < 2147483648 := fun c hc => by
    have := cell_in (i0 c hc)
    omega
  have w1 : ∀ c ∈ cellsOf l1, -2147483648 ≤ c ∧ c < 2147483648 := fun c hc => by
    have := cell_in (i1 c hc)
    omega
  unfold redactorlaw17_ListSeen.f
  refine Ev.bind (cells_ev l0 (bytes_of h0) (by omega)) (Ev.bind (cells_ev l1 (bytes_of h1) (by omega)) ?_)
  generalize cellsOf l0 = x at e0 i0 w0 ⊢
  generalize cellsOf l1 = y at e1 i1 w1 ⊢
  have lx := flat_len x
  have ly := flat_len y
  have zx : (showL 0 x).length = (x.flatMap sgn).length + 1 := by rw [showL_zero, List.length_append]; rfl
  have zy : (showL 0 y).length = (y.flatMap sgn).length + 1 := by rw [showL_zero, List.length_append]; rfl
  refine Ev.bind (show_ev x 0 (by omega) w0) (Ev_no (by omega) ?_)
  have last : rd (showL 0 x) ((x.flatMap sgn).length : Int) = 36 := by rw [showL_zero]; exact rd_mid (x.flatMap sgn) 36 []
  rw [w64 (n := ((showL 0 x).length : Int) - 1) (by omega) (by omega), show ((showL 0 x).length : Int) - 1 = ((x.flatMap sgn).length : Int) from by omega, last]
  refine Ev_yes (by omega) (Ev_yes (by omega) (Ev_succ ?_))
  simp only [redactorlaw17_ListSeen.j0]
  refine Ev_no (by simp) ?_
  refine seen_loop x y _ (by omega) ?_ true (Ev_succ ?_) (showL 0 x).length 0 (by omega) (Nat.zero_le _)
  · intro e he
    rw [showL_zero, List.mem_append, List.mem_singleton] at he
    rcases he with he | rfl
    · obtain ⟨c, _, he⟩ := List.mem_flatMap.1 he
      exact sgn_seen c e he
    · omega
  · simp only [redactorlaw17_ListSeen.l0]
    refine Ev_no (by omega) (Ev.bind known_ev (Ev_yes rfl (Ev.bind (show_ev y 0 (by omega) w1) (Ev.bind (same_ev _ _ (by omega)) (Ev.bind (same_ev _ _ (by omega)) (Ev_done ?_))))))
    have : showL 0 x = showL 0 y ↔ x = y := by
      constructor
      · intro h
        rw [showL_zero, showL_zero] at h
        exact flat_inj x y i0 i1 (List.append_cancel_right h)
      · rintro rfl
        rfl
    simp [this]
end Go.Proofs.YtcppmghhijffpaaDoor.Pure
