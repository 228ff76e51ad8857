/- Where cells are found they stand; ahead of it they do not: for every input. -/
import Derived.Test.YtcppmghhijffpaaDoorFindTie
import Derived.Test.YtcppmghhijffpaaDoorX28
namespace Go.Proofs.YtcppmghhijffpaaDoor.Pure
open Go.RowKit Go.Proofs.YtcppmghhijffpaaDoor.X Go.Proofs.YtcppmghhijffpaaDoorW.PrintWords Go.Proofs.YtcppmghhijffpaaDoorW.PrintMore Go.Proofs.YtcppmghhijffpaaDoor.Tie
theorem place_in (l m : List Int) (i : Nat) (k0 : Int) (hl : l.length < 4611686018427387904) : ∀ (t q p u : List Int) (b : Bool),
    l = p ++ u → m = q ++ t → p.length = i + q.length → t.length ≤ u.length → (b = true ∧ u.take t.length = t → k0 = (i : Int)) →
    (¬ (b = true ∧ u.take t.length = t) → Ev (fun k => redactorlaw01_CellPlace.l0 k l m k0 (wrap64 ((i : Int) + 1))) true) →
    Ev (fun k => redactorlaw01_CellPlace.l1 k l m k0 (i : Int) b (q.length : Int)) true := by
  intro t
  induction t with
  | nil =>
    intro q p u b h1 h2 h3 h4 hy hn
    refine Ev_succ ?_
    simp only [redactorlaw01_CellPlace.l1]
    have : m.length = q.length := by rw [h2]; simp
    refine Ev_no (by omega) ?_
    by_cases hb : b = true
    · refine Ev_yes hb (Ev.bind known_ev (Ev_yes rfl (Ev_done ?_)))
      exact beq_iff_eq.mpr (hy ⟨hb, by simp⟩)
    · exact Ev_no hb (hn (fun e => hb e.1))
  | cons a t ih =>
    intro q p u b h1 h2 h3 h4 hy hn
    cases u with
    | nil => simp at h4
    | cons c u =>
      have hm : m.length = q.length + t.length + 1 := by rw [h2]; simp; omega
      have hll : l.length = p.length + u.length + 1 := by rw [h1]; simp; omega
      simp only [List.length_cons] at h4
      refine Ev_succ ?_
      simp only [redactorlaw01_CellPlace.l1]
      rw [w64 (n := (i : Int) + (q.length : Int)) (by omega) (by omega), show (i : Int) + (q.length : Int) = (p.length : Int) from by omega, w64 (n := (q.length : Int) + 1) (by omega) (by omega)]
      rw [show rd l (p.length : Int) = c from by rw [h1, rd_mid], show rd m (q.length : Int) = a from by rw [h2, rd_mid]]
      have hcons : (c :: u).take (a :: t).length = c :: u.take t.length := rfl
      rw [hcons] at hy hn
      refine Ev_yes (by omega) ?_
      have step := fun b' => ih (q ++ [a]) (p ++ [c]) u b' (by rw [h1]; simp) (by rw [h2]; simp) (by simp; omega) (by omega)
      have eq1 : (((q ++ [a]).length : Nat) : Int) = (q.length : Int) + 1 := by simp
      rw [eq1] at step
      by_cases hb : b = true
      · refine Ev_yes hb (Ev_yes (by omega) (Ev_yes (by omega) (Ev_yes (by omega) (step _ ?_ ?_))))
        · rintro ⟨e1, e2⟩
          exact hy ⟨hb, by rw [e2, eq_of_beq e1]⟩
        · intro e
          refine hn ?_
          rintro ⟨_, e2⟩
          have := List.cons.inj e2
          exact e ⟨beq_iff_eq.mpr this.1, this.2⟩
      · refine Ev_no hb (step _ ?_ ?_)
        · rintro ⟨e1, _⟩
          cases e1
        · intro _
          exact hn (fun e => hb e.1)
theorem place_ev (l m : List Int) (k0 : Int) (hl : l.length < 1000000) (hm : m.length < 1000000) : ∀ (f i : Nat), i < 2000000 → l.length + 1 ≤ i + f → k0 = findN l m f i →
    Ev (fun k => redactorlaw01_CellPlace.l0 k l m k0 (i : Int)) true := by
  intro f
  induction f with
  | zero =>
    intro i hi h hk
    refine Ev_succ ?_
    simp only [redactorlaw01_CellPlace.l0]
    rw [w64 (n := (i : Int) + (m.length : Int)) (by omega) (by omega)]
    exact Ev_no (by omega) (Ev.bind known_ev (Ev_yes rfl (Ev_done (by rw [hk]; rfl))))
  | succ f ih =>
    intro i hi h hk
    refine Ev_succ ?_
    simp only [redactorlaw01_CellPlace.l0]
    rw [w64 (n := (i : Int) + (m.length : Int)) (by omega) (by omega)]
    rw [findN] at hk
    by_cases hin : i + m.length ≤ l.length
    · rw [if_pos hin] at hk
      refine Ev_yes (by omega) ?_
      refine place_in l m i k0 (by omega) m [] (l.take i) (l.drop i) true (by simp) (by simp) (by simp; omega) (by simp; omega) ?_ ?_
      · rintro ⟨_, e⟩
        rw [hk, if_pos e]
      · intro e
        rw [if_neg (fun e2 => e ⟨rfl, e2⟩)] at hk
        rw [w64 (by omega) (by omega)]
        exact ih (i + 1) (by omega) (by omega) hk
    · rw [if_neg hin] at hk
      exact Ev_no (by omega) (Ev.bind known_ev (Ev_yes rfl (Ev_done (by rw [hk]; rfl))))
theorem CellPlace : redactorlaw01_CellPlace.Pure := by
  intro l0 l1 a2 _ n0 h0 _ n1 h1 h2
  simp only [Lit.wf, Bool.and_eq_true, decide_eq_true_eq, show IntKind.u8.min = 0 from rfl, show IntKind.u8.max = 255 from rfl] at h2
  refine Ev.rounds ?_
  have e0 := cellsOf_length l0
  have e1 := cellsOf_length l1
  unfold redactorlaw01_CellPlace.f
  refine Ev.bind (cells_ev l0 (bytes_of h0) (by omega)) (Ev.bind (cells_ev l1 (bytes_of h1) (by omega)) ?_)
  generalize cellsOf l0 = x at e0 ⊢
  generalize cellsOf l1 = y at e1 ⊢
  have hmn : mn (y.length : Int) 3 = ((min y.length 3 : Nat) : Int) := by
    unfold mn
    split <;> omega
  rw [hmn]
  have hat := Int.emod_nonneg a2 (show (8 : Int) ≠ 0 by decide)
  have hat2 := Int.emod_lt_of_pos a2 (show (0 : Int) < 8 by decide)
  rw [Int.tmod_eq_emod_of_nonneg h2.1, w64 (n := a2 % 8) (by omega) (by omega)]
  obtain ⟨i, hi⟩ : ∃ i : Nat, a2 % 8 = (i : Int) := ⟨(a2 % 8).toNat, by omega⟩
  rw [hi]
  refine Ev_yes (by omega) (Ev_yes (by omega) (Ev_let rfl ?_))
  have hy : (y.take (((min y.length 3 : Nat) : Int)).toNat).length ≤ 60 := by rw [List.length_take]; omega
  generalize y.take (((min y.length 3 : Nat) : Int)).toNat = z at hy ⊢
  have hf : Ev (fun k => cell_Find.f k x z (i : Int)) (findN x z (x.length + 1) i) := by
    unfold cell_Find.f
    rw [show mx (i : Int) 0 = (i : Int) from by unfold mx; split <;> omega]
    exact cfind_ev0 x z (by omega) (by omega) _ i (by omega)
  exact Ev.bind hf (place_ev x z _ (by omega) (by omega) (x.length + 1) i (by omega) (by omega) rfl)
end Go.Proofs.YtcppmghhijffpaaDoor.Pure
