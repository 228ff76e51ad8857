/- Of any three cells' rows there is an order; what begins another one is not behind it: for every input. -/
import Derived.Test.YtcppmghhijffpaaDoorCellTie
import Derived.Test.YtcppmghhijffpaaDoorX14
namespace Go.Proofs.YtcppmghhijffpaaDoor.Pure
open Go.RowKit Go.Proofs.YtcppmghhijffpaaDoor.X Go.Proofs.YtcppmghhijffpaaDoorW.PrintWords Go.Proofs.YtcppmghhijffpaaDoor.Tie
theorem bytes_of {l : List Int} (h : ∀ x ∈ l, (Lit.int .u8 x).wf = true) : ∀ x ∈ l, 0 ≤ x ∧ x < 256 := by
  intro x hx
  have := h x hx
  simp only [Lit.wf, Bool.and_eq_true, decide_eq_true_eq, show IntKind.u8.min = 0 from rfl, show IntKind.u8.max = 255 from rfl] at this
  omega
theorem CellOrder : redactorlaw01_CellOrder.Pure := by
  intro l0 l1 l2 _ n0 h0 _ n1 h1 _ n2 h2
  refine Ev.rounds ?_
  have e0 := cellsOf_length l0
  have e1 := cellsOf_length l1
  have e2 := cellsOf_length l2
  have c0 := cells_ev l0 (bytes_of h0) (by omega)
  have c1 := cells_ev l1 (bytes_of h1) (by omega)
  have c2 := cells_ev l2 (bytes_of h2) (by omega)
  unfold redactorlaw01_CellOrder.f
  refine Ev.bind c0 (Ev.bind c1 (Ev.bind c2 ?_))
  generalize cellsOf l0 = x at e0
  generalize cellsOf l1 = y at e1
  generalize cellsOf l2 = z at e2
  refine Ev_yes (by simp; omega) (Ev_let rfl (Ev_yes (by simp; omega) (Ev_let rfl (Ev.bind known_ev (Ev_yes rfl ?_)))))
  simp only [List.nil_append]
  have hsw := cmp_swap x y
  have hxy := cmp_is x y
  have hyx := cmp_is y x
  refine Ev.bind (ccompare_ev x y (by omega)) (Ev.bind (ccompare_ev y x (by omega)) (Ev_yes (by rw [w64 (by omega) (by omega)]; exact hsw) ?_))
  have fin : Ev (fun k => (cell_Compare.f k x (x ++ y)).bind fun p => (if p ≤ 0 then ((cell_Compare.f k x y).bind fun q => ((redactorref01_Same.f k x y).bind fun r => (some ((q == 0) == r)))) else (some false))) true := by
    refine Ev.bind (ccompare_ev x (x ++ y) (by omega)) (Ev_yes (cmp_front x y) (Ev.bind (ccompare_ev x y (by omega)) (Ev.bind (same_ev x y (by omega)) (Ev_done ?_))))
    have hz := cmp_zero x y
    by_cases h : x = y
    · rw [decide_eq_true h, beq_iff_eq.mpr (hz.2 h)]
      rfl
    · rw [decide_eq_false h, beq_eq_false_iff_ne.mpr (fun e => h (hz.1 e))]
      rfl
  refine Ev.bind (ccompare_ev x y (by omega)) ?_
  by_cases k1 : cmp x y > 0
  · exact Ev_yes k1 fin
  · refine Ev_no k1 (Ev.bind (ccompare_ev y z (by omega)) ?_)
    by_cases k2 : cmp y z > 0
    · exact Ev_yes k2 fin
    · exact Ev_no k2 (Ev.bind (ccompare_ev x z (by omega)) (Ev_yes (cmp_trans x y z (by omega) (by omega)) fin))
end Go.Proofs.YtcppmghhijffpaaDoor.Pure
