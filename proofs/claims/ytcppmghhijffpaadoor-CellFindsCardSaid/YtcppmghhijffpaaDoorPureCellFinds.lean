/- Find and Cut of any cells, at any places, are what the chapter says: for every input. -/
import Derived.Test.YtcppmghhijffpaaDoorFindTie
import Derived.Test.YtcppmghhijffpaaDoorX25
namespace Go.Proofs.YtcppmghhijffpaaDoor.Pure
open Go.RowKit Go.Proofs.YtcppmghhijffpaaDoor.X Go.Proofs.YtcppmghhijffpaaDoorW.PrintWords Go.Proofs.YtcppmghhijffpaaDoorW.PrintMore Go.Proofs.YtcppmghhijffpaaDoor.Tie
theorem CellFinds : redactorlaw01_CellFinds.Pure := by
  intro l0 l1 a2 a3 l4 a5 a6 _ n0 h0 _ n1 h1 _ _ _ n4 h4 h5 h6
  simp only [Lit.wf, Bool.and_eq_true, decide_eq_true_eq, show IntKind.u8.min = 0 from rfl, show IntKind.u8.max = 255 from rfl] at h5 h6
  refine Ev.rounds ?_
  have yes : Ev (fun k => redactorlaw01_CellFinds.j0 k l0 l1 a2 a3 l4 a5 a6 true) true := by
    refine Ev_succ ?_
    simp only [redactorlaw01_CellFinds.j0]
    exact Ev_yes (by trivial) (Ev.bind known_ev (Ev_done rfl))
  unfold redactorlaw01_CellFinds.f
  by_cases hs : wrap64 ((l0.length : Int) + (l1.length : Int)) > 200
  · exact Ev_yes hs yes
  refine Ev_no hs (Ev.bind known_ev ?_)
  rw [w64 (by omega) (by omega)] at hs
  refine Ev_succ ?_
  simp only [redactorlaw01_CellFinds.j0]
  have e4 := cellsOf_length l4
  refine Ev_no (by simp) (Ev.bind (cells_ev l4 (bytes_of h4) (by omega)) ?_)
  generalize cellsOf l4 = x at e4 ⊢
  have hb1 := Int.emod_nonneg a5 (show (x.length : Int) + 1 ≠ 0 by omega)
  have hb2 := Int.emod_lt_of_pos a5 (show (0 : Int) < (x.length : Int) + 1 by omega)
  rw [w64 (n := a5) (by omega) (by omega), w64 (n := (x.length : Int) + 1) (by omega) (by omega), Int.tmod_eq_emod_of_nonneg h5.1]
  generalize a5 % ((x.length : Int) + 1) = a at hb1 hb2 ⊢
  rw [w64 (n := (x.length : Int) - a) (by omega) (by omega), w64 (n := (x.length : Int) - a + 1) (by omega) (by omega)]
  generalize wrap64 (a + Int.tmod (wrap64 a6) ((x.length : Int) - a + 1)) = b
  refine Ev_no (by omega) (Ev_no (by omega) ?_)
  obtain ⟨p, e, cp, rp, hp, he⟩ := cut_both x a b (by omega)
  obtain ⟨u, g, cu, ru, hu, hg⟩ := cut_both l0 a2 a3 (by omega)
  obtain ⟨r1, f1, f2⟩ := find_both l0 l1 a2 (by omega) (by omega)
  obtain ⟨r2, f3, f4⟩ := find_both x p (wrap64 (wrap64 (Int.tmod a6 5) - 2)) (by omega) (by omega)
  have sp : Ev (fun k => redactorref01_Same.f k p p) true := by
    have := same_ev p p (by omega)
    rwa [decide_eq_true rfl] at this
  have su : Ev (fun k => redactorref01_Same.f k u u) true := by
    have := same_ev u u (by omega)
    rwa [decide_eq_true rfl] at this
  refine Ev_let cp (Ev_let rp (Ev_let cu (Ev_let ru (Ev.bind f1 (Ev.bind f2 (Ev_yes rfl (Ev.bind f3 (Ev.bind f4 (Ev_yes rfl (Ev.bind sp (Ev_yes rfl (Ev_yes (w64 (by omega) (by omega)) (Ev.bind su (Ev_yes rfl (Ev_done ?_)))))))))))))))
  show (wrap64 g == g) = true
  rw [w64 (by omega) (by omega), beq_self_eq_true]
end Go.Proofs.YtcppmghhijffpaaDoor.Pure
