/- Show of any cells, at any width, is what the chapter says: for every input. -/
import Derived.Test.YtcppmghhijffpaaDoorListTie
import Derived.Test.YtcppmghhijffpaaDoorX11
namespace Go.Proofs.YtcppmghhijffpaaDoor.Pure
open Go.RowKit Go.Proofs.YtcppmghhijffpaaDoor.X Go.Proofs.YtcppmghhijffpaaDoorW.PrintWords Go.Proofs.YtcppmghhijffpaaDoorW.PrintMore Go.Proofs.YtcppmghhijffpaaDoor.Tie
theorem rshow_chain (l : List Int) (wide : Int) (hw : -9223372036854775808 ≤ wide ∧ wide < 9223372036854775808) (out : List Int) (long : Int) (i : Nat) (s r : List Int) (hs : s.length ≤ 4) (h0 : 0 ≤ long) (h1 : long < 1000000000000) (h2 : out.length < 1000000000000)
    (hr : Ev (fun k => redactorref17_Show.l0 k l wide (Show.fold1 wide (out, long) s).1 (Show.fold1 wide (out, long) s).2 (wrap64 ((i : Int) + 1))) r) :
    Ev (fun k => (if wide ≥ 2 then (if long > 0 then (if (wrap64 (long + (s.length : Int))) > (wrap64 (wide - 1)) then ((some (([92, 10] : List Int) : List Int)).bind fun y222 => (if out.length + y222.length < 35184372088832 then ((some (out ++ y222 : List Int)).bind fun y225 => (if y225.length + s.length < 35184372088832 then (redactorref17_Show.l0 k l wide (y225 ++ s) (wrap64 (0 + (s.length : Int))) (wrap64 ((i : Int) + 1))) else (none))) else (none))) else (if out.length + s.length < 35184372088832 then (redactorref17_Show.l0 k l wide (out ++ s) (wrap64 (long + (s.length : Int))) (wrap64 ((i : Int) + 1))) else (none))) else (if out.length + s.length < 35184372088832 then (redactorref17_Show.l0 k l wide (out ++ s) (wrap64 (long + (s.length : Int))) (wrap64 ((i : Int) + 1))) else (none))) else (if out.length + s.length < 35184372088832 then (redactorref17_Show.l0 k l wide (out ++ s) (wrap64 (long + (s.length : Int))) (wrap64 ((i : Int) + 1))) else (none)))) r := by
  have hB : ¬ (2 ≤ wide ∧ 0 < long ∧ wide ≤ long + s.length) → Ev (fun k => (if out.length + s.length < 35184372088832 then (redactorref17_Show.l0 k l wide (out ++ s) (wrap64 (long + (s.length : Int))) (wrap64 ((i : Int) + 1))) else (none))) r := by
    intro hc
    rw [show Show.fold1 wide (out, long) s = (out ++ s, long + s.length) from if_neg hc] at hr
    refine Ev_yes (by omega) ?_
    rw [w64 (n := long + (s.length : Int)) (by omega) (by omega)]
    exact hr
  by_cases c1 : wide ≥ 2
  · refine Ev_yes c1 ?_
    by_cases c2 : long > 0
    · refine Ev_yes c2 ?_
      rw [w64 (n := wide - 1) (by omega) (by omega)]
      by_cases c3 : wrap64 (long + (s.length : Int)) > wide - 1
      · refine Ev_yes c3 ?_
        rw [w64 (n := long + (s.length : Int)) (by omega) (by omega)] at c3
        rw [show Show.fold1 wide (out, long) s = (out ++ [92, 10] ++ s, (s.length : Int)) from if_pos ⟨c1, c2, by omega⟩] at hr
        refine Ev_let rfl (Ev_yes (by simp only [List.length_cons, List.length_nil]; omega) (Ev_let rfl (Ev_yes (by simp only [List.length_append, List.length_cons, List.length_nil]; omega) ?_)))
        rw [Int.zero_add, w64 (n := (s.length : Int)) (by omega) (by omega)]
        exact hr
      · refine Ev_no c3 (hB ?_)
        rw [w64 (n := long + (s.length : Int)) (by omega) (by omega)] at c3
        omega
    · exact Ev_no c2 (hB (by omega))
  · exact Ev_no c1 (hB (by omega))
theorem rshow_ev0 (l : List Int) (wide : Int) (hw : -9223372036854775808 ≤ wide ∧ wide < 9223372036854775808) (hl : l.length < 1000000000) : ∀ (f i : Nat), l.length ≤ i + f → i ≤ l.length →
    Ev (fun k => redactorref17_Show.l0 k l wide (stOf wide (l.take i)).1 (stOf wide (l.take i)).2 (i : Int)) (showL wide l) := by
  intro f
  induction f with
  | zero =>
    intro i h1 h2
    have hi : i = l.length := by omega
    have hin := stOf_in wide (l.take i)
    have hlen : (l.take i).length ≤ l.length := by rw [List.length_take]; omega
    have hst : stOf wide (l.take i) = stOf wide l := by rw [hi, List.take_length]
    refine Ev_succ ?_
    simp only [redactorref17_Show.l0]
    refine Ev_yes (by omega) (Ev_let rfl (Ev_no (by omega) ?_))
    refine rshow_chain l wide hw _ _ i [36] _ (by decide) hin.2.1 (by omega) (by omega) ?_
    refine Ev_succ ?_
    simp only [redactorref17_Show.l0]
    rw [w64 (n := (i : Int) + 1) (by omega) (by omega)]
    refine Ev_no (by omega) (Ev_done ?_)
    rw [showL_st, ← hst]
  | succ f ih =>
    intro i h1 h2
    by_cases hi : i < l.length
    · have hin := stOf_in wide (l.take i)
      have hlen : (l.take i).length ≤ l.length := by rw [List.length_take]; omega
      have hsn : stOf wide (l.take (i + 1)) = Show.fold1 wide (stOf wide (l.take i)) (sgn l[i]) := by
        rw [List.take_add_one, List.getElem?_eq_getElem hi]
        exact stOf_snoc wide (l.take i) l[i]
      refine Ev_succ ?_
      simp only [redactorref17_Show.l0]
      refine Ev_yes (by omega) (Ev_let rfl (Ev_yes (by omega) (Ev_yes (by omega) ?_)))
      rw [rd_at l i hi]
      refine Ev.bind (rsign_ev l[i]) ?_
      refine rshow_chain l wide hw _ _ i (sgn l[i]) _ (sgn_len _).2 hin.2.1 (by omega) (by omega) ?_
      have := ih (i + 1) (by omega) (by omega)
      rw [hsn] at this
      rw [w64 (n := (i : Int) + 1) (by omega) (by omega)]
      exact this
    · exact ih i (by omega) h2
theorem rshow_ev (l : List Int) (wide : Int) (hw : -9223372036854775808 ≤ wide ∧ wide < 9223372036854775808) (hl : l.length < 1000000000) : Ev (fun k => redactorref17_Show.f k l wide) (showL wide l) := by
  unfold redactorref17_Show.f
  exact rshow_ev0 l wide hw hl l.length 0 (by omega) (Nat.zero_le _)
theorem ListShows : redactorlaw17_ListShows.Pure := by
  intro l0 a1 l2 a3 _ n0 h0 h1 _ n2 h2 h3
  simp only [Lit.wf, Bool.and_eq_true, decide_eq_true_eq, show IntKind.u8.min = 0 from rfl, show IntKind.u8.max = 255 from rfl, show IntKind.i64.min = -9223372036854775808 from rfl, show IntKind.i64.max = 9223372036854775807 from rfl] at h1 h3
  refine Ev.rounds ?_
  have yes : Ev (fun k => redactorlaw17_ListShows.j0 k l0 a1 l2 a3 true) true := by
    refine Ev_succ ?_
    simp only [redactorlaw17_ListShows.j0]
    exact Ev_yes (by trivial) (Ev.bind known_ev (Ev_done rfl))
  unfold redactorlaw17_ListShows.f
  by_cases hs : (l0.length : Int) > 200
  · exact Ev_yes hs yes
  refine Ev_no hs (Ev.bind known_ev (Ev_succ ?_))
  simp only [redactorlaw17_ListShows.j0]
  have e2 := cellsOf_length l2
  have w2 : ∀ c ∈ cellsOf l2, -2147483648 ≤ c ∧ c < 2147483648 := fun c hc => by
    have := cell_in (cellsOf_is l2 (bytes_of h2) c hc)
    omega
  have ht : 0 ≤ Int.tmod a3 20 ∧ Int.tmod a3 20 < 20 := by
    rw [Int.tmod_eq_emod_of_nonneg (by omega)]
    omega
  have same := fun (l : List Int) (w : Int) (h1 : l.length ≤ 200) => same_ev (showL w l) (showL w l) (by
    have := stOf_in w l
    rw [showL_st]
    unfold Show.fold1
    split
    · simp only [List.length_append, List.length_cons, List.length_nil]
      omega
    · simp only [List.length_append, List.length_cons, List.length_nil]
      omega)
  have s1 := same l0 a1 (by omega)
  have s2 := same (cellsOf l2) (wrap64 (Int.tmod a3 20)) (by omega)
  rw [decide_eq_true rfl] at s1 s2
  have hw : -9223372036854775808 ≤ wrap64 (Int.tmod a3 20) ∧ wrap64 (Int.tmod a3 20) < 9223372036854775808 := by
    rw [w64 (by omega) (by omega)]
    omega
  refine Ev_no (by simp) (Ev.bind (cells_ev l2 (bytes_of h2) (by omega)) ?_)
  refine Ev.bind (show_ev l0 a1 (by omega) (words_of h0)) (Ev.bind (rshow_ev l0 a1 (by omega) (by omega)) (Ev.bind s1 (Ev_yes rfl ?_)))
  exact Ev.bind (show_ev _ _ (by omega) w2) (Ev.bind (rshow_ev _ _ hw (by omega)) (Ev.bind s2 (Ev_done rfl)))
end Go.Proofs.YtcppmghhijffpaaDoor.Pure
