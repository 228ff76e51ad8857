/- Cells of a text are all cells, no more than it has bytes; a text behind a letter begins anew: for every input. -/
import Derived.Test.YtcppmghhijffpaaDoorOfTie
import Derived.Test.YtcppmghhijffpaaDoorUtfTieS
import Derived.Test.YtcppmghhijffpaaDoorCellBase
import Derived.Test.YtcppmghhijffpaaDoorX27
namespace Go.Proofs.YtcppmghhijffpaaDoor.Pure
open Go.RowKit Go.Proofs.YtcppmghhijffpaaDoor.X Go.Proofs.YtcppmghhijffpaaDoorW.PrintWords Go.Proofs.YtcppmghhijffpaaDoorW.PrintMore Go.Proofs.YtcppmghhijffpaaDoor.Tie
theorem all_right (s t : ByteArray) (a b : List Int) (r : Bool) (l : List Int) (hl : l.length < 9223372036854775807) (hc : ∀ c ∈ l, isCell c = true)
    (he : Ev (fun k => redactorlaw01_CellAll.l0 k s t a b l (l.length : Int)) r) : ∀ (f i : Nat), i ≤ l.length → l.length ≤ i + f → Ev (fun k => redactorlaw01_CellAll.l0 k s t a b l (i : Int)) r := by
  intro f
  induction f with
  | zero =>
    intro i h1 h2
    rw [show i = l.length from by omega]
    exact he
  | succ f ih =>
    intro i h1 h2
    by_cases hi : i < l.length
    · refine Ev_succ ?_
      simp only [redactorlaw01_CellAll.l0]
      refine Ev_yes (by omega) (Ev_yes (by omega) (Ev_let (cRight _) (Ev_yes ?_ ?_)))
      · rw [rd_at l i hi]
        exact hc _ (List.getElem_mem hi)
      · rw [w64 (by omega) (by omega)]
        exact ih (i + 1) (by omega) (by omega)
    · rw [show i = l.length from by omega]
      exact he
theorem CellAll : redactorlaw01_CellAll.Pure := by
  intro a0 a1 h0 h1
  refine Ev.rounds ?_
  have yes : Ev (fun k => redactorlaw01_CellAll.j0 k a0 a1 true) true := by
    refine Ev_succ ?_
    simp only [redactorlaw01_CellAll.j0]
    exact Ev_yes (by trivial) (Ev.bind known_ev (Ev_done rfl))
  unfold redactorlaw01_CellAll.f
  by_cases hs : wrap64 ((a0.size : Int) + (a1.size : Int)) > 300
  · exact Ev_yes hs yes
  rw [w64 (by omega) (by omega)] at hs ⊢
  refine Ev_no hs (Ev.bind known_ev ?_)
  refine Ev_succ ?_
  simp only [redactorlaw01_CellAll.j0]
  have z1 : (⟨#[120]⟩ : ByteArray).size = 1 := rfl
  have hA : (a0 ++ (⟨#[120]⟩ : ByteArray)).size = a0.size + 1 := by rw [ByteArray.size_append, z1]
  have hx : gb (a0 ++ (⟨#[120]⟩ : ByteArray)) ((a0 ++ (⟨#[120]⟩ : ByteArray)).size - 1) < 128 := by
    rw [hA, show a0.size + 1 - 1 = a0.size + 0 from by omega, gb_back]
    decide
  have happ := ofAll_app (a0 ++ (⟨#[120]⟩ : ByteArray)) a1 hx
  have la := ofAll_length (a0 ++ (⟨#[120]⟩ : ByteArray))
  have lb := ofAll_length a1
  have lc := ofAll_length (a0 ++ (⟨#[120]⟩ : ByteArray) ++ a1)
  have hB : (a0 ++ (⟨#[120]⟩ : ByteArray) ++ a1).size = a0.size + 1 + a1.size := by rw [ByteArray.size_append, hA]
  refine Ev_no (by simp) (Ev_yes (by omega) (Ev_let (cOf _ (by omega)) (Ev_let (cOf _ (by omega)) (Ev_yes (by omega) (Ev_let (cOf _ (by omega)) ?_)))))
  refine all_right a0 a1 _ _ true _ (by omega) (ofAll_cells _) (Ev_succ ?_) (ofAll (a0 ++ (⟨#[120]⟩ : ByteArray) ++ a1)).length 0 (by omega) (by omega)
  simp only [redactorlaw01_CellAll.l0]
  refine Ev_no (by omega) (Ev_yes (by simp only [List.length_nil]; omega) (Ev_let rfl (Ev_yes (by simp only [List.nil_append]; omega) (Ev_yes ?_ (Ev.bind (same_ev _ _ (by omega)) (Ev_done ?_))))))
  · rw [w64 (n := (a0.size : Int) + 1) (by omega) (by omega), w64 (by omega) (by omega)]
    omega
  · exact decide_eq_true (by rw [List.nil_append]; exact happ)
end Go.Proofs.YtcppmghhijffpaaDoor.Pure
