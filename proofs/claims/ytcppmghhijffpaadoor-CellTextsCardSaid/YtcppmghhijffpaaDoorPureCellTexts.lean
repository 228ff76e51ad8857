/- Text and Compare of any cells are what the chapter says: for every input. -/
import Derived.Test.YtcppmghhijffpaaDoorTextTie
import Derived.Test.YtcppmghhijffpaaDoorCellTie
import Derived.Test.YtcppmghhijffpaaDoorUtfTieC
import Derived.KernelRfl
import Derived.Test.YtcppmghhijffpaaDoorX23
namespace Go.Proofs.YtcppmghhijffpaaDoor.Pure
open Go.RowKit Go.Proofs.YtcppmghhijffpaaDoor.X Go.Proofs.YtcppmghhijffpaaDoorW.PrintWords Go.Proofs.YtcppmghhijffpaaDoorW.PrintMore Go.Proofs.YtcppmghhijffpaaDoor.Tie
theorem bytes_of {l : List Int} (h : ∀ x ∈ l, (Lit.int .u8 x).wf = true) : ∀ x ∈ l, 0 ≤ x ∧ x < 256 := by
  intro x hx
  have := h x hx
  simp only [Lit.wf, Bool.and_eq_true, decide_eq_true_eq, show IntKind.u8.min = 0 from rfl, show IntKind.u8.max = 255 from rfl] at this
  omega
theorem cellOf_all : (List.range 256).all (fun k => isCell (cellOf (k : Int))) = true := by kernel_rfl
theorem cellOf_is (k : Int) (h0 : 0 ≤ k) (h1 : k < 256) : isCell (cellOf k) = true := by
  have := List.all_eq_true.1 cellOf_all k.toNat (List.mem_range.2 (by omega))
  rwa [Int.toNat_of_nonneg h0] at this
theorem cell_in {c : Int} (h : isCell c = true) : -256 ≤ c ∧ c ≤ 1114111 := by
  unfold isCell at h
  simp at h
  omega
theorem cellsOf_is (l : List Int) (h : ∀ x ∈ l, 0 ≤ x ∧ x < 256) : ∀ c ∈ cellsOf l, isCell c = true := by
  intro c hc
  unfold cellsOf at hc
  obtain ⟨k, hk, rfl⟩ := List.mem_map.1 hc
  have := h k (List.mem_of_mem_take hk)
  exact cellOf_is k this.1 this.2
theorem words_of {l : List Int} (h : ∀ x ∈ l, (Lit.int .i32 x).wf = true) : ∀ x ∈ l, -2147483648 ≤ x ∧ x < 2147483648 := by
  intro x hx
  have := h x hx
  simp only [Lit.wf, Bool.and_eq_true, decide_eq_true_eq, show IntKind.i32.min = -2147483648 from rfl, show IntKind.i32.max = 2147483647 from rfl] at this
  omega
theorem CellTexts : redactorlaw01_CellTexts.Pure := by
  intro l0 l1 l2 l3 _ n0 h0 _ n1 h1 _ n2 h2 _ n3 h3
  refine Ev.rounds ?_
  have yes : Ev (fun k => redactorlaw01_CellTexts.j0 k l0 l1 l2 l3 true) true := by
    refine Ev_succ ?_
    simp only [redactorlaw01_CellTexts.j0]
    exact Ev_yes (by trivial) (Ev.bind known_ev (Ev_done rfl))
  unfold redactorlaw01_CellTexts.f
  by_cases hs : wrap64 ((l0.length : Int) + (l1.length : Int)) > 200
  · exact Ev_yes hs yes
  rw [w64 (by omega) (by omega)] at hs ⊢
  refine Ev_no hs (Ev.bind known_ev ?_)
  refine Ev_succ ?_
  simp only [redactorlaw01_CellTexts.j0]
  have e2 := cellsOf_length l2
  have e3 := cellsOf_length l3
  have w2 : ∀ c ∈ cellsOf l2, -2147483648 ≤ c ∧ c < 2147483648 := fun c hc => by
    have := cell_in (cellsOf_is l2 (bytes_of h2) c hc)
    omega
  refine Ev_no (by simp) (Ev.bind (cells_ev l2 (bytes_of h2) (by omega)) (Ev.bind (cells_ev l3 (bytes_of h3) (by omega)) ?_))
  refine Ev_let (ctext l0 (by omega)) (Ev.bind (rtext_ev l0 (words_of h0) (by omega)) (Ev_yes rfl ?_))
  refine Ev_let (ctext _ (by omega)) (Ev.bind (rtext_ev _ w2 (by omega)) (Ev_yes rfl ?_))
  refine Ev.bind (ccompare_ev l0 l1 (by omega)) (Ev.bind (compare_ev l0 l1 (by omega)) (Ev_yes rfl ?_))
  refine Ev.bind (ccompare_ev _ _ (by omega)) (Ev.bind (compare_ev _ _ (by omega)) (Ev_yes rfl ?_))
  refine Ev.bind (ccompare_ev _ _ (by omega)) (Ev_done ?_)
  rw [(cmp_zero _ _).2 rfl]
  rfl
end Go.Proofs.YtcppmghhijffpaaDoor.Pure
