import Derived.Test.YtcppmghhijffpaaDoorUtfTieS
import Derived.Test.YtcppmghhijffpaaDoorUtfTieC
import Derived.Test.YtcppmghhijffpaaDoorCellBase
import Derived.Test.YtcppmghhijffpaaDoorX12
import Derived.Test.YtcppmghhijffpaaDoorX24
import Derived.Test.YtcppmghhijffpaaDoorX9
/-! What Find and Cut come to, the program's and the reference's. -/
namespace Go.Proofs.YtcppmghhijffpaaDoor.Tie
open Go.RowKit Go.Proofs.YtcppmghhijffpaaDoor.X Go.Proofs.YtcppmghhijffpaaDoorW.PrintWords Go.Proofs.YtcppmghhijffpaaDoorW.PrintMore
theorem bytes_of {l : List Int} (h : ∀ x ∈ l, (Lit.int .u8 x).wf = true) : ∀ x ∈ l, 0 ≤ x ∧ x < 256 := by
  intro x hx
  have := h x hx
  simp only [Lit.wf, Bool.and_eq_true, decide_eq_true_eq, show IntKind.u8.min = 0 from rfl, show IntKind.u8.max = 255 from rfl] at this
  omega
theorem cellOf_all : (List.range 256).all (fun k => isCell (cellOf (k : Int))) = true := by kernel_rfl
theorem cellOf_is (k : Int) (h0 : 0 ≤ k) (h1 : k < 256) : isCell (cellOf k) = true := by
  have := List.all_eq_true.1 cellOf_all k.toNat (List.mem_range.2 (by omega))
  rwa [Int.toNat_of_nonneg h0] at this
theorem cell_in {c : Int} (h : isCell c = true) : -256 ≤ c ∧ c ≤ 1114111 := by
  unfold isCell at h
  simp at h
  omega
theorem cellsOf_is (l : List Int) (h : ∀ x ∈ l, 0 ≤ x ∧ x < 256) : ∀ c ∈ cellsOf l, isCell c = true := by
  intro c hc
  unfold cellsOf at hc
  obtain ⟨k, hk, rfl⟩ := List.mem_map.1 hc
  have := h k (List.mem_of_mem_take hk)
  exact cellOf_is k this.1 this.2
/-- The first place at which others stand, from a place on. -/
def findN (l m : List Int) : Nat → Nat → Int
  | 0, _ => -1
  | f + 1, i => if i + m.length ≤ l.length then (if (l.drop i).take m.length = m then (i : Int) else findN l m f (i + 1)) else -1
theorem cfind_in (l m : List Int) (i : Nat) (rn : Int) (hl : l.length < 4611686018427387904) (hnext : Ev (fun k => cell_Find.l0 k l m (wrap64 ((i : Int) + 1))) rn) : ∀ (t q p u : List Int),
    l = p ++ u → m = q ++ t → p.length = i + q.length → t.length ≤ u.length →
    Ev (fun k => cell_Find.l1 k l m (i : Int) m (m.length : Int) (q.length : Int)) (if u.take t.length = t then (i : Int) else rn) := by
  intro t
  induction t with
  | nil =>
    intro q p u h1 h2 h3 h4
    refine Ev_succ ?_
    simp only [cell_Find.l1]
    have : m.length = q.length := by rw [h2]; simp
    exact Ev_no (by omega) (Ev_done (by simp))
  | cons a t ih =>
    intro q p u h1 h2 h3 h4
    cases u with
    | nil => simp at h4
    | cons b u =>
      have hm : m.length = q.length + t.length + 1 := by rw [h2]; simp; omega
      have hll : l.length = p.length + u.length + 1 := by rw [h1]; simp; omega
      simp only [List.length_cons] at h4
      refine Ev_succ ?_
      simp only [cell_Find.l1]
      rw [w64 (n := (i : Int) + (q.length : Int)) (by omega) (by omega), show (i : Int) + (q.length : Int) = (p.length : Int) from by omega, w64 (n := (q.length : Int) + 1) (by omega) (by omega)]
      rw [show rd l (p.length : Int) = b from by rw [h1, rd_mid], show rd m (q.length : Int) = a from by rw [h2, rd_mid]]
      refine Ev_yes (by omega) (Ev_yes (by omega) (Ev_yes (by omega) (Ev_yes (by omega) (Ev_yes (by omega) ?_))))
      by_cases hab : b = a
      · have := ih (q ++ [a]) (p ++ [b]) u (by rw [h1]; simp) (by rw [h2]; simp) (by simp; omega) (by omega)
        rw [show (b :: u).take (a :: t).length = b :: u.take t.length from rfl]
        rw [show (if b :: u.take t.length = a :: t then (i : Int) else rn) = (if u.take t.length = t then (i : Int) else rn) from by rw [hab]; simp]
        refine Ev_yes hab ?_
        simpa using this
      · rw [show (b :: u).take (a :: t).length = b :: u.take t.length from rfl, if_neg (by intro e; exact hab (List.cons.inj e).1)]
        exact Ev_no hab hnext
theorem cfind_ev0 (l m : List Int) (hl : l.length < 4611686018427387904) (hm : m.length < 4611686018427387904) : ∀ (f i : Nat), l.length + 1 ≤ i + f →
    Ev (fun k => cell_Find.l0 k l m (i : Int)) (findN l m f i) := by
  intro f
  induction f with
  | zero =>
    intro i h
    refine Ev_succ ?_
    simp only [cell_Find.l0]
    rw [w64 (n := (l.length : Int) - (m.length : Int)) (by omega) (by omega)]
    exact Ev_no (by omega) (Ev_done rfl)
  | succ f ih =>
    intro i h
    refine Ev_succ ?_
    simp only [cell_Find.l0]
    rw [w64 (n := (l.length : Int) - (m.length : Int)) (by omega) (by omega)]
    by_cases hi : i + m.length ≤ l.length
    · refine Ev_yes (by omega) ?_
      have nx : Ev (fun k => cell_Find.l0 k l m (wrap64 ((i : Int) + 1))) (findN l m f (i + 1)) := by
        rw [w64 (by omega) (by omega)]
        exact ih (i + 1) (by omega)
      have := cfind_in l m i _ hl nx m [] (l.take i) (l.drop i) (by simp) (by simp) (by simp; omega) (by simp; omega)
      rw [findN, if_pos hi]
      exact this
    · rw [findN, if_neg hi]
      exact Ev_no (by omega) (Ev_done rfl)
theorem rfind_ev0 (l m : List Int) (hl : l.length < 4611686018427387904) (hm : m.length < 4611686018427387904) : ∀ (f i : Nat), l.length + 1 ≤ i + f →
    Ev (fun k => redactorref01_Find.l0 k l m (i : Int)) (findN l m f i) := by
  intro f
  induction f with
  | zero =>
    intro i h
    refine Ev_succ ?_
    simp only [redactorref01_Find.l0]
    rw [w64 (n := (l.length : Int) - (m.length : Int)) (by omega) (by omega)]
    exact Ev_no (by omega) (Ev_done rfl)
  | succ f ih =>
    intro i h
    refine Ev_succ ?_
    simp only [redactorref01_Find.l0]
    rw [w64 (n := (l.length : Int) - (m.length : Int)) (by omega) (by omega)]
    by_cases hi : i + m.length ≤ l.length
    · rw [w64 (n := (i : Int) + (m.length : Int)) (by omega) (by omega), w64 (n := (i : Int) + 1) (by omega) (by omega)]
      rw [show ((i : Int) + (m.length : Int)).toNat = i + m.length from by omega, show ((i : Int)).toNat = i from by omega, List.drop_take, show i + m.length - i = m.length from by omega]
      refine Ev_yes (by omega) (Ev_yes (by omega) (Ev_yes (by omega) (Ev_yes (by omega) (Ev.bind (same_ev _ m (by rw [List.length_take]; omega)) ?_))))
      rw [findN, if_pos hi]
      by_cases he : (l.drop i).take m.length = m
      · rw [if_pos he]
        exact Ev_yes (decide_eq_true he) (Ev_done rfl)
      · rw [if_neg he]
        exact Ev_no (by rw [decide_eq_false he]; simp) (ih (i + 1) (by omega))
    · rw [findN, if_neg hi]
      exact Ev_no (by omega) (Ev_done rfl)
theorem mx_nat (a : Int) : ∃ i : Nat, mx a 0 = (i : Int) := ⟨(mx a 0).toNat, by unfold mx; split <;> omega⟩
theorem find_both (l m : List Int) (a : Int) (hl : l.length < 4611686018427387904) (hm : m.length < 4611686018427387904) : ∃ r, Ev (fun k => cell_Find.f k l m a) r ∧ Ev (fun k => redactorref01_Find.f k l m a) r := by
  obtain ⟨i, hi⟩ := mx_nat a
  refine ⟨findN l m (l.length + 1) i, ?_, ?_⟩
  · unfold cell_Find.f
    rw [hi]
    exact cfind_ev0 l m hl hm _ i (by omega)
  · unfold redactorref01_Find.f
    rw [hi]
    exact rfind_ev0 l m hl hm _ i (by omega)
theorem cut_both (l : List Int) (a b : Int) (hl : l.length < 35184372088832) : ∃ (p : List Int) (e : Int), cell_Cut.f l a b = some (p, e) ∧ redactorref01_Cut.f l a b = some (p, e) ∧ p.length ≤ l.length ∧ (e = 0 ∨ e = 1) := by
  unfold cell_Cut.f redactorref01_Cut.f
  by_cases h1 : a < 0
  · exact ⟨[], 1, by rw [if_pos h1], by rw [if_pos h1], by simp, Or.inr rfl⟩
  by_cases h2 : a > b
  · exact ⟨[], 1, by rw [if_neg h1, if_pos h2], by rw [if_neg h1, if_pos h2], by simp, Or.inr rfl⟩
  by_cases h3 : b > (l.length : Int)
  · exact ⟨[], 1, by rw [if_neg h1, if_neg h2, if_pos h3], by rw [if_neg h1, if_neg h2, if_pos h3], by simp, Or.inr rfl⟩
  have hlen : ((l.take b.toNat).drop a.toNat).length ≤ l.length := by rw [List.length_drop, List.length_take]; omega
  refine ⟨(l.take b.toNat).drop a.toNat, 0, ?_, ?_, hlen, Or.inl rfl⟩
  · rw [if_neg h1, if_neg h2, if_neg h3, if_pos (by omega), if_pos (by omega), if_pos (by omega)]
    unfold api_Cell_59.f
    rw [if_pos (by omega)]
    rfl
  · rw [if_neg h1, if_neg h2, if_neg h3, if_pos (by omega), if_pos (by omega), if_pos (by omega), if_pos (by simp only [List.length_nil]; omega)]
    rfl
theorem cut_in (l : List Int) (a b : Nat) (hl : l.length < 35184372088832) (h1 : a ≤ b) (h2 : b ≤ l.length) : cell_Cut.f l (a : Int) (b : Int) = some ((l.take b).drop a, 0) := by
  have hlen : ((l.take b).drop a).length ≤ l.length := by rw [List.length_drop, List.length_take]; omega
  unfold cell_Cut.f
  rw [if_neg (by omega), if_neg (by omega), if_neg (by omega), if_pos (by omega), if_pos (by omega), if_pos (by omega)]
  rw [show ((b : Int)).toNat = b from by omega, show ((a : Int)).toNat = a from by omega]
  unfold api_Cell_59.f
  rw [if_pos (by omega)]
  rfl
end Go.Proofs.YtcppmghhijffpaaDoor.Tie
