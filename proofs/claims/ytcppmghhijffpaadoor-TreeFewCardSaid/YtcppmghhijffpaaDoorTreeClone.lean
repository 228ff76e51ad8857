import Derived.Test.YtcppmghhijffpaaDoorTreeCopied
import Derived.Test.YtcppmghhijffpaaDoorTreeWhole
import Derived.Lib.OwnKind
import Derived.Lib.SmallJoins
/-! slices.Clone at whole numbers and at nodes, as rows of one's own. -/
namespace Go.Proofs.YtcppmghhijffpaaDoorW.PrintMore
open Go.RowKit Go.Proofs.YtcppmghhijffpaaDoorW.PrintWords Go.Proofs.YtcppmghhijffpaaDoorW.PrintLast Go.Proofs.YtcppmghhijffpaaDoor.X
set_option linter.unusedSimpArgs false
set_option linter.unusedVariables false
theorem own_slice {w : World} {B n s : Nat} {t : TypeId} {v : Value} {xs : List Value} (h : w.ownsRow B t s v n xs) : ∃ ao cap, v = .slice ao n cap := by
  rcases h.2 with ⟨hv, h0⟩ | ⟨g, cap, cur, hv, _⟩
  · exact ⟨none, 0, by rw [hv, h0]⟩
  · exact ⟨_, _, hv⟩
theorem own_keep {w w' : World} {B n s : Nat} {t : TypeId} {v : Value} {xs : List Value} (h : w.ownsRow B t s v n xs) (hk : ∀ g, B ≤ g → g < w.heap.size → w'.heap[g]? = w.heap[g]?) : w'.ownsRow B t s v n xs := by
  refine ⟨h.1, ?_⟩
  rcases h.2 with h0 | ⟨g, cap, cur, hv, hg, hb, hr⟩
  · exact Or.inl h0
  · exact Or.inr ⟨g, cap, cur, hv, hg, by rw [hk g hg (lt_of_block hb)]; exact hb, hr⟩
theorem own_not {w : World} {B n s : Nat} {t t2 : TypeId} {v : Value} {xs : List Value} (h : w.ownsRow B t s v n xs) {b : Nat} {cs : Array Value} {fr : Nat × Nat} (hb : w.heap[b]? = some (.cells cs t2 fr)) (hne : t ≠ t2) : some b ≠ v.ownBlock := by
  intro he
  obtain ⟨c, fz, hc⟩ := Lib.ownsRow_kind h b he.symm
  rw [hb] at hc
  injection hc with hc
  injection hc with _ h2 _
  exact hne h2.symm
theorem node_info : (Tryd.prog.info? 60).map (fun i => (i.zero.map (·.cells.size), i.size, i.bytes)) = some (some 9, 9, 112) := by kernel_rfl
set_option maxHeartbeats 4000000 in
theorem clone_nil77 (w : World) : Calls Tryd.prog 77 #[.slice none 0 0] w fun e w' => e = .returned (.slice none 0 0) ∧ w = w' := by
  have qe : ∀ (w : World) (a : Option Addr) (n c n' c' : Nat), (binOp .eql 40 (.slice a n c) (.slice none n' c')).run Tryd.prog w = .ok (.bool a.isNone) w := fun w a n c n' c' => Lib.run_eql_slice_nil w _ _ a n c n' c' Tryd.underlying40
  go_enter Tryd.func77, Tryd.ntmps77
  go_wp2
  go_ret
  exact ⟨rfl, rfl⟩
set_option maxHeartbeats 4000000 in
theorem clone_row77 (ad : Addr) (m c : Nat) (news : List Value) (w : World) (hl : news.length = m) (hnews : ∀ j u, news[j]? = some u → w.cell? (ad.add j) = some u) (h1 : ∀ u ∈ news, u.oneCell' = true) (hm : m ≤ 1000) :
    Calls Tryd.prog 77 #[.slice (some ad) m c] w fun e w' => ∃ v, e = .returned v ∧ w'.ownsRow w.heap.size 3 1 v m news ∧ Below w.heap.size w w' := by
  have qe : ∀ (w : World) (a : Option Addr) (n c n' c' : Nat), (binOp .eql 40 (.slice a n c) (.slice none n' c')).run Tryd.prog w = .ok (.bool a.isNone) w := fun w a n c n' c' => Lib.run_eql_slice_nil w _ _ a n c n' c' Tryd.underlying40
  obtain ⟨i0, hi, hz0, hz1, hz2⟩ := info_parts info3
  have hml : maxLen = 9223372036854775807 := rfl
  go_enter Tryd.func77, Tryd.ntmps77
  go_wp2_with (at_builtin; refine wpList_append_own _ rfl _ _ 40 rfl w.heap.size 3 i0 (.int .i64 0) 1 8 Tryd.underlying40 hi hz0 hz1 hz2 rfl (by decide) _ 0 [] rfl (World.ownsRow_made w #[] 0 (Nat.le_refl _) (Nat.zero_le _) (by simp)) ad m c news rfl (by omega) ?c1 h1 (by omega) (by omega) (by simp) ?_)
  case c1 =>
    intro j u hj
    have hc := hnews j u hj
    exact (Below.cell ((Below.refl _ w).alloc (Nat.le_refl _) _) (World.block_lt_of_cell? w _ hc)).trans hc
  intro v' w2 hown' hgrow _
  go_wp2
  go_ret
  refine ⟨_, rfl, by simpa using hown', ?_⟩
  exact ((Below.refl w.heap.size w).alloc (Nat.le_refl _) _).grown hgrow (by simp) (fun k hk => by cases hk; exact Nat.le_refl _)
set_option maxHeartbeats 4000000 in
theorem clone_row80 (ad : Addr) (m c : Nat) (news : List Value) (w : World) (hl : news.length = m * 9) (hnews : ∀ j u, news[j]? = some u → w.cell? (ad.add j) = some u) (h1 : ∀ u ∈ news, u.oneCell' = true) (hm : m ≤ 1000) :
    Calls Tryd.prog 80 #[.slice (some ad) m c] w fun e w' => ∃ v, e = .returned v ∧ w'.ownsRow w.heap.size 60 9 v m news ∧ Below w.heap.size w w' := by
  have qe : ∀ (w : World) (a : Option Addr) (n c n' c' : Nat), (binOp .eql 61 (.slice a n c) (.slice none n' c')).run Tryd.prog w = .ok (.bool a.isNone) w := fun w a n c n' c' => Lib.run_eql_slice_nil w _ _ a n c n' c' Tryd.underlying61
  obtain ⟨i0, hi, hzz⟩ := Option.map_eq_some_iff.1 node_info
  simp only [Prod.mk.injEq, Option.map_eq_some_iff] at hzz
  obtain ⟨⟨z, hz0, hz3⟩, hz1, hz2⟩ := hzz
  have hml : maxLen = 9223372036854775807 := rfl
  go_enter Tryd.func80, Tryd.ntmps80
  go_wp2_with (at_builtin; refine wpList_append_own _ rfl _ _ 61 rfl w.heap.size 60 i0 z 9 112 Tryd.underlying61 hi hz0 hz1 hz2 hz3 (by decide) _ 0 [] rfl (World.ownsRow_made w #[] 0 (Nat.le_refl _) (Nat.zero_le _) (by simp)) ad m c news rfl (by omega) ?c1 h1 (by omega) (by omega) (by simp) ?_)
  case c1 =>
    intro j u hj
    have hc := hnews j u hj
    exact (Below.cell ((Below.refl _ w).alloc (Nat.le_refl _) _) (World.block_lt_of_cell? w _ hc)).trans hc
  intro v' w2 hown' hgrow _
  go_wp2
  go_ret
  refine ⟨_, rfl, by simpa using hown', ?_⟩
  exact ((Below.refl w.heap.size w).alloc (Nat.le_refl _) _).grown hgrow (by simp) (fun k hk => by cases hk; exact Nat.le_refl _)
end Go.Proofs.YtcppmghhijffpaaDoorW.PrintMore
