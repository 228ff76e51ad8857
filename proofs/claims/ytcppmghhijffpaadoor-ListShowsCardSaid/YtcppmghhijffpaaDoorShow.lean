import Derived.RangeFuncNested
import Derived.RangeFuncBound
import Derived.RangeFuncCalls
import Derived.RangeFuncLeaves
import Derived.Shelf.Abstract
import Derived.Shelf.RegionOpen
import Derived.WalkKit
import Derived.OwnWalkIn
import Derived.TacticsInMore
import Derived.LoopNIn
import Derived.LoopIn
import Derived.Test.YtcppmghhijffpaaDoorRange
import Derived.Test.YtcppmghhijffpaaDoorTabs
import Derived.Test.YtcppmghhijffpaaDoorText
import Derived.Test.YtcppmghhijffpaaDoorWMore
/-! redactor/list.Show: a range over a function that hands over the signs of cells. -/
namespace Go.Proofs.YtcppmghhijffpaaDoor.Show
open Go.RowKit Go.Shelf Go.Proofs.YtcppmghhijffpaaDoorW.PrintWords Go.Proofs.YtcppmghhijffpaaDoorW.PrintLast Go.Proofs.YtcppmghhijffpaaDoorW.PrintMore
attribute [local go_sem] Oper.semAt_some
theorem signs_in (A : Option Addr) (m c : Nat) (w : World) :
    CallsIn Fence.wide 3 Tryd.prog 56 #[.slice A m c] w fun e w' => e = .returned (.func (.func 82) #[] #[.pointer (some ⟨w.heap.size, 0, none⟩)]) ∧ w' = w.alloc (.cells #[.slice A m c] 23) := by
  refine callsIn_of_wp Tryd.func56 rfl trivial ?_ rfl
  simp only [Tryd.ntmps56, List.size_toArray, List.length_cons, List.length_nil, Nat.reduceAdd, Nat.reduceSub, Array.replicate_succ, Array.replicate_zero, List.push_toArray, List.append_toArray, List.nil_append, List.cons_append]
  gi_wp2
  go_ret
  exact ⟨rfl, rfl⟩
/-- One cell's sign is what 'sg' says, in new memory. -/
def Signs (sg : Int → Option (List Int)) : Prop := ∀ (c : Int) (s : List Int) (w : World), Tabs2 w → sg c = some s →
  Calls Tryd.prog 83 #[.int .i32 c] w fun e w' => ∃ v0_ : Value, e = .returned (v0_) ∧ Kd.R (Kd.int .i32) 24 w' w.heap.size (fun _ => True) v0_ s ∧ Below w.heap.size w w'
/-- The signs of cells. -/
def sgns (sg : Int → Option (List Int)) : List Int → Option (List (List Int))
  | [] => some []
  | c :: l => (sg c).bind fun s => if 1 ≤ s.length ∧ s.length ≤ 16 then ((sgns sg l).bind fun r => some (s :: r)) else none
theorem sgns_cons {sg : Int → Option (List Int)} {c : Int} {l : List Int} {ss : List (List Int)} (h : sgns sg (c :: l) = some ss) : ∃ s r, sg c = some s ∧ (1 ≤ s.length ∧ s.length ≤ 16) ∧ sgns sg l = some r ∧ ss = s :: r := by
  unfold sgns at h
  obtain ⟨s, h1, h⟩ := Option.bind_eq_some_iff.mp h
  by_cases h2 : 1 ≤ s.length ∧ s.length ≤ 16
  · rw [if_pos h2] at h
    obtain ⟨r, h3, h⟩ := Option.bind_eq_some_iff.mp h
    exact ⟨s, r, h1, h2, h3, (Option.some.inj h).symm⟩
  · rw [if_neg h2] at h
    cases h
set_option maxHeartbeats 8000000 in
set_option maxRecDepth 1000000 in
theorem signs1_in (sg : Int → Option (List Int)) (hsg : Signs sg) (A0 : Option Addr) (c0 : Nat) (l0 : List Int) (ss : List (List Int)) (hss : sgns sg l0 = some ss) (w : World) (ht : Tabs2 w) (hr : Kd.C (Kd.int .i32) w A0 l0.length l0) (hl : l0.length < 1073741824)
    (l B : Nat) (J : List (List Int) → Nat → World → Prop) (hJ : Range.Firm J) (W0 : World) (hB : Below w.heap.size w W0) (hBox : W0.cell? ⟨B, 0, none⟩ = some (.slice A0 l0.length c0))
    (hY : ∀ pre v x b W1, J pre b W1 → b ≤ W1.heap.size → Kd.R (Kd.int .i32) 24 W1 b (fun _ => True) v x → pre ++ [x] <+: ss ++ [[36]] →
      YieldAt Fence.wide (3 - 1) Tryd.prog l #[v] W1 fun e' W' => e' = .returned (.bool true) ∧ J (pre ++ [x]) W'.heap.size W' ∧ Below w.heap.size W1 W')
    (h0 : J [] W0.heap.size W0) :
    CallsIn Fence.wide 3 Tryd.prog 82 #[.func (.yield l) #[] #[], .pointer (some ⟨B, 0, none⟩)] W0 fun e' W' => (∃ v, e' = .returned v) ∧ J (ss ++ [[36]]) W'.heap.size W' := by
  have HG := Aside0.mk hsg
  have HT := Aside0.mk ht
  have HR := Aside0.mk hr
  have HN := Aside0.mk hl
  have HY := Aside0.mk hY
  have HS := Aside0.mk hss
  have HB0 := Aside0.mk hB
  clear hsg ht hr hl hY hss hB
  refine callsIn_of_wp Tryd.func82 rfl trivial ?_ rfl
  simp only [Tryd.ntmps82, List.size_toArray, List.length_cons, List.length_nil, Nat.reduceAdd, Nat.reduceSub, Array.replicate_succ, Array.replicate_zero, List.push_toArray, List.append_toArray, List.nil_append, List.cons_append]
  gi_wp2
  gi_loopw [7] (fun i wr => ∃ (pre rest : List (List Int)), i = .int .i64 (pre.length : Int) ∧ pre.length ≤ l0.length ∧ Aside0 (ss = pre ++ rest) ∧ Aside0 (sgns sg (l0.drop pre.length) = some rest) ∧ Aside0 (J pre wr.heap.size wr) ∧ Aside0 (Below w.heap.size w wr)) (fun i _ => l0.length - (intOf i).toNat)
  case atStart => exact ⟨[], ss, rfl, Nat.zero_le _, ⟨rfl⟩, ⟨HS.out⟩, ⟨h0⟩, ⟨HB0.out⟩⟩
  case round =>
    obtain ⟨pre, rest, rfl, hle, HX, HD, HJ, HB⟩ := hrel
    by_cases hi : pre.length < l0.length
    · obtain ⟨ad, rfl, hcw⟩ := (Kd.reads_of_C (enc := Value.int .i32) (d := (0 : Int)) (h1 := fun _ => rfl) (Kd.C_below HR.out HB.out)).2.2 (by omega)
      have hcell := hcw pre.length hi
      clear hcw
      have hlt : decide ((pre.length : Int) < (l0.length : Int)) = true := decide_eq_true (by omega)
      have p0 : (0 ≤ (pre.length : Int)) = True := eq_true (by omega)
      have p1 : ((pre.length : Int) < (l0.length : Int)) = True := eq_true (by omega)
      have hdrop : l0.drop pre.length = l0.getD pre.length 0 :: l0.drop (pre.length + 1) := by
        rw [List.drop_eq_getElem_cons hi, List.getD_eq_getElem?_getD, List.getElem?_eq_getElem hi]
        rfl
      have hd := HD.out
      rw [hdrop] at hd
      obtain ⟨s, r, hs, h16, hr', rfl⟩ := sgns_cons hd
      have HS1 := Aside0.mk hs
      have HR1 := Aside0.mk hr'
      have H16 := Aside0.mk h16
      clear hd hs hr' hdrop h16
      have hget : l0.getD pre.length 0 = l0[pre.length] := by
        rw [List.getD_eq_getElem?_getD, List.getElem?_eq_getElem hi]
        rfl
      rw [hget] at HS1
      clear hget
      gi_wp2_with (refine ⟨trivial, ?_⟩; gi_at_call 83; refine (callsIn_wide.2 (HG.out _ s _ (Tabs2.below HT.out HB.out) HS1.out)).mono ?_; rintro e W2 ⟨v0, rfl, hRv, hb2⟩; obtain ⟨A2, c2, rfl⟩ := Kd.R_slice hRv; obtain ⟨fn, tmps, assign, body, hy, hRn⟩ := HY.out pre _ s _ W2 (hJ.below _ _ _ _ HJ.out hb2) hb2.size hRv ⟨r ++ [[36]], by rw [HX.out]; simp⟩; have HRn := Aside0.mk hRn; have HB2 := Aside0.mk (below_step HB.out hb2); clear hRn hRv hb2)
      refine HRn.out.mono ?_
      rintro e W3 ⟨rfl, hJ3, hk3⟩
      have HJ3 := Aside0.mk hJ3
      have HB3 := Aside0.mk (HB2.out.trans hk3)
      clear hJ3 hk3
      gi_wp2
      have hw64 : wrap64 ((pre.length : Int) + 1) = (pre.length : Int) + 1 := w64' _ (by omega) (by have := HN.out; omega)
      go_roundw
      case rel => exact ⟨pre ++ [s], r, by rw [hw64, List.length_append]; rfl, by rw [List.length_append]; exact hi, ⟨by rw [HX.out]; simp⟩, ⟨by rw [List.length_append]; exact HR1.out⟩, ⟨HJ3.out⟩, ⟨HB3.out⟩⟩
      case measure =>
        rw [hw64]
        show l0.length - ((pre.length : Int) + 1).toNat < l0.length - ((pre.length : Int)).toNat
        omega
    · have hnl : decide ((pre.length : Int) < (l0.length : Int)) = false := decide_eq_false (by omega)
      have hd := HD.out
      rw [List.drop_eq_nil_of_le (by omega)] at hd
      obtain rfl : rest = [] := (Option.some.inj hd).symm
      clear hd
      have ho : (wr.alloc (.cells #[.int .i32 36] 24)).ownsRow wr.heap.size 24 1 (.slice (some ⟨wr.heap.size, 0, none⟩) 1 1) 1 [.int .i32 36] :=
        ⟨by simp, .inr ⟨wr.heap.size, 1, #[.int .i32 36], rfl, Nat.le_refl _, heap_alloc_new wr _, Nat.le_refl _, by decide, rfl, by simp⟩⟩
      have hRv : Kd.R (Kd.int .i32) 24 (wr.alloc (.cells #[.int .i32 36] 24)) wr.heap.size (fun _ => True) (.slice (some ⟨wr.heap.size, 0, none⟩) 1 1) [36] := Kd.R_of_own ho (fun _ _ => trivial)
      have hb2 : Below wr.heap.size wr (wr.alloc (.cells #[.int .i32 36] 24)) := (Below.refl _ wr).alloc (Nat.le_refl _) _
      obtain ⟨fn, tmps, assign, body, hy, hRn⟩ := HY.out pre _ [36] _ _ (hJ.below _ _ _ _ HJ.out hb2) hb2.size hRv ⟨[], by rw [HX.out]; simp⟩
      have HRn := Aside0.mk hRn
      clear hRn hRv hb2 ho
      gi_wp2
      refine HRn.out.mono ?_
      rintro e W3 ⟨rfl, hJ3, hk3⟩
      have HJ3 := Aside0.mk hJ3
      clear hJ3 hk3
      gi_wp2
      go_end0
      exact ⟨⟨_, rfl⟩, by rw [HX.out, List.append_nil]; exact HJ3.out⟩
theorem signs_seq (sg : Int → Option (List Int)) (hsg : Signs sg) (A0 : Option Addr) (c0 : Nat) (l0 : List Int) (ss : List (List Int)) (hss : sgns sg l0 = some ss) (w : World) (ht : Tabs2 w) (hr : Kd.C (Kd.int .i32) w A0 l0.length l0) (hl : l0.length < 1073741824)
    (B : Nat) (w1 : World) (hB : Below w.heap.size w w1) (hlt : B < w1.heap.size) (hBox : w1.cell? ⟨B, 0, none⟩ = some (.slice A0 l0.length c0)) :
    Range.RowsSeq Tryd.prog Fence.wide 3 82 #[.pointer (some ⟨B, 0, none⟩)] 24 w.heap.size (ss ++ [[36]]) w1 := fun l J W hW hJ hY h0 =>
  signs1_in sg hsg A0 c0 l0 ss hss w ht hr hl l B J hJ W (hB.trans (hW.mono hB.size)) ((hW.cell (p := ⟨B, 0, none⟩) hlt).trans hBox) hY h0
/-- A sign more: in a line of its own, where it would be too wide. -/
def fold1 (wide : Int) (st : List Int × Int) (s : List Int) : List Int × Int :=
  if 2 ≤ wide ∧ 0 < st.2 ∧ wide ≤ st.2 + s.length then (st.1 ++ [92, 10] ++ s, s.length) else (st.1 ++ s, st.2 + s.length)
theorem fold_snoc (wide : Int) (pre : List (List Int)) (s : List Int) : (pre ++ [s]).foldl (fold1 wide) ([], 0) = fold1 wide (pre.foldl (fold1 wide) ([], 0)) s := by rw [List.foldl_append]; rfl
/-- What is held between two rounds. -/
def Inv (wide : Int) (w : World) (pre : List (List Int)) (b : Nat) (W : World) : Prop :=
  ∃ (out : List Int) (long : Int) (v : Value), pre.foldl (fold1 wide) ([], 0) = (out, long) ∧ Boxed W (w.heap.size + 1) 23 v ∧ W.ownsRow w.heap.size 24 1 v out.length (out.map (Value.int .i32)) ∧ (∀ q, v.ownBlock = some q → q < b) ∧
    Boxed W (w.heap.size + 1 + 1) 3 (.int .i64 long) ∧ Boxed W w.heap.size 3 (.int .i64 wide) ∧ Below w.heap.size w W ∧ w.heap.size + 1 + 1 < b ∧ out.length ≤ 18 * pre.length ∧ 0 ≤ long ∧ long ≤ 16 * pre.length
theorem inv_firm (wide : Int) (w : World) : Range.Firm (Inv wide w) where
  below := by
    rintro pre b X Y ⟨out, long, v, h1, h2, h3, h4, h5, h6, h7, h8, h9⟩ hb
    refine ⟨out, long, v, h1, (hb.block _ (by omega)).trans h2, ?_, h4, (hb.block _ (by omega)).trans h5, (hb.block _ (by omega)).trans h6, h7.trans (hb.mono (by omega)), h8, h9⟩
    refine ⟨h3.1, h3.2.imp id ?_⟩
    rintro ⟨g, cap, cur, e1, e2, e3, e4⟩
    exact ⟨g, cap, cur, e1, e2, (hb.block g (h4 g (by rw [e1]; rfl))).trans e3, e4⟩
  up := by
    rintro pre b b' X ⟨out, long, v, h1, h2, h3, h4, h5, h6, h7, h8, h9⟩ hb
    exact ⟨out, long, v, h1, h2, h3, fun q hq => Nat.lt_of_lt_of_le (h4 q hq) hb, h5, h6, h7, by omega, h9⟩
theorem inv_put (wide : Int) (w : World) (N : Nat) (hN : w.heap.size ≤ N) (pre : List (List Int)) (b : Nat) (W : World) (l : Nat) (o o' : Obj) (hi : Inv wide w pre b W) (hl : N ≤ l) (ho : W.heap[l]? = some o) (hc : o.isCells = false) : Inv wide w pre b (W.putObj l o') := by
  obtain ⟨out, long, v, h1, h2, h3, h4, h5, h6, h7, h8, h9⟩ := hi
  have ne : ∀ {B t u}, Boxed W B t u → some B ≠ some l := by
    rintro B t u hB e
    obtain rfl : B = l := Option.some.inj e
    rw [show W.heap[B]? = _ from hB] at ho
    cases ho
    cases hc
  exact ⟨out, long, v, h1, h2.kept (grownBy_putObj' W l o') (ne h2), ownsRow_putObj h3 o' ho hc, h4, h5.kept (grownBy_putObj' W l o') (ne h5), h6.kept (grownBy_putObj' W l o') (ne h6),
    h7.grown (grownBy_putObj' W l o') h7.size (fun q e => by cases e; omega), h8, h9⟩
/-- Behind 'out = append(out, ..)'. -/
theorem after_store {W w1 : World} {n₀ B m : Nat} {v v' : Value} {xs ys : List Value} {k : Nat} (hv : Boxed W B 23 v) (hrow : W.ownsRow n₀ 24 1 v k xs) (hn₀ : n₀ ≤ W.heap.size) (hB : n₀ ≤ B)
    (hown : w1.ownsRow n₀ 24 1 v' m ys) (hg : W.grownBy w1 v.ownBlock) :
    Boxed w1 B 23 v ∧ Boxed (w1.setCell ⟨B, 0, none⟩ v') B 23 v' ∧ (w1.setCell ⟨B, 0, none⟩ v').ownsRow n₀ 24 1 v' m ys ∧ KeepsOthers W (w1.setCell ⟨B, 0, none⟩ v') ∧ Below n₀ W (w1.setCell ⟨B, 0, none⟩ v') ∧
      ∀ q, q < W.heap.size → some q ≠ v.ownBlock → q ≠ B → (w1.setCell ⟨B, 0, none⟩ v').heap[q]? = W.heap[q]? := by
  have hv1 : Boxed w1 B 23 v := hv.kept hg (hv.not_row (by decide) hrow)
  refine ⟨hv1, hv1.set v', hown.kept (grownBy_setCell' w1 B v') (.inr (hv1.not_row (by decide) hown).symm), ?_, ?_, ?_⟩
  · refine (KeepsOthers.of_grownBy hg fun j o ej hj => ?_).trans (KeepsOthers.setCell _ _ _)
    rcases hrow.2 with ⟨rfl, _⟩ | ⟨g, cap, cur, rfl, _, hgb, _⟩
    · simp [Value.ownBlock] at ej
    · obtain rfl : g = j := by simpa [Value.ownBlock] using ej
      rw [hgb] at hj
      cases hj
      rfl
  · refine ((Below.refl n₀ W).grown hg hn₀ fun j ej => ?_).setCell (p := ⟨B, 0, none⟩) hB v'
    rcases hrow.2 with ⟨rfl, _⟩ | ⟨g, cap, cur, rfl, hb, _, _⟩
    · simp [Value.ownBlock] at ej
    · obtain rfl : g = j := by simpa [Value.ownBlock] using ej
      exact hb
  · intro q h1 h2 h3
    rw [Below.heap_setCell w1 ⟨B, 0, none⟩ v' q h3]
    exact hg.block q h1 h2
/-- The three variables' boxes and the row that comes. -/
structure St (wide : Int) (w W : World) (v : Value) (out : List Int) (u : Value) : Prop where
  bo : Boxed W (w.heap.size + 1) 23 v
  row : W.ownsRow w.heap.size 24 1 v out.length (out.map (Value.int .i32))
  bl : Boxed W (w.heap.size + 1 + 1) 3 u
  bw : Boxed W w.heap.size 3 (.int .i64 wide)
  below : Below w.heap.size w W
theorem St.alloc {wide : Int} {w W : World} {v : Value} {out : List Int} {u : Value} (h : St wide w W v out u) (o : Obj) : St wide w (W.alloc o) v out u :=
  ⟨h.bo.alloc o, h.row.alloc o, h.bl.alloc o, h.bw.alloc o, h.below.alloc h.below.size o⟩
theorem St.put {wide : Int} {w W : World} {v : Value} {out : List Int} {u : Value} (h : St wide w W v out u) (u' : Value) :
    St wide w (W.setCell ⟨w.heap.size + 1 + 1, 0, none⟩ u') v out u' ∧ KeepsOthers W (W.setCell ⟨w.heap.size + 1 + 1, 0, none⟩ u') ∧ Below w.heap.size W (W.setCell ⟨w.heap.size + 1 + 1, 0, none⟩ u') ∧ ∀ q, q ≠ w.heap.size + 1 + 1 → (W.setCell ⟨w.heap.size + 1 + 1, 0, none⟩ u').heap[q]? = W.heap[q]? := by
  have hg := grownBy_setCell' W (w.heap.size + 1 + 1) u'
  refine ⟨⟨h.bo.kept hg (by simp), h.row.kept hg (.inr (h.bl.not_row (by decide) h.row).symm), h.bl.set u', h.bw.kept hg (by simp; omega), h.below.setCell (p := ⟨w.heap.size + 1 + 1, 0, none⟩) (by show w.heap.size ≤ w.heap.size + 1 + 1; omega) u'⟩, KeepsOthers.setCell _ _ _, (Below.refl _ W).setCell (p := ⟨w.heap.size + 1 + 1, 0, none⟩) (by show w.heap.size ≤ w.heap.size + 1 + 1; omega) u', fun q hq => Below.heap_setCell W ⟨w.heap.size + 1 + 1, 0, none⟩ u' q hq⟩
theorem St.app {wide : Int} {w W w1 : World} {v v' : Value} {out out' : List Int} {u : Value} (h : St wide w W v out u) (hown : w1.ownsRow w.heap.size 24 1 v' out'.length (out'.map (Value.int .i32))) (hg : W.grownBy w1 v.ownBlock) :
    Boxed w1 (w.heap.size + 1) 23 v ∧ St wide w (w1.setCell ⟨w.heap.size + 1, 0, none⟩ v') v' out' u ∧ KeepsOthers W (w1.setCell ⟨w.heap.size + 1, 0, none⟩ v') ∧ Below w.heap.size W (w1.setCell ⟨w.heap.size + 1, 0, none⟩ v') ∧
      ∀ q, q < W.heap.size → some q ≠ v.ownBlock → q ≠ w.heap.size + 1 → (w1.setCell ⟨w.heap.size + 1, 0, none⟩ v').heap[q]? = W.heap[q]? := by
  obtain ⟨b1, b2, b3, b4, b5, b6⟩ := after_store h.bo h.row h.below.size (Nat.le_succ _) hown hg
  exact ⟨b1, ⟨b2, b3, (b6 _ h.bl.lt (h.bl.not_row (by decide) h.row) (by omega)).trans h.bl, (b6 _ h.bw.lt (h.bw.not_row (by decide) h.row) (by omega)).trans h.bw, h.below.trans b5⟩, b4, b5, b6⟩
theorem own_form {W : World} {b e : Nat} {v : Value} {n : Nat} {xs : List Value} (h : W.ownsRow b e 1 v n xs) (hn : 0 < n) : ∃ g cap, v = .slice (some ⟨g, 0, none⟩) n cap := by
  rcases h.2 with ⟨_, h0⟩ | ⟨g, cap, _, rfl, _⟩
  · omega
  · exact ⟨g, cap, rfl⟩
theorem row_cells {W : World} {gx cx : Nat} {x : List Int} {b : Nat} {ok : Nat → Prop} (hR : Kd.R (Kd.int .i32) 24 W b ok (.slice (some ⟨gx, 0, none⟩) x.length cx) x) (hp : 0 < x.length) {W' : World} (hs : W'.heap[gx]? = W.heap[gx]?) :
    ∀ j u, (x.map (Value.int .i32))[j]? = some u → W'.cell? ((⟨gx, 0, none⟩ : Addr).add j) = some u := by
  intro j u hj
  obtain ⟨ad, e, hc⟩ := (Kd.reads_of_C (enc := Value.int .i32) (d := (0 : Int)) (h1 := fun _ => rfl) (Kd.R_reads' hR).2.2).2.2 hp
  cases e
  rw [List.getElem?_map] at hj
  cases hx : x[j]? with
  | none => rw [hx] at hj; cases hj
  | some y =>
    rw [hx] at hj
    have hjl : j < x.length := (List.getElem?_eq_some_iff.1 hx).1
    have := hc j hjl
    rw [List.getD_eq_getElem?_getD, hx] at this
    rw [← Option.some.inj hj]
    exact (World.cell?_of_block (w := W) (show W'.heap[((⟨gx, 0, none⟩ : Addr).add j).block]? = W.heap[((⟨gx, 0, none⟩ : Addr).add j).block]? from by unfold Addr.add; split <;> exact hs)).trans this
theorem one_cells {x : List Int} : ∀ u ∈ x.map (Value.int .i32), u.oneCell' = true := by
  intro u hu
  obtain ⟨y, _, rfl⟩ := List.mem_map.1 hu
  rfl
theorem two_cells : ∀ u ∈ [Value.int .i32 92, .int .i32 10], u.oneCell' = true := by
  intro u hu
  simp at hu
  rcases hu with rfl | rfl <;> rfl
theorem two_new (W : World) (p q : Value) : ∀ j u, [p, q][j]? = some u → (W.alloc (.cells #[p, q] 24)).cell? ((⟨W.heap.size, 0, none⟩ : Addr).add j) = some u := by
  intro j u hj
  have hb := heap_alloc_new W (.cells #[p, q] 24)
  match j with
  | 0 =>
    obtain rfl : p = u := by simpa using hj
    show (match (W.alloc (.cells #[p, q] 24)).heap[W.heap.size]? with | some (.cells c _ _) => c[0]? | _ => none) = some p
    rw [hb]
    rfl
  | 1 =>
    obtain rfl : q = u := by simpa using hj
    show (match (W.alloc (.cells #[p, q] 24)).heap[W.heap.size]? with | some (.cells c _ _) => c[1]? | _ => none) = some q
    rw [hb]
    rfl
  | j + 2 => simp at hj
theorem sgns_all {sg : Int → Option (List Int)} : ∀ {l : List Int} {ss : List (List Int)}, sgns sg l = some ss → ss.length = l.length ∧ ∀ x ∈ ss, 1 ≤ x.length ∧ x.length ≤ 16 := by
  intro l
  induction l with
  | nil =>
    intro ss h
    obtain rfl := Option.some.inj h
    exact ⟨rfl, by simp⟩
  | cons c l ih =>
    intro ss h
    obtain ⟨s, r, _, h2, h3, rfl⟩ := sgns_cons h
    obtain ⟨i1, i2⟩ := ih h3
    exact ⟨by rw [List.length_cons, List.length_cons, i1], by rintro x hx; rcases List.mem_cons.1 hx with rfl | hx; exact h2; exact i2 x hx⟩
set_option maxHeartbeats 8000000 in
set_option maxRecDepth 1000000 in
theorem show_in (sg : Int → Option (List Int)) (hsg : Signs sg) (A0 : Option Addr) (c0 : Nat) (l0 : List Int) (wide : Int) (ss : List (List Int)) (hss : sgns sg l0 = some ss) (w : World) (ht : Tabs2 w) (hr : Kd.C (Kd.int .i32) w A0 l0.length l0) (hl : l0.length < 1073741824) :
    CallsIn Fence.wide 4 Tryd.prog 24 #[.slice A0 l0.length c0, .int .i64 wide] w fun e w' => ∃ v0_ : Value, e = .returned v0_ ∧ w'.ownsRow w.heap.size 24 1 v0_ ((ss ++ [[36]]).foldl (fold1 wide) ([], 0)).1.length (((ss ++ [[36]]).foldl (fold1 wide) ([], 0)).1.map (Value.int .i32)) ∧ Below w.heap.size w w' := by
  obtain ⟨i0, hi, hz0, hz1, hz2⟩ := info_parts info24_of
  refine callsIn_of_wp_marks Tryd.func24 rfl trivial ?_ rfl
  simp only [Tryd.ntmps24, List.size_toArray, List.length_cons, List.length_nil, Nat.reduceAdd, Nat.reduceSub, Array.replicate_succ, Array.replicate_zero, List.push_toArray, List.append_toArray, List.nil_append, List.cons_append]
  gi_wp2_with (refine ⟨trivial, ?_⟩; gi_at_call 56; refine (signs_in _ _ _ _).mono ?_; rintro e w' ⟨rfl, rfl⟩)
  have b1 := Boxed.new w 3 (.int .i64 wide)
  have b2 := Boxed.new (w.alloc (.cells #[.int .i64 wide] 3)) 23 (.slice none 0 0)
  have b3 := Boxed.new ((w.alloc (.cells #[.int .i64 wide] 3)).alloc (.cells #[.slice none 0 0] 23)) 3 (.int .i64 0)
  have b4 := Boxed.new (((w.alloc (.cells #[.int .i64 wide] 3)).alloc (.cells #[.slice none 0 0] 23)).alloc (.cells #[.int .i64 0] 3)) 23 (.slice A0 l0.length c0)
  simp only [World.size_alloc] at b2 b3 b4
  have hB0 : Below w.heap.size w ((((w.alloc (.cells #[.int .i64 wide] 3)).alloc (.cells #[.slice none 0 0] 23)).alloc (.cells #[.int .i64 0] 3)).alloc (.cells #[.slice A0 l0.length c0] 23)) :=
    ((((Below.refl _ w).alloc (Nat.le_refl _) _).alloc (by simp) _).alloc (by simp; omega) _).alloc (by simp; omega) _
  have hsz : ((((w.alloc (.cells #[.int .i64 wide] 3)).alloc (.cells #[.slice none 0 0] 23)).alloc (.cells #[.int .i64 0] 3)).alloc (.cells #[.slice A0 l0.length c0] 23)).heap.size = w.heap.size + 4 := by simp
  have b1' := ((b1.alloc (.cells #[.slice none 0 0] 23)).alloc (.cells #[.int .i64 0] 3)).alloc (.cells #[.slice A0 l0.length c0] 23)
  have b2' := (b2.alloc (.cells #[.int .i64 0] 3)).alloc (.cells #[.slice A0 l0.length c0] 23)
  have b3' := b3.alloc (.cells #[.slice A0 l0.length c0] 23)
  generalize (((w.alloc (.cells #[.int .i64 wide] 3)).alloc (.cells #[.slice none 0 0] 23)).alloc (.cells #[.int .i64 0] 3)).alloc (.cells #[.slice A0 l0.length c0] 23) = Wl at b4 hB0 hsz b1' b2' b3' ⊢
  clear b1 b2 b3
  refine Range.range_rows (n₀ := w.heap.size) (ss := ss ++ [[36]]) (e := 24) rfl (by decide) (gf := 82) (lb := #[.pointer (some ⟨w.heap.size + 1 + 1 + 1, 0, none⟩)]) rfl trivial (enters_of Tryd.func82 (by kernel_rfl) rfl) (by omega)
    (signs_seq sg hsg A0 c0 l0 ss hss w ht hr hl (w.heap.size + 1 + 1 + 1) Wl hB0 (by omega) b4.cell)
    (Inv wide w) (inv_firm wide w) (fun pre b W l o o' h1 h2 h3 h4 => inv_put wide w Wl.heap.size (by omega) pre b W l o o' h1 h2 h3 h4)
    ⟨[], 0, .slice none 0 0, rfl, b2', World.ownsRow_nil _ _ _ _, fun q hq => (by cases hq), b3', b1', hB0, by omega, by simp, by omega, by simp⟩
    (fun v' => { tmps := #[.slice A0 l0.length c0, .int .i64 wide, undef, .pointer (some ⟨w.heap.size, 0, none⟩), .slice none 0 0, .pointer (some ⟨w.heap.size + 1, 0, none⟩), .pointer (some ⟨w.heap.size + 1 + 1, 0, none⟩), v', .slice A0 l0.length c0,
      .func (.func 82) #[] #[.pointer (some ⟨w.heap.size + 1 + 1 + 1, 0, none⟩)], v', undef, undef, undef, undef, undef, undef, undef, undef, undef, undef, undef, undef, undef, undef, undef, undef, undef, undef, undef, undef, undef, undef, undef, undef, undef], defers := [] }) ?assign ?body ?done
  case assign =>
    intro l v' W K hK
    gi_wp2
    exact hK
  case done =>
    rintro D b W hD ⟨out, long, v, hf, hbo, hrow, hvb, hbl, hbw, hB, hlt, hlen, hlg⟩ hK
    have hc := hbo.cell
    gi_wp2
    refine ⟨by simp, .inl ⟨_, _, rfl, run_takeDeferred hK, ?_⟩⟩
    rw [hf]
    exact ⟨_, results_tmp rfl _ _ _, v, rfl, ownsRow_putObj hrow _ hK rfl, hB.trans (belowK_b (w := w) (Nat.le_refl _) W D _ _ (by omega) hK rfl rfl)⟩
  case body =>
    rintro l pre v' x b W ⟨out, long, v, hf, hbo, hrow, hvb, hbl, hbw, hB, hlt, hlen, hlg0, hlg1⟩ hbW hR hpre
    have hn := sgns_all hss
    have hxm : x ∈ ss ++ [[36]] := hpre.subset (by simp)
    have hpl : pre.length ≤ l0.length := by
      have := hpre.length_le
      simp at this
      omega
    have hx1 : 1 ≤ x.length ∧ x.length ≤ 16 := by
      rcases List.mem_append.1 hxm with h | h
      · exact hn.2 x h
      · rw [List.mem_singleton.1 h]
        exact ⟨by decide, by decide⟩
    obtain ⟨gx, cx, rfl, hgb, hgl, cells, hcx⟩ := Kd.R_form hR (by omega)
    have hst : St wide w W v out (.int .i64 long) := ⟨hbo, hrow, hbl, hbw, hB⟩
    have hfold := fold_snoc wide pre x
    rw [hf] at hfold
    have hgv : some gx ≠ v.ownBlock := fun e => by have := hvb gx e.symm; omega
    have HX := Aside0.mk hx1
    have HPL := Aside0.mk hpl
    have HLEN := Aside0.mk hlen
    have HLG := Aside0.mk (show 0 ≤ long ∧ long ≤ 16 * (pre.length : Int) from ⟨hlg0, hlg1⟩)
    have HF := Aside0.mk hfold
    have HS := Aside0.mk hst
    have HRX := Aside0.mk hR
    have HL := Aside0.mk hl
    have HBW := Aside0.mk hbW
    have HGL := Aside0.mk hgl
    have HGB := Aside0.mk hgb
    have HLT := Aside0.mk hlt
    have hcw := hbw.cell
    have hcl := hbl.cell
    have hfl := hbl.frozen
    have hco := hbo.cell
    clear hsg hss hn hxm hpre hpl hx1 hgb hcx hst hf hfold hR hl hbW hgl hlg0 hlg1 hlen hlt hr b4 hB0 hsz b1' b2' b3' hbo hrow hvb hbl hbw hB
    have fin : ∀ W3 v3 out3 long3, KeepsOthers W W3 → Below w.heap.size W W3 → St wide w W3 v3 out3 (.int .i64 long3) → fold1 wide (out, long) x = (out3, long3) → out3.length ≤ out.length + 18 → 0 ≤ long3 ∧ long3 ≤ long + 16 →
        KeepsOthers W W3 ∧ Below w.heap.size W W3 ∧ Inv wide w (pre ++ [x]) W3.heap.size W3 := by
      intro W3 v3 out3 long3 h1 h2 h3 h4 h5 h6
      have := HLEN.out
      have := HLG.out
      exact ⟨h1, h2, out3, long3, v3, HF.out.trans h4, h3.bo, h3.row, fun q hq => (h3.row.lt q hq).2, h3.bl, h3.bw, h3.below, h3.bl.lt, by simp; omega, h6.1, by simp; omega⟩
    have FIN := Aside0.mk fin
    clear fin
    by_cases hc : 2 ≤ wide ∧ 0 < long ∧ wide ≤ long + x.length
    · have d1 : decide ((2 : Int) ≤ wide) = true := decide_eq_true hc.1
      have d2 : decide ((0 : Int) < long) = true := decide_eq_true hc.2.1
      have d3 : decide (wide ≤ wrap64 (long + (x.length : Int))) = true := by
        rw [w64' (long + (x.length : Int)) (by have := HLG.out; omega) (by have := HLG.out; have := HX.out; have := HPL.out; have := HL.out; omega)]
        exact decide_eq_true hc.2.2
      have HC := Aside0.mk (show fold1 wide (out, long) x = (out ++ [92, 10] ++ x, (x.length : Int)) from if_pos hc)
      clear hc
      have HGV := Aside0.mk hgv
      clear hgv
      gi_wp2_with (first | (gi_at_builtin; refine wpListIn_append_own _ rfl (.tmp 25) (.tmp 26) 23 rfl w.heap.size 24 i0 (.int .i32 0) 1 4 Tryd.underlying23 hi hz0 hz1 hz2 rfl (by decide) _ _ _ rfl (HS.out.alloc _).row ⟨W.heap.size, 0, none⟩ 2 2 [.int .i32 92, .int .i32 10] rfl rfl (two_new _ _ _) two_cells (Nat.le_trans (show out.length + 2 ≤ 30000000000 by have := HX.out; have := HLEN.out; have := HPL.out; have := HL.out; omega) (by decide)) (by have := HX.out; have := HLEN.out; have := HPL.out; have := HL.out; omega) (HS.out.alloc (.cells #[.int .i32 92, .int .i32 10] 24)).below.size ?_; intro v1 w1 hown1 hg1 _; obtain ⟨g1, cap1, rfl⟩ := own_form hown1 (by omega); have hown3 : w1.ownsRow w.heap.size 24 1 (.slice (some ⟨g1, 0, none⟩) (out.length + 2) cap1) (out ++ ([92, 10] : List Int)).length ((out ++ ([92, 10] : List Int)).map (Value.int .i32)) := (by rw [List.length_append, List.map_append]; exact hown1); obtain ⟨s1, s2, s3, s4, s5⟩ := (HS.out.alloc (.cells #[.int .i32 92, .int .i32 10] 24)).app hown3 hg1; obtain ⟨q1, q2, q3, q4⟩ := s2.put (.int .i64 0); have HSA := Aside0.mk q1; have HKA := Aside0.mk (((KeepsOthers.alloc W _).trans s3).trans q2); have HBA := Aside0.mk ((((Below.refl _ W).alloc HS.out.below.size _).trans s4).trans q3); have HGX := Aside0.mk ((q4 gx (by have := HGB.out; have := HLT.out; omega)).trans ((s5 gx (by have := HGL.out; simp; omega) HGV.out (by have := HGB.out; have := HLT.out; omega)).trans (Below.heap_alloc W _ gx HGL.out))); have hc1 := s1.cell; have hf1 := s1.frozen; have hcl1 := s2.bl.cell; have hfl1 := s2.bl.frozen; have hcoa := q1.bo.cell; have hcla := q1.bl.cell; have hfla := q1.bl.frozen; clear hown1 hown3 hg1 s1 s2 s3 s4 s5 q1 q2 q3 q4) | (gi_at_builtin; refine wpListIn_append_own _ rfl (.tmp 28) (.tmp 29) 23 rfl w.heap.size 24 i0 (.int .i32 0) 1 4 Tryd.underlying23 hi hz0 hz1 hz2 rfl (by decide) _ _ _ rfl HSA.out.row ⟨gx, 0, none⟩ x.length cx (x.map (Value.int .i32)) rfl (by simp) (row_cells HRX.out (by have := HX.out; omega) HGX.out) one_cells (Nat.le_trans (show (out ++ ([92, 10] : List Int)).length + x.length ≤ 30000000000 by rw [List.length_append]; show out.length + 2 + x.length ≤ _; have := HX.out; have := HLEN.out; have := HPL.out; have := HL.out; omega) (by decide)) (by rw [List.length_append]; show (out.length + 2 + x.length) * 4 ≤ _; have := HX.out; have := HLEN.out; have := HPL.out; have := HL.out; omega) HSA.out.below.size ?_; intro v2 w2 hown2 hg2 _; rw [show (out ++ ([92, 10] : List Int)).length + x.length = out.length + 2 + x.length from by rw [List.length_append]; rfl] at hown2; obtain ⟨g2, cap2, rfl⟩ := own_form hown2 (by omega); have hown3 : w2.ownsRow w.heap.size 24 1 (.slice (some ⟨g2, 0, none⟩) (out.length + 2 + x.length) cap2) (out ++ ([92, 10] : List Int) ++ x).length ((out ++ ([92, 10] : List Int) ++ x).map (Value.int .i32)) := (by rw [List.length_append, List.map_append, List.length_append]; exact hown2); obtain ⟨s1, s2, s3, s4, s5⟩ := HSA.out.app hown3 hg2; have HS2 := Aside0.mk s2; have HK2 := Aside0.mk (HKA.out.trans s3); have HB2 := Aside0.mk (HBA.out.trans s4); have hc2 := s1.cell; have hf2 := s1.frozen; have hcl2 := s2.bl.cell; have hfl2 := s2.bl.frozen; clear hown2 hown3 hg2 s1 s2 s3 s4 s5))
      rw [w64' (x.length : Int) (by omega) (by have := HX.out; omega)]
      obtain ⟨s1, s2, s3, _⟩ := HS2.out.put (.int .i64 (x.length : Int))
      have := HX.out
      have := HLG.out
      exact FIN.out _ _ _ _ (HK2.out.trans s2) (HB2.out.trans s3) s1 HC.out (by simp; omega) (by omega)
    · have hno : decide ((2 : Int) ≤ wide) = false ∨ (decide ((2 : Int) ≤ wide) = true ∧ decide ((0 : Int) < long) = false) ∨ (decide ((2 : Int) ≤ wide) = true ∧ decide ((0 : Int) < long) = true ∧ decide (wide ≤ wrap64 (long + (x.length : Int))) = false) := by
        rw [w64' (long + (x.length : Int)) (by have := HLG.out; omega) (by have := HLG.out; have := HX.out; have := HPL.out; have := HL.out; omega)]
        by_cases h1 : 2 ≤ wide
        · by_cases h2 : 0 < long
          · exact .inr (.inr ⟨decide_eq_true h1, decide_eq_true h2, decide_eq_false (fun h3 => hc ⟨h1, h2, h3⟩)⟩)
          · exact .inr (.inl ⟨decide_eq_true h1, decide_eq_false h2⟩)
        · exact .inl (decide_eq_false h1)
      have HC := Aside0.mk (show fold1 wide (out, long) x = (out ++ x, long + x.length) from if_neg hc)
      clear hc
      have last : ∀ (v2 : Value) (w2 : World), St wide w (w2.setCell ⟨w.heap.size + 1, 0, none⟩ v2) v2 (out ++ x) (.int .i64 long) → KeepsOthers W (w2.setCell ⟨w.heap.size + 1, 0, none⟩ v2) → Below w.heap.size W (w2.setCell ⟨w.heap.size + 1, 0, none⟩ v2) →
          KeepsOthers W ((w2.setCell ⟨w.heap.size + 1, 0, none⟩ v2).setCell ⟨w.heap.size + 1 + 1, 0, none⟩ (.int .i64 (wrap64 (long + (x.length : Int))))) ∧ Below w.heap.size W ((w2.setCell ⟨w.heap.size + 1, 0, none⟩ v2).setCell ⟨w.heap.size + 1 + 1, 0, none⟩ (.int .i64 (wrap64 (long + (x.length : Int))))) ∧ Inv wide w (pre ++ [x]) ((w2.setCell ⟨w.heap.size + 1, 0, none⟩ v2).setCell ⟨w.heap.size + 1 + 1, 0, none⟩ (.int .i64 (wrap64 (long + (x.length : Int))))).heap.size ((w2.setCell ⟨w.heap.size + 1, 0, none⟩ v2).setCell ⟨w.heap.size + 1 + 1, 0, none⟩ (.int .i64 (wrap64 (long + (x.length : Int))))) := by
        intro v2 w2 h1 h2 h3
        rw [w64' (long + (x.length : Int)) (by have := HLG.out; omega) (by have := HLG.out; have := HX.out; have := HPL.out; have := HL.out; omega)]
        obtain ⟨s1, s2, s3, _⟩ := h1.put (.int .i64 (long + (x.length : Int)))
        have := HX.out
        have := HLG.out
        exact FIN.out _ _ _ _ (h2.trans s2) (h3.trans s3) s1 HC.out (by rw [List.length_append]; omega) (by omega)
      have LAST := Aside0.mk last
      clear last
      rcases hno with d1 | ⟨d1, d2⟩ | ⟨d1, d2, d3⟩
      · gi_wp2_with (gi_at_builtin; refine wpListIn_append_own _ rfl (.tmp 28) (.tmp 29) 23 rfl w.heap.size 24 i0 (.int .i32 0) 1 4 Tryd.underlying23 hi hz0 hz1 hz2 rfl (by decide) _ _ _ rfl HS.out.row ⟨gx, 0, none⟩ x.length cx (x.map (Value.int .i32)) rfl (by simp) (row_cells HRX.out (by have := HX.out; omega) rfl) one_cells (Nat.le_trans (show out.length + x.length ≤ 30000000000 by have := HX.out; have := HLEN.out; have := HPL.out; have := HL.out; omega) (by decide)) (by have := HX.out; have := HLEN.out; have := HPL.out; have := HL.out; omega) HS.out.below.size ?_; intro v2 w2 hown2 hg2 _; obtain ⟨g2, cap2, rfl⟩ := own_form hown2 (by have := HX.out; omega); have hown3 : w2.ownsRow w.heap.size 24 1 (.slice (some ⟨g2, 0, none⟩) (out.length + x.length) cap2) (out ++ x).length ((out ++ x).map (Value.int .i32)) := (by rw [List.length_append, List.map_append]; exact hown2); obtain ⟨s1, s2, s3, s4, s5⟩ := HS.out.app hown3 hg2; have HS2 := Aside0.mk s2; have HK2 := Aside0.mk s3; have HB2 := Aside0.mk s4; have hc2 := s1.cell; have hf2 := s1.frozen; have hcl2 := s2.bl.cell; have hfl2 := s2.bl.frozen; clear hown2 hown3 hg2 s1 s2 s3 s4 s5)
        exact LAST.out _ _ HS2.out HK2.out HB2.out
      · gi_wp2_with (gi_at_builtin; refine wpListIn_append_own _ rfl (.tmp 28) (.tmp 29) 23 rfl w.heap.size 24 i0 (.int .i32 0) 1 4 Tryd.underlying23 hi hz0 hz1 hz2 rfl (by decide) _ _ _ rfl HS.out.row ⟨gx, 0, none⟩ x.length cx (x.map (Value.int .i32)) rfl (by simp) (row_cells HRX.out (by have := HX.out; omega) rfl) one_cells (Nat.le_trans (show out.length + x.length ≤ 30000000000 by have := HX.out; have := HLEN.out; have := HPL.out; have := HL.out; omega) (by decide)) (by have := HX.out; have := HLEN.out; have := HPL.out; have := HL.out; omega) HS.out.below.size ?_; intro v2 w2 hown2 hg2 _; obtain ⟨g2, cap2, rfl⟩ := own_form hown2 (by have := HX.out; omega); have hown3 : w2.ownsRow w.heap.size 24 1 (.slice (some ⟨g2, 0, none⟩) (out.length + x.length) cap2) (out ++ x).length ((out ++ x).map (Value.int .i32)) := (by rw [List.length_append, List.map_append]; exact hown2); obtain ⟨s1, s2, s3, s4, s5⟩ := HS.out.app hown3 hg2; have HS2 := Aside0.mk s2; have HK2 := Aside0.mk s3; have HB2 := Aside0.mk s4; have hc2 := s1.cell; have hf2 := s1.frozen; have hcl2 := s2.bl.cell; have hfl2 := s2.bl.frozen; clear hown2 hown3 hg2 s1 s2 s3 s4 s5)
        exact LAST.out _ _ HS2.out HK2.out HB2.out
      · gi_wp2_with (gi_at_builtin; refine wpListIn_append_own _ rfl (.tmp 28) (.tmp 29) 23 rfl w.heap.size 24 i0 (.int .i32 0) 1 4 Tryd.underlying23 hi hz0 hz1 hz2 rfl (by decide) _ _ _ rfl HS.out.row ⟨gx, 0, none⟩ x.length cx (x.map (Value.int .i32)) rfl (by simp) (row_cells HRX.out (by have := HX.out; omega) rfl) one_cells (Nat.le_trans (show out.length + x.length ≤ 30000000000 by have := HX.out; have := HLEN.out; have := HPL.out; have := HL.out; omega) (by decide)) (by have := HX.out; have := HLEN.out; have := HPL.out; have := HL.out; omega) HS.out.below.size ?_; intro v2 w2 hown2 hg2 _; obtain ⟨g2, cap2, rfl⟩ := own_form hown2 (by have := HX.out; omega); have hown3 : w2.ownsRow w.heap.size 24 1 (.slice (some ⟨g2, 0, none⟩) (out.length + x.length) cap2) (out ++ x).length ((out ++ x).map (Value.int .i32)) := (by rw [List.length_append, List.map_append]; exact hown2); obtain ⟨s1, s2, s3, s4, s5⟩ := HS.out.app hown3 hg2; have HS2 := Aside0.mk s2; have HK2 := Aside0.mk s3; have HB2 := Aside0.mk s4; have hc2 := s1.cell; have hf2 := s1.frozen; have hcl2 := s2.bl.cell; have hfl2 := s2.bl.frozen; clear hown2 hown3 hg2 s1 s2 s3 s4 s5)
        exact LAST.out _ _ HS2.out HK2.out HB2.out
theorem sgns_mono {f g : Int → Option (List Int)} (h : ∀ c s, f c = some s → g c = some s) : ∀ {l : List Int} {ss : List (List Int)}, sgns f l = some ss → sgns g l = some ss := by
  intro l
  induction l with
  | nil => intro ss h; exact h
  | cons c l ih =>
    intro ss hs
    obtain ⟨s, r, h1, h2, h3, rfl⟩ := sgns_cons hs
    unfold sgns
    rw [h c s h1, Option.bind_some, if_pos h2, ih h3, Option.bind_some]
theorem show_calls (sg : Int → Option (List Int)) (hsg : Signs sg) (A0 : Option Addr) (c0 : Nat) (l0 : List Int) (wide : Int) (ss : List (List Int)) (hss : sgns sg l0 = some ss) (w : World) (ht : Tabs2 w) (hr : Kd.C (Kd.int .i32) w A0 l0.length l0) (hl : l0.length < 1073741824) :
    Calls Tryd.prog 24 #[.slice A0 l0.length c0, .int .i64 wide] w fun e w' => ∃ v0_ : Value, e = .returned (v0_) ∧ Kd.R (Kd.int .i32) 24 w' w.heap.size (fun _ => True) v0_ ((ss ++ [[36]]).foldl (fold1 wide) ([], 0)).1 ∧ Below w.heap.size w w' := by
  refine (callsIn_wide.1 (show_in sg hsg A0 c0 l0 wide ss hss w ht hr hl)).mono ?_
  rintro e w' ⟨v, rfl, ho, hb⟩
  exact ⟨v, rfl, Kd.R_of_own ho (fun _ _ => trivial), hb⟩
end Go.Proofs.YtcppmghhijffpaaDoor.Show
