import Derived.Test.YtcppmghhijffpaaDoorX0
import Derived.Test.YtcppmghhijffpaaDoorTreeSet
import Derived.Laws.MakeOwn
import Derived.Deep.WholeRow
/-! redactor/tree.Right: may a tree be? -/
namespace Go.Proofs.YtcppmghhijffpaaDoorW.PrintMore
open Go.RowKit Go.Proofs.YtcppmghhijffpaaDoorW.PrintWords Go.Proofs.YtcppmghhijffpaaDoorW.PrintLast Go.Proofs.YtcppmghhijffpaaDoor.X
set_option linter.unusedSimpArgs false
set_option linter.unusedVariables false
/-- A node's kids, counted; none: one that may not be. -/
def kidsGo (i : Int) : List Int → List Int → Option (List Int)
  | [], ps => some ps
  | k :: r, ps => if k < 0 then none else if i ≤ k then none else kidsGo i r (ps.set k.toNat (wrap64 (ps.getD k.toNat 0 + 1)))
def nodeOf (x : S60) (g : Int) : Bool := nodeB x.f0 x.f1 x.f2.f0 true x.f2.f1.length x.f2.f2.length x.f6.length x.f3 x.f4 x.f5 g
def numGo (x : S60) (nb : List Int) : List Int := if x.f0 = 7 then nb.set x.f3.toNat (wrap64 (nb.getD x.f3.toNat 0 + 1)) else nb
def rightEnd (g : Int) (ps nb : List Int) : Bool := !((ps.take (ps.length - 1)).any fun x => !(x == 1)) && !(((nb.drop 1).take g.toNat).any fun x => !(x == 1))
def rightGo (g : Int) : List S60 → Nat → List Int → List Int → Bool
  | [], _, ps, nb => rightEnd g ps nb
  | x :: r, i, ps, nb => if nodeOf x g = true then (match kidsGo i x.f6 ps with
    | none => false
    | some ps' => rightGo g r (i + 1) ps' (numGo x nb)) else false
def rightL (ns : List S60) (g : Int) : Bool :=
  if ns.length = 0 then false else if 200 < ns.length then false else if g < 0 then false else if 9 < g then false else rightGo g ns 0 (List.replicate ns.length 0) (List.replicate 10 0)
/-- Whole numbers as cells. -/
def ints (l : List Int) : Array Value := (l.map (Value.int .i64)).toArray
theorem made_ints (n : Nat) : madeCells #[Value.int .i64 0] n = ints (List.replicate n 0) := by
  unfold madeCells ints
  apply Array.ext'
  rw [Array.toList_map, Array.toList_range]
  apply List.ext_getElem
  · simp
  · intro i h1 h2
    simp
    rw [Nat.mod_one]
    rfl
theorem make_is (n : Nat) (hn : n ≤ 200) (W : World) : (Instr.makeSlice 40 (.int .i64 (n : Int)) (.int .i64 (n : Int))).run Tryd.prog W = .ok (.slice (some ⟨W.heap.size, 0, none⟩) n n) (W.alloc (.cells (ints (List.replicate n 0)) 3)) := by
  obtain ⟨i0, hi, hz0, hz1, hz2⟩ := info_parts info3
  have := run_make W 40 3 i0 (.int .i64 0) Tryd.underlying40 hi hz0 .i64 .i64 n n (by omega) (by omega) (by rw [hz2]; omega) (by omega)
  rw [hz1] at this
  simp only [Int.toNat_natCast, Nat.mul_one, Value.cells] at this
  rw [this, made_ints]
theorem ints_at (l : List Int) (k : Nat) (hk : k < l.length) : (ints l)[k]? = some (.int .i64 (l.getD k 0)) := by
  unfold ints
  rw [List.getElem?_toArray, List.getElem?_map, List.getD_eq_getElem?_getD, List.getElem?_eq_getElem hk]
  rfl
theorem C_blk {W : World} {b : Nat} {l : List Int} {t : TypeId} (h : W.heap[b]? = some (.cells (ints l) t (0, 0))) (off m : Nat) (hm : off + m ≤ l.length) (hb : m ≤ 1000000) : Kd.C (Kd.int .i64) W (some ⟨b, off, none⟩) m ((l.drop off).take m) := by
  refine ⟨by rw [List.length_take, List.length_drop]; omega, by omega, fun _ => ⟨_, rfl, fun j p hp => ⟨[.int .i64 p], rfl, rfl, fun q u hu => ?_⟩⟩⟩
  cases q with
  | succ q => simp at hu
  | zero =>
    obtain rfl : Value.int .i64 p = u := by simpa using hu
    have hj : j < m := by
      have := (List.getElem?_eq_some_iff.1 hp).1
      rw [List.length_take] at this
      omega
    have hg : l.getD (off + j) 0 = p := by
      rw [List.getElem?_take_of_lt hj, List.getElem?_drop] at hp
      rw [List.getD_eq_getElem?_getD, hp]
      rfl
    have e : ((⟨b, off, none⟩ : Addr).add (j * (Kd.int .i64).sz + 0)) = ⟨b, off + j, none⟩ := by
      show (⟨b, off, none⟩ : Addr).add (j * 1 + 0) = _
      unfold Addr.add
      split
      · rename_i h0
        simp at h0
        subst h0
        rfl
      · simp
    rw [e, ← hg]
    exact (cell_blk h (off + j)).trans (ints_at l (off + j) (by omega))
theorem contains_at (f : FuncId) (fn : Func) (b : Nat) (hf : Asks f fn b) (A : Option Addr) (m c : Nat) (xs : List Int) (hm : xs.length = m) (w : World) (hr : Kd.C (Kd.int .i64) w A m xs) (hl : m < 1000000000) (hb : w.cell? ⟨b, 0, none⟩ = some (.func (.func 69) #[] #[])) :
    Calls Tryd.prog 70 #[.slice A m c, .func (.func f) #[] #[.pointer (some ⟨b, 0, none⟩)]] w fun e w' => e = .returned (.bool (xs.any fun x => !(x == 1))) ∧ w = w' := by
  subst hm
  exact contains_walk f fn b hf A c xs w hr hl hb
theorem slice_num (W : World) (b gn g1 : Nat) (h : g1 = gn + 1) (hg : gn ≤ 9) : (Instr.sliceAt 69 (.pointer (some ⟨b, 0, none⟩)) (some (.int .i64 1)) (some (.int .i64 (g1 : Int))) none).run Tryd.prog W = .ok (.slice (some ⟨b, 1, none⟩) gn 9) W := by
  have ha : Tryd.prog.arrayLen 69 = 10 := by kernel_rfl
  have he : Tryd.prog.elem 69 = 3 := by kernel_rfl
  have ht : Tryd.prog.underlying 69 = some (.array (Tryd.prog.arrayLen 69) (Tryd.prog.elem 69)) := by
    rw [ha, he]
    exact Tryd.underlying69
  obtain ⟨i0, hi, hz0, hz1, hz2⟩ := info_parts info3
  rw [run_sliceAt_array_lh W 69 ⟨b, 0, none⟩ ht .i64 .i64 1 g1 (by decide) (by omega) (by rw [ha]; omega), ha, he]
  simp [sizeOf, typeInfo, hi, hz1, slicedAt, Addr.add, Result.andThen]
  omega
/-- What is held between two nodes. -/
structure Held (w wr : World) (A : Option Addr) (c n : Nat) (g : Int) (ps nb : List Int) : Prop where
  x : wr.heap[w.heap.size]? = some (.cells #[.slice A n c, .int .i64 g] 63 (0, 0))
  p : wr.heap[w.heap.size + 1]? = some (.cells (ints ps) 3 (0, 0))
  q : wr.heap[w.heap.size + 1 + 1]? = some (.cells (ints nb) 69 (0, 0))
  b : Below w.heap.size w wr
  lp : ps.length = n
  lq : nb.length = 10
  z : w.heap.size + 1 + 1 < wr.heap.size
theorem Held.next {w wr wr' : World} {A : Option Addr} {c n : Nat} {g : Int} {ps nb : List Int} (h : Held w wr A c n g ps nb) (hb : Below wr.heap.size wr wr') : Held w wr' A c n g ps nb :=
  ⟨(hb.block _ (Nat.lt_trans (by omega) h.z)).trans h.x, (hb.block _ (Nat.lt_trans (by omega) h.z)).trans h.p, (hb.block _ h.z).trans h.q, h.b.trans (hb.mono h.b.size), h.lp, h.lq, Nat.lt_of_lt_of_le h.z hb.size⟩
theorem ints_set (l : List Int) (k : Nat) (v : Int) : (ints l).setIfInBounds k (.int .i64 v) = ints (l.set k v) := by
  unfold ints
  apply Array.ext'
  simp [List.map_set]
theorem Held.setp {w wr : World} {A : Option Addr} {c n : Nat} {g : Int} {ps nb : List Int} (h : Held w wr A c n g ps nb) (k : Nat) (v : Int) : Held w (wr.setCell ⟨w.heap.size + 1, k, none⟩ (.int .i64 v)) A c n g (ps.set k v) nb := by
  have e := setCell_eq_setRow wr (w.heap.size + 1) k (ints ps) 3 (0, 0) (.int .i64 v) h.p
  refine ⟨?_, ?_, ?_, h.b.setCell (p := ⟨w.heap.size + 1, k, none⟩) (Nat.le_succ _) _, by rw [List.length_set]; exact h.lp, h.lq, ?_⟩
  · exact (Below.heap_setCell wr ⟨w.heap.size + 1, k, none⟩ _ w.heap.size (by show w.heap.size ≠ w.heap.size + 1; omega)).trans h.x
  · rw [e, setRow_heap wr _ _ _ 3 _ h.p, ints_set]
  · exact (Below.heap_setCell wr ⟨w.heap.size + 1, k, none⟩ _ (w.heap.size + 1 + 1) (by show w.heap.size + 1 + 1 ≠ w.heap.size + 1; omega)).trans h.q
  · exact Nat.lt_of_lt_of_le h.z ((Below.refl 0 wr).setCell (Nat.zero_le _) _).size
theorem Held.setq {w wr : World} {A : Option Addr} {c n : Nat} {g : Int} {ps nb : List Int} (h : Held w wr A c n g ps nb) (k : Nat) (v : Int) : Held w (wr.setCell ⟨w.heap.size + 1 + 1, k, none⟩ (.int .i64 v)) A c n g ps (nb.set k v) := by
  have e := setCell_eq_setRow wr (w.heap.size + 1 + 1) k (ints nb) 69 (0, 0) (.int .i64 v) h.q
  refine ⟨?_, ?_, ?_, h.b.setCell (p := ⟨w.heap.size + 1 + 1, k, none⟩) (by show w.heap.size ≤ w.heap.size + 1 + 1; omega) _, h.lp, by rw [List.length_set]; exact h.lq, ?_⟩
  · exact (Below.heap_setCell wr ⟨w.heap.size + 1 + 1, k, none⟩ _ w.heap.size (by show w.heap.size ≠ w.heap.size + 1 + 1; omega)).trans h.x
  · exact (Below.heap_setCell wr ⟨w.heap.size + 1 + 1, k, none⟩ _ (w.heap.size + 1) (by show w.heap.size + 1 ≠ w.heap.size + 1 + 1; omega)).trans h.p
  · rw [e, setRow_heap wr _ _ _ 69 _ h.q, ints_set]
  · exact Nat.lt_of_lt_of_le h.z ((Below.refl 0 wr).setCell (Nat.zero_le _) _).size
theorem node7 {c : Int} {nt sv : Bool} {rl tl kl : Nat} {n mn mx g : Int} (h : nodeB 7 c nt sv rl tl kl n mn mx g = true) : 1 ≤ n ∧ n ≤ g := by
  unfold nodeB at h
  rw [if_neg (by decide), if_neg (by decide), if_neg (by decide), if_neg (by decide), if_neg (by decide), if_neg (by decide), if_pos rfl] at h
  simp only [Bool.and_eq_true, Bool.not_eq_true', decide_eq_false_iff_not] at h
  omega
set_option maxHeartbeats 16000000 in
set_option maxRecDepth 100000 in
theorem tRight_walk (A : Option Addr) (c : Nat) (ns : List S60) (g : Int) (w : World) (hr : Kd.C k60 w A ns.length ns) (hset : ∀ x ∈ ns, x.f0 = 3 → x.f2.f1 = [] ∧ x.f2.f2 = []) :
    Calls Tryd.prog 45 #[.agg #[.slice A ns.length c, .int .i64 g]] w fun e w' => e = .returned (.bool (rightL ns g)) ∧ Below w.heap.size w w' := by
  have HR := Aside0.mk hr
  have HS := Aside0.mk hset
  clear hr hset
  by_cases h1 : ns.length = 0
  · have d1 : ((ns.length : Int) == 0) = true := beq_iff_eq.mpr (by omega)
    have d1b : decide ((ns.length : Int) = 0) = true := decide_eq_true (by omega)
    have HE := Aside0.mk (show rightL ns g = false from if_pos h1)
    clear h1
    go_enter Tryd.func45, Tryd.ntmps45
    go_wp2
    go_ret
    exact ⟨by rw [HE.out]; rfl, (Below.refl _ _).alloc (Nat.le_refl _) _⟩
  have d1 : ((ns.length : Int) == 0) = false := beq_eq_false_iff_ne.mpr (by omega)
  have d1b : decide ((ns.length : Int) = 0) = false := decide_eq_false (by omega)
  by_cases h2 : 200 < ns.length
  · have d2 : decide ((200 : Int) < (ns.length : Int)) = true := decide_eq_true (by omega)
    have HE := Aside0.mk (show rightL ns g = false by unfold rightL; rw [if_neg h1, if_pos h2])
    clear h1 h2
    go_enter Tryd.func45, Tryd.ntmps45
    go_wp2
    go_ret
    exact ⟨by rw [HE.out]; rfl, (Below.refl _ _).alloc (Nat.le_refl _) _⟩
  have d2 : decide ((200 : Int) < (ns.length : Int)) = false := decide_eq_false (by omega)
  by_cases h3 : g < 0
  · have d3 : decide (g < 0) = true := decide_eq_true h3
    have HE := Aside0.mk (show rightL ns g = false by unfold rightL; rw [if_neg h1, if_neg h2, if_pos h3])
    clear h1 h2 h3
    go_enter Tryd.func45, Tryd.ntmps45
    go_wp2
    go_ret
    exact ⟨by rw [HE.out]; rfl, (Below.refl _ _).alloc (Nat.le_refl _) _⟩
  have d3 : decide (g < 0) = false := decide_eq_false h3
  by_cases h4 : 9 < g
  · have d4 : decide (9 < g) = true := decide_eq_true h4
    have HE := Aside0.mk (show rightL ns g = false by unfold rightL; rw [if_neg h1, if_neg h2, if_neg h3, if_pos h4])
    clear h1 h2 h3 h4
    go_enter Tryd.func45, Tryd.ntmps45
    go_wp2
    go_ret
    exact ⟨by rw [HE.out]; rfl, (Below.refl _ _).alloc (Nat.le_refl _) _⟩
  have d4 : decide (9 < g) = false := decide_eq_false h4
  have HE := Aside0.mk (show rightL ns g = rightGo g ns 0 (List.replicate ns.length 0) (List.replicate 10 0) by unfold rightL; rw [if_neg h1, if_neg h2, if_neg h3, if_neg h4])
  have HN := Aside0.mk (show 1 ≤ ns.length ∧ ns.length ≤ 200 by omega)
  have HG := Aside0.mk (show 0 ≤ g ∧ g ≤ 9 by omega)
  have hmk := make_is ns.length (by omega)
  clear h1 h2 h3 h4
  go_enter Tryd.func45, Tryd.ntmps45
  go_wp2
  go_loopg [35] ns.length (fun k v35 wr => ∃ (i : Nat) (ps nb : List Int), v35 = .int .i64 (i : Int) ∧ i + k = ns.length ∧ Aside0 (Held w wr A c ns.length g ps nb) ∧ Aside0 (rightGo g (ns.drop i) i ps nb = rightL ns g))
  case atStart =>
    exact ⟨0, List.replicate ns.length 0, List.replicate 10 0, rfl, by omega, ⟨(Below.heap_alloc _ _ _ (by simp; omega)).trans ((Below.heap_alloc _ _ _ (by simp)).trans (heap_alloc_new w _)),
      (Below.heap_alloc _ _ _ (by simp)).trans (by simpa using heap_alloc_new (w.alloc (.cells #[.slice A ns.length c, .int .i64 g] 63)) (.cells (ints (List.replicate ns.length 0)) 3)),
      by rw [show ints (List.replicate 10 0) = #[.int .i64 0, .int .i64 0, .int .i64 0, .int .i64 0, .int .i64 0, .int .i64 0, .int .i64 0, .int .i64 0, .int .i64 0, .int .i64 0] from rfl]; simpa using heap_alloc_new ((w.alloc (.cells #[.slice A ns.length c, .int .i64 g] 63)).alloc (.cells (ints (List.replicate ns.length 0)) 3)) (.cells #[.int .i64 0, .int .i64 0, .int .i64 0, .int .i64 0, .int .i64 0, .int .i64 0, .int .i64 0, .int .i64 0, .int .i64 0, .int .i64 0] 69),
      (((Below.refl w.heap.size w).alloc (Nat.le_refl _) _).alloc (by simp) _).alloc (by simp; omega) _, by simp, by simp, by simp⟩, ⟨HE.out.symm⟩⟩
  case round =>
    obtain ⟨i, ps, nb, rfl, hik, HH, HA⟩ := hrel
    by_cases hi : i < ns.length
    · obtain ⟨ad, A3, c3, A4, c4, A8, c8, rfl, x0, x1, x2, x3, x4, x5, x6, x7, x8, l3, i3, l4, i4, l8, i8⟩ := at_T60 HR.out (i : Int) (by omega) (by omega)
      replace x0 := (HH.out.b.cell (World.block_lt_of_cell? w _ x0)).trans x0
      replace x1 := (HH.out.b.cell (World.block_lt_of_cell? w _ x1)).trans x1
      replace x2 := (HH.out.b.cell (World.block_lt_of_cell? w _ x2)).trans x2
      replace x3 := (HH.out.b.cell (World.block_lt_of_cell? w _ x3)).trans x3
      replace x4 := (HH.out.b.cell (World.block_lt_of_cell? w _ x4)).trans x4
      replace x5 := (HH.out.b.cell (World.block_lt_of_cell? w _ x5)).trans x5
      replace x6 := (HH.out.b.cell (World.block_lt_of_cell? w _ x6)).trans x6
      replace x7 := (HH.out.b.cell (World.block_lt_of_cell? w _ x7)).trans x7
      replace x8 := (HH.out.b.cell (World.block_lt_of_cell? w _ x8)).trans x8
      simp only [Int.toNat_natCast] at x0 x1 x2 x3 x4 x5 x6 x7 x8
      have HX := Aside0.mk (show ns.drop i = rd_T60 ns i :: ns.drop (i + 1) by
        unfold rd_T60
        rw [List.drop_eq_getElem_cons hi, Int.toNat_natCast, List.getD_eq_getElem?_getD, List.getElem?_eq_getElem hi]
        rfl)
      have HM := Aside0.mk (show rd_T60 ns i ∈ ns by
        unfold rd_T60
        rw [Int.toNat_natCast, List.getD_eq_getElem?_getD, List.getElem?_eq_getElem hi]
        exact List.getElem_mem hi)
      generalize rd_T60 ns (i : Int) = x at x0 x1 x2 x3 x4 x5 x6 x7 x8 l3 i3 l4 i4 l8 i8 HX HM
      have hlt : decide ((i : Int) < (ns.length : Int)) = true := decide_eq_true (by omega)
      have p0 : (0 ≤ (i : Int)) = True := eq_true (by omega)
      have p1 : ((i : Int) < (ns.length : Int)) = True := eq_true (by omega)
      obtain ⟨k', rfl⟩ : ∃ k', gk = k' + 1 := ⟨gk - 1, by omega⟩
      have t0 := cell_blk HH.out.x 0
      have t1 := cell_blk HH.out.x 1
      simp only [List.getElem?_toArray, List.getElem?_cons_zero, List.getElem?_cons_succ] at t0 t1
      have HK := Aside0.mk i8
      have HL8 := Aside0.mk l8
      have HSV := Aside0.mk (HS.out x HM.out)
      clear l3 i3 l4 i4 l8 i8
      have t1b : ∀ o : Obj, (wr.alloc o).cell? ⟨w.heap.size, 1, none⟩ = some (.int .i64 g) := fun o => (Below.cell ((Below.refl _ wr).alloc (Nat.le_refl _) o) (p := ⟨w.heap.size, 1, none⟩) (by show w.heap.size < wr.heap.size; have := HH.out.z; omega)).trans t1
      have hsv : x.f0 = 3 → ∀ W : World, Calls Tryd.prog 92 #[.agg #[.bool x.f2.f0, .slice A3 x.f2.f1.length c3, .slice A4 x.f2.f2.length c4]] W fun e w' => e = .returned (.bool true) ∧ Below W.heap.size W w' := by
        intro h W
        obtain ⟨e1, e2⟩ := HSV.out h
        rw [e1, e2]
        exact tset0_walk x.f2.f0 A3 A4 c3 c4 W
      have HSV2 := Aside0.mk hsv
      clear hsv
      cases hno : nodeOf x g
      · have HE2 := Aside0.mk (show rightL ns g = false by rw [← HA.out, HX.out, rightGo, hno]; rfl)
        unfold nodeOf at hno
        go_wp2_with (go_at_call 68; refine (tright_walk x.f0 x.f1 x.f2.f0 true A3 A4 A8 _ c3 _ c4 _ c8 x.f3 x.f4 x.f5 g _ HSV2.out).mono ?_; rintro e w2 ⟨rfl, hb2⟩; rw [hno])
        go_ret
        exact ⟨by rw [HE2.out]; rfl, HH.out.b.trans ((((Below.refl _ wr).alloc (Nat.le_refl _) _).trans (hb2.mono (by simp))).mono HH.out.b.size)⟩
      · have HNO := Aside0.mk hno
        unfold nodeOf at hno
        have HN2 := Aside0.mk hno
        clear hno
        by_cases h7 : x.f0 = 7
        · have q7 : (x.f0 == 7) = true := beq_iff_eq.mpr h7
          have q7b : decide (x.f0 = 7) = true := decide_eq_true h7
          have h9 := node7 (show nodeB 7 x.f1 x.f2.f0 true x.f2.f1.length x.f2.f2.length x.f6.length x.f3 x.f4 x.f5 g = true by rw [← h7]; exact HN2.out)
          obtain ⟨nn, hnn⟩ : ∃ nn : Nat, x.f3 = (nn : Int) := ⟨x.f3.toNat, by omega⟩
          have HNN := Aside0.mk hnn
          have HNR := Aside0.mk (show nn < 10 by have := HG.out; omega)
          have qn0 : (0 ≤ (nn : Int)) = True := eq_true (by omega)
          have qn1 : ((nn : Int) < 10) = True := eq_true (by have := HNR.out; omega)
          have qn2 : (nn < 10) = True := eq_true HNR.out
          have H7 := Aside0.mk h7
          clear hnn h9 h7
          go_wp2_with (go_at_call 68; refine (tright_walk x.f0 x.f1 x.f2.f0 true A3 A4 A8 _ c3 _ c4 _ c8 x.f3 x.f4 x.f5 g _ HSV2.out).mono ?_; rintro e w2 ⟨rfl, hb2⟩; rw [HN2.out]; have hbx2 := (hb2.block _ (by simp)).trans (heap_alloc_new wr _); have u0 := cell_blk hbx2 0; have u5 := cell_blk hbx2 5; have u8 := cell_blk hbx2 8; simp only [List.getElem?_toArray, List.getElem?_cons_zero, List.getElem?_cons_succ] at u0 u5 u8; rw [HNN.out] at u5; have u8b := (fun v : Value => (World.cell?_of_block (w := w2) (Below.heap_setCell w2 ⟨w.heap.size + 1 + 1, nn, none⟩ v wr.heap.size (by have := HH.out.z; show wr.heap.size ≠ w.heap.size + 1 + 1; omega))).trans u8); have HH2 := Aside0.mk (HH.out.next (((Below.refl _ wr).alloc (Nat.le_refl _) _).trans (hb2.mono (by simp)))); have hqc := (cell_blk HH2.out.q nn).trans (ints_at nb nn (by have := HH2.out.lq; have := HNR.out; omega)); have hqf := blk_frozen HH2.out.q nn; have HH3 := Aside0.mk (HH2.out.setq nn (wrap64 (nb.getD nn 0 + 1))); clear hb2 hbx2)
          have HJ8 := Aside0.mk (show x.f6.length ≤ 9223372036854775807 from HK.out.2.1)
          go_loopg [57] x.f6.length (fun k2 v57 wi => ∃ (j : Nat) (ps2 : List Int), v57 = .int .i64 (j : Int) ∧ j + k2 = x.f6.length ∧ Aside0 (Held w wi (some ad) c ns.length g ps2 (nb.set nn (wrap64 (nb.getD nn 0 + 1)))) ∧ Aside0 (kidsGo i (x.f6.drop j) ps2 = kidsGo i x.f6 ps))
          case atStart => exact ⟨0, ps, rfl, by omega, ⟨HH3.out⟩, ⟨rfl⟩⟩
          case round =>
            obtain ⟨j, ps2, rfl, hjk, HI, HKG⟩ := hrel
            by_cases hj : j < x.f6.length
            · obtain ⟨ad8, rfl, hcw⟩ := (Kd.reads_of_C (enc := Value.int .i64) (d := (0 : Int)) (h1 := fun _ => rfl) (Kd.C_below HK.out HI.out.b)).2.2 (by omega)
              have hcell := hcw j hj
              clear hcw
              have hltj : decide ((j : Int) < (x.f6.length : Int)) = true := decide_eq_true (by omega)
              have pj0 : (0 ≤ (j : Int)) = True := eq_true (by omega)
              have pj1 : ((j : Int) < (x.f6.length : Int)) = True := eq_true (by omega)
              have HXD := Aside0.mk (show x.f6.drop j = x.f6.getD j 0 :: x.f6.drop (j + 1) by
                rw [List.drop_eq_getElem_cons hj, List.getD_eq_getElem?_getD, List.getElem?_eq_getElem hj]
                rfl)
              obtain ⟨k2', rfl⟩ : ∃ k2', gk = k2' + 1 := ⟨gk - 1, by omega⟩
              generalize x.f6.getD j 0 = kid at hcell HXD
              by_cases k0 : kid < 0
              · have dk0 : decide (kid < 0) = true := decide_eq_true k0
                have HE2 := Aside0.mk (show rightL ns g = false by
                  have := HKG.out
                  rw [HXD.out, kidsGo, if_pos k0] at this
                  rw [← HA.out, HX.out, rightGo, if_pos HNO.out, ← this])
                clear k0
                go_wp2
                go_ret
                exact ⟨by rw [HE2.out]; rfl, HI.out.b⟩
              · have dk0 : decide (kid < 0) = false := decide_eq_false k0
                by_cases k1 : (i : Int) ≤ kid
                · have dk1 : decide ((i : Int) ≤ kid) = true := decide_eq_true k1
                  have HE2 := Aside0.mk (show rightL ns g = false by
                    have := HKG.out
                    rw [HXD.out, kidsGo, if_neg k0, if_pos k1] at this
                    rw [← HA.out, HX.out, rightGo, if_pos HNO.out, ← this])
                  clear k0 k1
                  go_wp2
                  go_ret
                  exact ⟨by rw [HE2.out]; rfl, HI.out.b⟩
                · have dk1 : decide ((i : Int) ≤ kid) = false := decide_eq_false k1
                  have HKK := Aside0.mk (show kidsGo i (x.f6.drop (j + 1)) (ps2.set kid.toNat (wrap64 (ps2.getD kid.toNat 0 + 1))) = kidsGo i x.f6 ps by
                    have := HKG.out
                    rwa [HXD.out, kidsGo, if_neg k0, if_neg k1] at this)
                  obtain ⟨kn, rfl⟩ := Int.eq_ofNat_of_zero_le (show 0 ≤ kid by omega)
                  have dk1n : decide (i ≤ kn) = false := decide_eq_false (by omega)
                  have dk1p : (i ≤ kn) = False := eq_false (by omega)
                  have q0 : (0 ≤ (kn : Int)) = True := eq_true (by omega)
                  have q1n : (kn < ns.length) = True := eq_true (by omega)
                  have q1 : ((kn : Int) < (ns.length : Int)) = True := eq_true (by omega)
                  have hpc := (cell_blk HI.out.p kn).trans (ints_at ps2 kn (by have := HI.out.lp; omega))
                  have hpf := blk_frozen HI.out.p kn
                  simp only [Int.toNat_natCast] at HKK
                  generalize ps2.getD kn 0 = pv at hpc HKK
                  clear k0 k1
                  go_wp2
                  go_roundg k2'
                  case measure => omega
                  case rel =>
                    refine ⟨j + 1, ps2.set kn (wrap64 (pv + 1)), by rw [w64' _ (by omega) (by have := HL8.out; have := HJ8.out; omega)]; simp, by omega, ⟨HI.out.setp kn _⟩, ⟨HKK.out⟩⟩
            · have hltj : decide ((j : Int) < (x.f6.length : Int)) = false := decide_eq_false (by omega)
              have HKS := Aside0.mk (show kidsGo i x.f6 ps = some ps2 by
                have := HKG.out
                rw [List.drop_eq_nil_of_le (by omega), kidsGo] at this
                exact this.symm)
              go_wp2
              go_roundg k'
              case measure => omega
              case rel =>
                refine ⟨i + 1, ps2, nb.set nn (wrap64 (nb.getD nn 0 + 1)), by have := HN.out; rw [w64' _ (by omega) (by omega)]; simp, by omega, ⟨HI.out⟩, ⟨?_⟩⟩
                have := HA.out
                rw [HX.out, rightGo, if_pos HNO.out, HKS.out] at this
                rw [show numGo x nb = nb.set nn (wrap64 (nb.getD nn 0 + 1)) by rw [numGo, if_pos H7.out, HNN.out]; rfl] at this
                exact this
        · have q7 : (x.f0 == 7) = false := beq_eq_false_iff_ne.mpr h7
          have q7b : decide (x.f0 = 7) = false := decide_eq_false h7
          go_wp2_with (go_at_call 68; refine (tright_walk x.f0 x.f1 x.f2.f0 true A3 A4 A8 _ c3 _ c4 _ c8 x.f3 x.f4 x.f5 g _ HSV2.out).mono ?_; rintro e w2 ⟨rfl, hb2⟩; rw [HN2.out]; have hbx2 := (hb2.block _ (by simp)).trans (heap_alloc_new wr _); have u0 := cell_blk hbx2 0; have u8 := cell_blk hbx2 8; simp only [List.getElem?_toArray, List.getElem?_cons_zero, List.getElem?_cons_succ] at u0 u8; have HH2 := Aside0.mk (HH.out.next (((Below.refl _ wr).alloc (Nat.le_refl _) _).trans (hb2.mono (by simp)))); clear hb2 hbx2)
          have HJ8 := Aside0.mk (show x.f6.length ≤ 9223372036854775807 from HK.out.2.1)
          go_loopg [57] x.f6.length (fun k2 v57 wi => ∃ (j : Nat) (ps2 : List Int), v57 = .int .i64 (j : Int) ∧ j + k2 = x.f6.length ∧ Aside0 (Held w wi (some ad) c ns.length g ps2 nb) ∧ Aside0 (kidsGo i (x.f6.drop j) ps2 = kidsGo i x.f6 ps))
          case atStart => exact ⟨0, ps, rfl, by omega, ⟨HH2.out⟩, ⟨rfl⟩⟩
          case round =>
            obtain ⟨j, ps2, rfl, hjk, HI, HKG⟩ := hrel
            by_cases hj : j < x.f6.length
            · obtain ⟨ad8, rfl, hcw⟩ := (Kd.reads_of_C (enc := Value.int .i64) (d := (0 : Int)) (h1 := fun _ => rfl) (Kd.C_below HK.out HI.out.b)).2.2 (by omega)
              have hcell := hcw j hj
              clear hcw
              have hltj : decide ((j : Int) < (x.f6.length : Int)) = true := decide_eq_true (by omega)
              have pj0 : (0 ≤ (j : Int)) = True := eq_true (by omega)
              have pj1 : ((j : Int) < (x.f6.length : Int)) = True := eq_true (by omega)
              have HXD := Aside0.mk (show x.f6.drop j = x.f6.getD j 0 :: x.f6.drop (j + 1) by
                rw [List.drop_eq_getElem_cons hj, List.getD_eq_getElem?_getD, List.getElem?_eq_getElem hj]
                rfl)
              obtain ⟨k2', rfl⟩ : ∃ k2', gk = k2' + 1 := ⟨gk - 1, by omega⟩
              generalize x.f6.getD j 0 = kid at hcell HXD
              by_cases k0 : kid < 0
              · have dk0 : decide (kid < 0) = true := decide_eq_true k0
                have HE2 := Aside0.mk (show rightL ns g = false by
                  have := HKG.out
                  rw [HXD.out, kidsGo, if_pos k0] at this
                  rw [← HA.out, HX.out, rightGo, if_pos HNO.out, ← this])
                clear k0
                go_wp2
                go_ret
                exact ⟨by rw [HE2.out]; rfl, HI.out.b⟩
              · have dk0 : decide (kid < 0) = false := decide_eq_false k0
                by_cases k1 : (i : Int) ≤ kid
                · have dk1 : decide ((i : Int) ≤ kid) = true := decide_eq_true k1
                  have HE2 := Aside0.mk (show rightL ns g = false by
                    have := HKG.out
                    rw [HXD.out, kidsGo, if_neg k0, if_pos k1] at this
                    rw [← HA.out, HX.out, rightGo, if_pos HNO.out, ← this])
                  clear k0 k1
                  go_wp2
                  go_ret
                  exact ⟨by rw [HE2.out]; rfl, HI.out.b⟩
                · have dk1 : decide ((i : Int) ≤ kid) = false := decide_eq_false k1
                  have HKK := Aside0.mk (show kidsGo i (x.f6.drop (j + 1)) (ps2.set kid.toNat (wrap64 (ps2.getD kid.toNat 0 + 1))) = kidsGo i x.f6 ps by
                    have := HKG.out
                    rwa [HXD.out, kidsGo, if_neg k0, if_neg k1] at this)
                  obtain ⟨kn, rfl⟩ := Int.eq_ofNat_of_zero_le (show 0 ≤ kid by omega)
                  have dk1n : decide (i ≤ kn) = false := decide_eq_false (by omega)
                  have dk1p : (i ≤ kn) = False := eq_false (by omega)
                  have q0 : (0 ≤ (kn : Int)) = True := eq_true (by omega)
                  have q1n : (kn < ns.length) = True := eq_true (by omega)
                  have q1 : ((kn : Int) < (ns.length : Int)) = True := eq_true (by omega)
                  have hpc := (cell_blk HI.out.p kn).trans (ints_at ps2 kn (by have := HI.out.lp; omega))
                  have hpf := blk_frozen HI.out.p kn
                  simp only [Int.toNat_natCast] at HKK
                  generalize ps2.getD kn 0 = pv at hpc HKK
                  clear k0 k1
                  go_wp2
                  go_roundg k2'
                  case measure => omega
                  case rel =>
                    refine ⟨j + 1, ps2.set kn (wrap64 (pv + 1)), by rw [w64' _ (by omega) (by have := HL8.out; have := HJ8.out; omega)]; simp, by omega, ⟨HI.out.setp kn _⟩, ⟨HKK.out⟩⟩
            · have hltj : decide ((j : Int) < (x.f6.length : Int)) = false := decide_eq_false (by omega)
              have HKS := Aside0.mk (show kidsGo i x.f6 ps = some ps2 by
                have := HKG.out
                rw [List.drop_eq_nil_of_le (by omega), kidsGo] at this
                exact this.symm)
              go_wp2
              go_roundg k'
              case measure => omega
              case rel =>
                refine ⟨i + 1, ps2, nb, by have := HN.out; rw [w64' _ (by omega) (by omega)]; simp, by omega, ⟨HI.out⟩, ⟨?_⟩⟩
                have := HA.out
                rw [HX.out, rightGo, if_pos HNO.out, HKS.out] at this
                simp only [numGo, if_neg h7] at this
                exact this
    · have hlt : decide ((i : Int) < (ns.length : Int)) = false := decide_eq_false (by omega)
      obtain ⟨gn, rfl⟩ := Int.eq_ofNat_of_zero_le HG.out.1
      obtain ⟨m, hm⟩ : ∃ m, m = ns.length - 1 := ⟨_, rfl⟩
      obtain ⟨g1, hg1⟩ : ∃ g1, g1 = gn + 1 := ⟨_, rfl⟩
      have HMM := Aside0.mk hm
      have HG1 := Aside0.mk hg1
      have HEND := Aside0.mk (show rightL ns gn = rightEnd gn ps nb by rw [← HA.out, List.drop_eq_nil_of_le (by omega), rightGo])
      have hwm : wrap64 ((ns.length : Int) - 1) = (m : Int) := by rw [w64' _ (by omega) (by have := HN.out; omega)]; have := HN.out; omega
      have hwg : wrap64 ((gn : Int) + 1) = (g1 : Int) := by rw [w64' _ (by omega) (by have := HG.out; omega)]; omega
      have pm1 : (m ≤ ns.length) = True := eq_true (by omega)
      have pg1 : (1 ≤ g1) = True := eq_true (by omega)
      have pg2 : (g1 ≤ 10) = True := eq_true (by have := HG.out; omega)
      have t1 := cell_blk HH.out.x 1
      simp only [List.getElem?_toArray, List.getElem?_cons_zero, List.getElem?_cons_succ] at t1
      have t1b : ∀ o : Obj, (wr.alloc o).cell? ⟨w.heap.size, 1, none⟩ = some (.int .i64 gn) := fun o => (Below.cell ((Below.refl _ wr).alloc (Nat.le_refl _) o) (p := ⟨w.heap.size, 1, none⟩) (by show w.heap.size < wr.heap.size; have := HH.out.z; omega)).trans t1
      have HHB := Aside0.mk (HH.out.next (wr' := wr.alloc (.cells #[.func (.func 69) #[] #[]] 102)) ((Below.refl _ wr).alloc (Nat.le_refl _) _))
      have HBX := Aside0.mk (show (wr.alloc (.cells #[.func (.func 69) #[] #[]] 102)).cell? ⟨wr.heap.size, 0, none⟩ = some (.func (.func 69) #[] #[]) from cell_blk (heap_alloc_new wr _) 0)
      have HC1 := Aside0.mk (show Kd.C (Kd.int .i64) (wr.alloc (.cells #[.func (.func 69) #[] #[]] 102)) (some ⟨w.heap.size + 1, 0, none⟩) m (ps.take m) from by
        have := C_blk HHB.out.p 0 m (by have := HHB.out.lp; omega) (by have := HN.out; omega)
        rwa [List.drop_zero] at this)
      have HC2 := Aside0.mk (C_blk HHB.out.q 1 gn (by have := HHB.out.lq; have := HG.out; omega) (by have := HG.out; omega))
      have HL1 := Aside0.mk (show (ps.take m).length = m by rw [List.length_take]; have := HHB.out.lp; omega)
      have HL2 := Aside0.mk (show ((nb.drop 1).take gn).length = gn by rw [List.length_take, List.length_drop]; have := HHB.out.lq; have := HG.out; omega)
      have HPS := Aside0.mk (show ps.length - 1 = m by have := HHB.out.lp; omega)
      have hsl := fun W : World => slice_num W (w.heap.size + 1 + 1) gn g1 hg1 (by have := HG.out; omega)
      clear hm hg1
      cases q1 : (ps.take m).any fun x => !(x == 1)
      · cases q2 : ((nb.drop 1).take gn).any fun x => !(x == 1)
        · have HE3 := Aside0.mk (show rightL ns gn = true by rw [HEND.out]; unfold rightEnd; rw [HPS.out, Int.toNat_natCast, q1, q2]; rfl)
          go_wp2_with (first | (go_at_call 70; with_reducible refine (contains_at 71 Tryd.f71 wr.heap.size (asks71 _) _ m _ (ps.take m) HL1.out _ HC1.out (by have := HN.out; have := HMM.out; omega) HBX.out).mono ?_; rintro e w' ⟨rfl, rfl⟩; rw [q1]) | (go_at_call 70; with_reducible refine (contains_at 72 Tryd.f72 wr.heap.size (asks72 _) _ _ _ ((nb.drop 1).take gn) HL2.out _ HC2.out (by have := HG.out; omega) HBX.out).mono ?_; rintro e w' ⟨rfl, rfl⟩; rw [q2]))
          go_ret
          exact ⟨by rw [HE3.out]; rfl, HHB.out.b⟩
        · have HE3 := Aside0.mk (show rightL ns gn = false by rw [HEND.out]; unfold rightEnd; rw [HPS.out, Int.toNat_natCast, q1, q2]; rfl)
          go_wp2_with (first | (go_at_call 70; with_reducible refine (contains_at 71 Tryd.f71 wr.heap.size (asks71 _) _ m _ (ps.take m) HL1.out _ HC1.out (by have := HN.out; have := HMM.out; omega) HBX.out).mono ?_; rintro e w' ⟨rfl, rfl⟩; rw [q1]) | (go_at_call 70; with_reducible refine (contains_at 72 Tryd.f72 wr.heap.size (asks72 _) _ _ _ ((nb.drop 1).take gn) HL2.out _ HC2.out (by have := HG.out; omega) HBX.out).mono ?_; rintro e w' ⟨rfl, rfl⟩; rw [q2]))
          go_ret
          exact ⟨by rw [HE3.out]; rfl, HHB.out.b⟩
      · have HE3 := Aside0.mk (show rightL ns gn = false by rw [HEND.out]; unfold rightEnd; rw [HPS.out, q1]; rfl)
        go_wp2_with (first | (go_at_call 70; with_reducible refine (contains_at 71 Tryd.f71 wr.heap.size (asks71 _) _ m _ (ps.take m) HL1.out _ HC1.out (by have := HN.out; have := HMM.out; omega) HBX.out).mono ?_; rintro e w' ⟨rfl, rfl⟩; rw [q1]) | (go_at_call 70; with_reducible refine (contains_at 72 Tryd.f72 wr.heap.size (asks72 _) _ _ _ ((nb.drop 1).take gn) HL2.out _ HC2.out (by have := HG.out; omega) HBX.out).mono ?_; rintro e w' ⟨rfl, rfl⟩; rw [q2]))
        go_ret
        exact ⟨by rw [HE3.out]; rfl, HHB.out.b⟩
end Go.Proofs.YtcppmghhijffpaaDoorW.PrintMore
