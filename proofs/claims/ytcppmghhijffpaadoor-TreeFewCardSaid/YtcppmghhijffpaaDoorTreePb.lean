import Derived.Test.YtcppmghhijffpaaDoorTreeTree
import Derived.Test.YtcppmghhijffpaaDoorText
/-! strings.Builder inside tree's printer (four cells: the builder's two, the tree's two). -/
namespace Go.Proofs.YtcppmghhijffpaaDoorW.PrintMore
open Go.RowKit Go.Proofs.YtcppmghhijffpaaDoorW.PrintWords Go.Proofs.YtcppmghhijffpaaDoorW.PrintLast Go.Proofs.YtcppmghhijffpaaDoor.X
set_option linter.unusedSimpArgs false
set_option linter.unusedVariables false
theorem pb_lies : liesAt Tryd.prog Tryd.prog.depth 123 (4 / Tryd.prog.cellsOf 123) 0 87 1 = true := by kernel_rfl
/-- A printer that was written to (or not yet). -/
def PBat (p : Value) (B b : Nat) (tv : Value) (g : Int) (bs : List Value) (w : World) : Prop := B ≤ b ∧ ∃ v, w.heap[b]? = some (.cells #[p, v, tv, .int .i64 g] 123 (0, 0)) ∧ w.ownsRow B 5 1 v bs.length bs
def PB (B b : Nat) (tv : Value) (g : Int) (bs : List Value) (w : World) : Prop := PBat (.pointer none) B b tv g bs w ∨ PBat (.pointer (some ⟨b, 0, none⟩)) B b tv g bs w
theorem PBat.keep {p : Value} {B b : Nat} {tv : Value} {g : Int} {bs : List Value} {w w' : World} (h : PBat p B b tv g bs w) (hb : Below w.heap.size w w') : PBat p B b tv g bs w' := by
  obtain ⟨h1, v, h2, h3⟩ := h
  exact ⟨h1, v, (hb.block _ (lt_of_block h2)).trans h2, own_keep h3 (fun q _ hq => hb.block q hq)⟩
theorem PB.keep {B b : Nat} {tv : Value} {g : Int} {bs : List Value} {w w' : World} (h : PB B b tv g bs w) (hb : Below w.heap.size w w') : PB B b tv g bs w' := h.imp (fun h => h.keep hb) (fun h => h.keep hb)
theorem PB.lt {B b : Nat} {tv : Value} {g : Int} {bs : List Value} {w : World} (h : PB B b tv g bs w) : b < w.heap.size := by
  rcases h with ⟨_, v, h, _⟩ | ⟨_, v, h, _⟩ <;> exact lt_of_block h
theorem PB.tree {B b : Nat} {tv : Value} {g : Int} {bs : List Value} {w : World} (h : PB B b tv g bs w) : w.cell? ⟨b, 2, none⟩ = some tv := by
  rcases h with ⟨_, v, h, _⟩ | ⟨_, v, h, _⟩ <;> exact cell_blk h 2
/-- Blocks that are no printer's and no bytes stay. -/
def Fr (w w' : World) : Prop := ∀ (q : Nat) (cs : Array Value) (t : TypeId), t ≠ 5 → t ≠ 123 → w.heap[q]? = some (.cells cs t (0, 0)) → w'.heap[q]? = some (.cells cs t (0, 0))
theorem Fr.refl (w : World) : Fr w w := fun _ _ _ _ _ h => h
theorem Fr.trans {a b c : World} (h : Fr a b) (k : Fr b c) : Fr a c := fun q cs t h5 h1 hq => k q cs t h5 h1 (h q cs t h5 h1 hq)
theorem Fr.below {w w' : World} (h : Below w.heap.size w w') : Fr w w' := fun q cs t _ _ hq => (h.block q (lt_of_block hq)).trans hq
theorem Fr.setRow {w : World} {b : Nat} {cs0 : Array Value} (h : w.heap[b]? = some (.cells cs0 123 (0, 0))) (cs : Array Value) : Fr w (w.setRow b cs) := fun q cs' t _ h1 hq => (setRow_other w b q cs (fun he => by
  subst he
  rw [h] at hq
  injection hq with hq
  injection hq with _ h2 _
  exact h1 h2.symm)).trans hq
theorem Fr.grown {w w' : World} {B n : Nat} {v : Value} {xs : List Value} (hown : w.ownsRow B 5 1 v n xs) (hg : w.grownBy w' v.ownBlock) : Fr w w' := fun q cs t h5 _ hq => (hg.block q (lt_of_block hq) (own_not hown hq (fun he => h5 he.symm))).trans hq
set_option maxHeartbeats 4000000 in
set_option maxRecDepth 100000 in
theorem pb_check (B b : Nat) (tv : Value) (g : Int) (bs : List Value) (w : World) (h : PB B b tv g bs w) :
    Calls Tryd.prog 86 #[.pointer (some ⟨b, 0, none⟩)] w fun e w' => e = .returned (.tuple #[]) ∧ PBat (.pointer (some ⟨b, 0, none⟩)) B b tv g bs w' ∧ Below B w w' ∧ Fr w w' := by
  obtain ⟨j, hj, hjs⟩ := Option.map_eq_some_iff.1 bld_size
  rcases h with ⟨hB, v, hb, hown⟩ | h
  · have h0 := cell_blk hb 0
    simp only [List.getElem?_toArray, List.getElem?_cons_zero, List.getElem?_cons_succ] at h0
    have hz := blk_frozen hb 0
    have hs : w.shape? b = some (123, 4) := by simp [World.shape?, hb]
    have H := Aside0.mk (And.intro hb hown)
    clear hb hown
    go_enter Tryd.func86, Tryd.ntmps86
    go_wp2
    rw [Lib.run_to_unsafe w ⟨b, 0, none⟩ Tryd.underlying85 Tryd.underlying135 hj (by rw [hjs]; decide) hs (Nat.zero_lt_succ 3)]
    simp only [Result.andThen]
    rw [Oper.upon_value]
    go_wp2
    rw [run_callFunc_extern Tryd.func100 (by kernel_rfl) (by kernel_rfl) (by kernel_rfl) (e := Extern.AbiNoEscape.same) (by kernel_rfl), Lib.run_noEscape]
    simp only [Result.andThen]
    rw [Oper.upon_value]
    go_wp2
    rw [Lib.run_from_unsafe w ⟨b, 0, none⟩ Tryd.underlying135 Tryd.underlying85 hj hs pb_lies]
    simp only [Result.andThen]
    rw [Oper.upon_value]
    go_wp2
    go_end0
    have e : w.setCell ⟨b, 0, none⟩ (.pointer (some ⟨b, 0, none⟩)) = w.setRow b #[.pointer (some ⟨b, 0, none⟩), v, tv, .int .i64 g] := by
      rw [setCell_eq_setRow w _ 0 _ _ _ _ H.out.1]
      rfl
    rw [e]
    exact ⟨rfl, ⟨hB, v, setRow_heap w _ _ _ _ _ H.out.1, own_row_other H.out.2 (own_not H.out.2 H.out.1 (by decide)) _⟩, below_setRow (Below.refl B w) hB _, Fr.setRow H.out.1 _⟩
  · have H := Aside0.mk h
    obtain ⟨hB, v, hb, hown⟩ := h
    have h0 := cell_blk hb 0
    simp only [List.getElem?_toArray, List.getElem?_cons_zero, List.getElem?_cons_succ] at h0
    clear hb hown
    go_enter Tryd.func86, Tryd.ntmps86
    go_wp2
    rw [Lib.run_neq_ptr_same w _ Tryd.underlying85 hj]
    go_wp2
    go_end0
    exact ⟨rfl, H.out, Below.refl B _, Fr.refl _⟩
set_option maxHeartbeats 2000000 in
set_option maxRecDepth 100000 in
theorem pb_string (B b : Nat) (tv : Value) (g : Int) (bs : List Value) (s : ByteArray) (w : World) (h : PB B b tv g bs w) (hlen : bs.length + s.size ≤ 140737488355328) (hBw : B ≤ w.heap.size) :
    Calls Tryd.prog 60 #[.pointer (some ⟨b, 0, none⟩), .string s] w fun e w' => e = .returned (.tuple #[.int .i64 s.size, .nilIface]) ∧ PB B b tv g (bs ++ Lib.strCells s) w' ∧ Below B w w' ∧ Fr w w' := by
  obtain ⟨i0, hi, hz0, hz1, hz2⟩ := info_parts bld_byte
  go_enter Tryd.func60, Tryd.ntmps60
  go_wp2_with (go_at_call 86; refine (pb_check B b tv g bs _ h).mono ?_)
  rintro e w1 ⟨rfl, h1, hb1, hf1⟩
  obtain ⟨hB, v, hbk, hown⟩ := h1
  have hne := own_not hown hbk (by decide)
  have HF1 := Aside0.mk hf1
  clear hf1
  have c1 := cell_blk hbk 1
  simp only [List.getElem?_toArray, List.getElem?_cons_zero, List.getElem?_cons_succ] at c1
  have hsz := hb1.size
  go_wp2_with (at_builtin; refine Lib.wpList_append_own_string _ rfl _ _ 22 9 rfl B 5 i0 Tryd.underlying22 Tryd.underlying9 hi hz0 hz1 hz2 _ _ _ rfl hown s rfl ?c3 ?c4 ?c5 ?_)
  case c3 => unfold maxLen; omega
  case c4 => omega
  case c5 => omega
  intro v' w2 hown' hgrow _
  have HF2 := Aside0.mk (HF1.out.trans (Fr.grown hown hgrow))
  have hlt : b < w1.heap.size := lt_of_block hbk
  have hb2 : w2.heap[b]? = some (.cells #[.pointer (some ⟨b, 0, none⟩), v, tv, .int .i64 g] 123 (0, 0)) := by
    rw [hgrow.block b hlt hne]
    exact hbk
  have d1 := cell_blk hb2 1
  simp only [List.getElem?_toArray, List.getElem?_cons_zero, List.getElem?_cons_succ] at d1
  have f1 := blk_frozen hb2 1
  obtain ⟨ao, cap, rfl⟩ := own_slice hown'
  go_wp2
  go_ret2
  have e : w2.setCell ⟨b, 1, none⟩ (.slice ao (bs.length + s.size) cap) = w2.setRow b #[.pointer (some ⟨b, 0, none⟩), .slice ao (bs.length + s.size) cap, tv, .int .i64 g] := by
    rw [setCell_eq_setRow w2 _ 1 _ _ _ _ hb2]
    rfl
  rw [e]
  refine ⟨by simp, Or.inr ⟨hB, _, setRow_heap w2 _ _ _ _ _ hb2, ?_⟩, below_setRow (hb1.grown hgrow (by omega) (fun k hk => (hown.lt k hk).1)) hB _, HF2.out.trans (Fr.setRow hb2 _)⟩
  have h5 := own_row_other hown' (own_not hown' hb2 (by decide)) #[.pointer (some ⟨b, 0, none⟩), .slice ao (bs.length + s.size) cap, tv, .int .i64 g]
  simpa [Lib.strCells] using h5
set_option maxHeartbeats 2000000 in
set_option maxRecDepth 100000 in
theorem pb_byte (B b : Nat) (tv : Value) (g : Int) (bs : List Value) (c : Int) (w : World) (h : PB B b tv g bs w) (hlen : bs.length + 1 ≤ 140737488355328) (hBw : B ≤ w.heap.size) :
    Calls Tryd.prog 62 #[.pointer (some ⟨b, 0, none⟩), .int .u8 c] w fun e w' => e = .returned .nilIface ∧ PB B b tv g (bs ++ [.int .u8 c]) w' ∧ Below B w w' ∧ Fr w w' := by
  obtain ⟨i0, hi, hz0, hz1, hz2⟩ := info_parts bld_byte
  go_enter Tryd.func62, Tryd.ntmps62
  go_wp2_with (go_at_call 86; refine (pb_check B b tv g bs _ h).mono ?_)
  rintro e w1 ⟨rfl, h1, hb1, hf1⟩
  obtain ⟨hB, v, hbk, hown⟩ := h1
  have hne := own_not hown hbk (by decide)
  have HF1 := Aside0.mk hf1
  clear hf1
  have c1 := cell_blk hbk 1
  simp only [List.getElem?_toArray, List.getElem?_cons_zero, List.getElem?_cons_succ] at c1
  have hsz := hb1.size
  go_wp2_with (at_builtin; refine wpList_append_own _ rfl _ _ 22 rfl B 5 i0 (.int .u8 0) 1 1 Tryd.underlying22 hi hz0 hz1 hz2 rfl (by decide) _ _ _ rfl (hown.alloc _) ⟨w1.heap.size, 0, none⟩ 1 1 [.int .u8 c] rfl rfl ?c1 ?c2 ?c3 ?c4 ?c5 ?_)
  case c1 =>
    intro j u hj
    match j, hj with
    | 0, hj => simp at hj; subst hj; simp [Addr.add]
  case c2 => intro u hu; simp at hu; subst hu; rfl
  case c3 => unfold maxLen; omega
  case c4 => omega
  case c5 => simp; omega
  intro v' w2 hown' hgrow _
  have HF2 := Aside0.mk (HF1.out.trans ((Fr.below (below_alloc (Below.refl _ w1) (.cells #[.int .u8 c] 5))).trans (Fr.grown (hown.alloc _) hgrow)))
  have hlt : b < w1.heap.size := lt_of_block hbk
  have hb2 : w2.heap[b]? = some (.cells #[.pointer (some ⟨b, 0, none⟩), v, tv, .int .i64 g] 123 (0, 0)) := by
    rw [hgrow.block b (by simp; omega) hne, Lib.alloc_old w1 _ b hlt]
    exact hbk
  have d1 := cell_blk hb2 1
  simp only [List.getElem?_toArray, List.getElem?_cons_zero, List.getElem?_cons_succ] at d1
  have f1 := blk_frozen hb2 1
  obtain ⟨ao, cap, rfl⟩ := own_slice hown'
  go_wp2
  go_ret
  have e : w2.setCell ⟨b, 1, none⟩ (.slice ao (bs.length + 1) cap) = w2.setRow b #[.pointer (some ⟨b, 0, none⟩), .slice ao (bs.length + 1) cap, tv, .int .i64 g] := by
    rw [setCell_eq_setRow w2 _ 1 _ _ _ _ hb2]
    rfl
  rw [e]
  refine ⟨rfl, Or.inr ⟨hB, _, setRow_heap w2 _ _ _ _ _ hb2, ?_⟩, below_setRow ((hb1.alloc (by omega) _).grown hgrow (by simp; omega) (fun k hk => (hown.lt k hk).1)) hB _, HF2.out.trans (Fr.setRow hb2 _)⟩
  have h5 := own_row_other hown' (own_not hown' hb2 (by decide)) #[.pointer (some ⟨b, 0, none⟩), .slice ao (bs.length + 1) cap, tv, .int .i64 g]
  simpa using h5
theorem byte_cells : Tryd.prog.cellsOf 5 = 1 := by kernel_rfl
set_option maxHeartbeats 2000000 in
set_option maxRecDepth 100000 in
theorem pb_done (B b : Nat) (tv : Value) (g : Int) (l : List UInt8) (w : World) (h : PB B b tv g (Lib.byteCells l) w) (h0 : l ≠ []) :
    Calls Tryd.prog 63 #[.pointer (some ⟨b, 0, none⟩)] w fun e w' => e = .returned (.string ⟨l.toArray⟩) ∧ Below B w w' := by
  obtain ⟨p, hB, v, hbk, hown⟩ : ∃ p, PBat p B b tv g (Lib.byteCells l) w := h.elim (fun h => ⟨_, h⟩) (fun h => ⟨_, h⟩)
  have hl0 : l.length ≠ 0 := by simpa using h0
  rw [Lib.byteCells_length] at hown
  obtain ⟨q, cap, cur, rfl, hbg, hg, hnc, hcm, hcs, htake⟩ : ∃ q cap cur, v = .slice (some ⟨q, 0, none⟩) l.length cap ∧ B ≤ q ∧ w.heap[q]? = some (.cells cur 5 (0, 0)) ∧ l.length ≤ cap ∧ cap ≤ maxLen ∧ cur.size = cap * 1 ∧ cur.toList.take (l.length * 1) = Lib.byteCells l := by
    rcases hown.2 with ⟨_, hz⟩ | ⟨q, cap, cur, hv, r⟩
    · exact absurd hz hl0
    · exact ⟨q, cap, cur, hv, r⟩
  have c1 : w.drew.cell? ⟨b, 1, none⟩ = some (.slice (some ⟨q, 0, none⟩) l.length cap) := cell_blk (W := w.drew) hbk 1
  have hSD : (Builtin.unsafeSliceData_ #[22] 118 #[.slice (some ⟨q, 0, none⟩) l.length cap]).run Tryd.prog w.drew = .ok (.pointer (some ⟨q, 0, none⟩)) w.drew :=
    Lib.run_unsafeSliceData_row _ _ _ _ _ _ (by omega)
  have hUS : (Builtin.unsafeString_ #[118, 3] 9 #[.pointer (some ⟨q, 0, none⟩), .int .i64 l.length]).run Tryd.prog w.drew = .ok (.string ⟨l.toArray⟩) (w.drew.freeze ⟨q, 0, none⟩ l.length) := by
    refine Lib.run_unsafeString_row w.drew 118 3 9 5 Tryd.underlying118 byte_cells q cur.size (by have hg' : w.drew.heap[q]? = some (.cells cur 5 (0, 0)) := hg; simp [World.shape?, hg']) l h0 (by omega) (by unfold maxLen at hcm; omega) ?_
    intro j x hx
    have := hown.cells (g := q) rfl j (.int .u8 x.toNat) (by simp [Lib.byteCells, hx])
    exact this
  have mixed : Tryd.prog.follows .mixedOrders = true := by kernel_rfl
  go_enter Tryd.func63, Tryd.ntmps63
  go_wp2
  go_region
  all_goals (go_wp2; go_ret; exact ⟨rfl, Lib.below_freeze (Below.drew (Below.refl B w)) (p := ⟨q, 0, none⟩) hbg _⟩)
end Go.Proofs.YtcppmghhijffpaaDoorW.PrintMore
