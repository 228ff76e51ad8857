import Derived.Test.YtcppmghhijffpaaDoorTreeLeaf
/-! (*tree.Builder).Tree. -/
namespace Go.Proofs.YtcppmghhijffpaaDoorW.PrintMore
open Go.RowKit Go.Proofs.YtcppmghhijffpaaDoorW.PrintWords Go.Proofs.YtcppmghhijffpaaDoorW.PrintLast Go.Proofs.YtcppmghhijffpaaDoor.X
set_option linter.unusedSimpArgs false
set_option linter.unusedVariables false
theorem own_form {w : World} {B n s : Nat} {t : TypeId} {v : Value} {xs : List Value} (h : w.ownsRow B t s v n xs) (hn : 0 < n) : ∃ g cap, v = .slice (some ⟨g, 0, none⟩) n cap := by
  rcases h.2 with ⟨_, h0⟩ | ⟨g, cap, cur, hv, _⟩
  · omega
  · exact ⟨_, _, hv⟩
/-- A node without set. -/
structure ND where
  k : Int
  c : Int
  nt : Bool
  n : Int
  mn : Int
  mx : Int
  l : List Int
def rowsN : List ND → List Value → List Value
  | d :: ds, v :: vs => nodeC d.k d.c d.nt d.n d.mn d.mx v ++ rowsN ds vs
  | _, _ => []
theorem rowsN_length : ∀ (ds : List ND) (vs : List Value), vs.length = ds.length → (rowsN ds vs).length = ds.length * 9
  | [], [], _ => rfl
  | d :: ds, v :: vs, h => by
    have := rowsN_length ds vs (by simpa using h)
    simp only [rowsN, List.length_append, List.length_cons, this, nodeC, List.length_nil]
    omega
theorem rowsN_at : ∀ (ds : List ND) (vs : List Value) (i : Nat) (d : ND) (v : Value), ds[i]? = some d → vs[i]? = some v → ∀ j, j < 9 → (rowsN ds vs)[i * 9 + j]? = (nodeC d.k d.c d.nt d.n d.mn d.mx v)[j]?
  | d0 :: ds, v0 :: vs, 0, d, v, hd, hv, j, hj => by
    obtain rfl : d0 = d := by simpa using hd
    obtain rfl : v0 = v := by simpa using hv
    rw [rowsN, Nat.zero_mul, Nat.zero_add, List.getElem?_append_left (by simpa [nodeC] using hj)]
  | d0 :: ds, v0 :: vs, i + 1, d, v, hd, hv, j, hj => by
    have := rowsN_at ds vs i d v (by simpa using hd) (by simpa using hv) j hj
    rw [rowsN, List.getElem?_append_right (by simp [nodeC]; omega), ← this]
    congr 1
    simp [nodeC]
    omega
theorem rowsN_set : ∀ (ds : List ND) (vs : List Value) (i : Nat) (v : Value), vs.length = ds.length → (rowsN ds vs).set (i * 9 + 8) v = rowsN ds (vs.set i v)
  | [], [], _, _, _ => rfl
  | d :: ds, v0 :: vs, 0, v, _ => by simp [rowsN, nodeC]
  | d :: ds, v0 :: vs, i + 1, v, h => by
    have := rowsN_set ds vs i v (by simpa using h)
    rw [rowsN, List.set_cons_succ, rowsN, List.set_append_right _ _ (by simp [nodeC]; omega), ← this]
    congr 2
    simp [nodeC]
    omega
theorem rowsN_same : ∀ (ds : List ND) (vs : List Value) (i : Nat) (d : ND) (v : Value) (j : Nat) (u : Value), ds[i]? = some d → vs[i]? = some v → j < 9 → (nodeC d.k d.c d.nt d.n d.mn d.mx v)[j]? = some u → (rowsN ds vs).set (i * 9 + j) u = rowsN ds vs := by
  intro ds vs i d v j u hd hv hj hu
  have h := rowsN_at ds vs i d v hd hv j hj
  rw [hu] at h
  obtain ⟨hlt, he⟩ := List.getElem?_eq_some_iff.1 h
  rw [← he]
  exact List.set_getElem_self hlt
theorem rowsN_one : ∀ (ds : List ND) (vs : List Value), (∀ v ∈ vs, v.oneCell' = true) → ∀ u ∈ rowsN ds vs, u.oneCell' = true
  | [], _, _, u, hu => by simp [rowsN] at hu
  | _ :: _, [], _, u, hu => by simp [rowsN] at hu
  | d :: ds, v :: vs, h, u, hu => by
    rw [rowsN, List.mem_append] at hu
    rcases hu with hu | hu
    · unfold nodeC at hu
      simp only [List.mem_cons, List.not_mem_nil, or_false] at hu
      rcases hu with rfl | rfl | rfl | rfl | rfl | rfl | rfl | rfl | rfl <;> first | rfl | exact h _ (List.mem_cons_self ..)
    · exact rowsN_one ds vs (fun x hx => h x (List.mem_cons_of_mem _ hx)) u hu
/-- The nodes' kids. -/
def KidsN (w : World) (B : Nat) (ds : List ND) (vs : List Value) : Prop := vs.length = ds.length ∧ ∀ (i : Nat) (d : ND) (v : Value), ds[i]? = some d → vs[i]? = some v → w.ownsRow B 3 1 v d.l.length (d.l.map (Value.int .i64)) ∧ d.l.length ≤ 1000
theorem own_one {w : World} {B n s : Nat} {t : TypeId} {v : Value} {xs : List Value} (h : w.ownsRow B t s v n xs) : v.oneCell' = true := by
  obtain ⟨a, c, rfl⟩ := own_slice h
  rfl
theorem KidsN.one {w : World} {B : Nat} {ds : List ND} {vs : List Value} (h : KidsN w B ds vs) : ∀ v ∈ vs, v.oneCell' = true := by
  intro v hv
  obtain ⟨i, hi, rfl⟩ := List.mem_iff_getElem.1 hv
  exact own_one (h.2 i _ _ (List.getElem?_eq_getElem (by rw [← h.1]; exact hi)) (List.getElem?_eq_getElem hi)).1
theorem own_kids {w : World} {B : Nat} {v : Value} {l : List Int} (h : w.ownsRow B 3 1 v l.length (l.map (Value.int .i64))) (hl : l.length ≤ 1000) : KidsIn w v l := by
  rcases h.2 with ⟨hv, h0⟩ | ⟨g, cap, cur, hv, hr⟩
  · exact Or.inl ⟨hv, List.eq_nil_of_length_eq_zero h0⟩
  · exact Or.inr ⟨⟨g, 0, none⟩, cap, hv, hl, h.cells (g := g) (by rw [hv]; rfl)⟩
theorem KidsN.set {w : World} {B : Nat} {ds : List ND} {us : List Value} {i : Nat} {d : ND} {v : Value} (h : KidsN w B ds us) (hd : ds[i]? = some d) (hv : w.ownsRow B 3 1 v d.l.length (d.l.map (Value.int .i64))) (hl : d.l.length ≤ 1000) : KidsN w B ds (us.set i v) := by
  refine ⟨by rw [List.length_set]; exact h.1, fun j d' v' hd' hv' => ?_⟩
  by_cases hij : i = j
  · subst hij
    rw [hd] at hd'
    obtain rfl := Option.some.inj hd'
    have hlt : i < us.length := by
      have := (List.getElem?_eq_some_iff.1 hv').1
      rwa [List.length_set] at this
    rw [List.getElem?_set_self hlt] at hv'
    obtain rfl := Option.some.inj hv'
    exact ⟨hv, hl⟩
  · rw [List.getElem?_set_ne hij] at hv'
    exact h.2 j d' v' hd' hv'
theorem KidsN.keep {w w' : World} {B : Nat} {ds : List ND} {us : List Value} (h : KidsN w B ds us) (hk : ∀ {v : Value} {n : Nat} {xs : List Value}, w.ownsRow B 3 1 v n xs → w'.ownsRow B 3 1 v n xs) : KidsN w' B ds us :=
  ⟨h.1, fun i d v hd hv => ⟨hk (h.2 i d v hd hv).1, (h.2 i d v hd hv).2⟩⟩
/-- What is held between two nodes. -/
structure Inv (w wr : World) (q1 m c1 t3 : Nat) (g : Int) (ds : List ND) (us : List Value) : Prop where
  o : wr.ownsRow (w.heap.size + 1) 60 9 (.slice (some ⟨q1, 0, none⟩) m c1) m (rowsN ds us)
  k : KidsN wr 0 ds us
  b : Below w.heap.size w wr
  t2 : wr.heap[w.heap.size]? = some (.cells #[.slice none 0 0, .int .i64 0] 63 (0, 0))
  t3 : wr.heap[t3]? = some (.cells #[.slice (some ⟨q1, 0, none⟩) m c1, .int .i64 g] 63 (0, 0))
theorem Inv.next {w wr wr' : World} {q1 m c1 t3 : Nat} {g : Int} {ds : List ND} {us : List Value} (h : Inv w wr q1 m c1 t3 g ds us) (hb : Below wr.heap.size wr wr') : Inv w wr' q1 m c1 t3 g ds us :=
  ⟨own_keep h.o (fun q _ hq => hb.block q hq), h.k.keep (fun hv => own_keep hv (fun q _ hq => hb.block q hq)), h.b.trans (hb.mono h.b.size), (hb.block _ (lt_of_block h.t2)).trans h.t2, (hb.block _ (lt_of_block h.t3)).trans h.t3⟩
theorem own_apart {w : World} {B B' n n' s s' : Nat} {t t' : TypeId} {v v' : Value} {xs xs' : List Value} (h : w.ownsRow B t s v n xs) (h' : w.ownsRow B' t' s' v' n' xs') (hne : t ≠ t') (q : Nat) (hq : v'.ownBlock = some q) : v.ownBlock ≠ some q := by
  intro he
  obtain ⟨c, fz, hc⟩ := Lib.ownsRow_kind h q he
  obtain ⟨c', fz', hc'⟩ := Lib.ownsRow_kind h' q hq
  rw [hc] at hc'
  injection hc' with hc'
  injection hc' with _ h2 _
  exact hne h2
theorem Inv.put {w wr : World} {q1 m c1 t3 : Nat} {g : Int} {ds : List ND} {us us' : List Value} (h : Inv w wr q1 m c1 t3 g ds us) (j : Nat) (u : Value) (hr : (rowsN ds us).set j u = rowsN ds us') (hk : KidsN wr 0 ds us') : Inv w (wr.setCell ⟨q1, j, none⟩ u) q1 m c1 t3 g ds us' := by
  have hlt := h.o.lt q1 rfl
  have n3 := own_not h.o h.t3 (by decide)
  refine ⟨?_, hk.keep (fun hv => ownsRow_setCell_other hv (own_apart hv h.o (by decide) q1 rfl) _), h.b.setCell (p := ⟨q1, j, none⟩) (by show w.heap.size ≤ q1; omega) _, ?_, ?_⟩
  · rw [← hr]
    exact (h.o.stored j u).1
  · exact (Below.heap_setCell wr ⟨q1, j, none⟩ _ _ (by show w.heap.size ≠ q1; omega)).trans h.t2
  · exact (Below.heap_setCell wr ⟨q1, j, none⟩ _ _ (fun he => n3 (by rw [he]; rfl))).trans h.t3
set_option maxHeartbeats 16000000 in
set_option maxRecDepth 100000 in
theorem bt_walk (B b : Nat) (bv : Value) (g : Int) (m : Nat) (ds : List ND) (vs : List Value) (w : World) (hb : w.heap[b]? = some (.cells #[bv, .int .i64 g] 110 (0, 0)))
    (hown : w.ownsRow B 60 9 bv m (rowsN ds vs)) (hlen : ds.length = m) (hkids : KidsN w B ds vs) (h0 : 0 < m) (hm : m ≤ 1000) :
    Calls Tryd.prog 52 #[.pointer (some ⟨b, 0, none⟩)] w fun e w' => ∃ A c vs', e = .returned (.agg #[.slice A m c, .int .i64 g]) ∧ w'.ownsRow w.heap.size 60 9 (.slice A m c) m (rowsN ds vs') ∧ KidsN w' 0 ds vs' ∧ Below w.heap.size w w' := by
  obtain ⟨q0, cc, rfl⟩ := own_form hown h0
  have hxl := hown.1
  have hxs := hown.cells (g := q0) rfl
  have hone := rowsN_one ds vs hkids.one
  obtain ⟨ad, had⟩ : ∃ ad : Addr, ad = ⟨q0, 0, none⟩ := ⟨_, rfl⟩
  rw [← had] at hb hxs hown
  have HAD := Aside0.mk had
  clear had
  obtain ⟨xs, hX⟩ : ∃ xs, xs = rowsN ds vs := ⟨_, rfl⟩
  rw [← hX] at hown hxl hxs hone
  have hbb := lt_of_block hb
  have hxs0 : ∀ j u, xs[j]? = some u → (w.alloc (.cells #[.slice none 0 0, .int .i64 0] 63)).drew.cell? (ad.add j) = some u := fun j u hu => (Below.cell ((Below.refl _ w).alloc (Nat.le_refl _) _) (World.block_lt_of_cell? w _ (hxs j u hu))).trans (hxs j u hu)
  have hxs1 : ∀ j u, xs[j]? = some u → ((w.alloc (.cells #[.slice none 0 0, .int .i64 0] 63)).alloc (.cells #[.slice none 0 0, .int .i64 0] 63)).drew.cell? (ad.add j) = some u := fun j u hu => (Below.cell ((Below.refl _ w).alloc (Nat.le_refl _) _ |>.alloc (by simp) _) (World.block_lt_of_cell? w _ (hxs j u hu))).trans (hxs j u hu)
  go_enter Tryd.func52, Tryd.ntmps52
  go_wp2
  rename_i K' ha
  refine start_ (n := 14) (S := fun w' => w'.heap[b]? = some (.cells #[.slice (some ad) m cc, .int .i64 g] 110 (0, 0))) (ds := [13]) #[false, false, false, false, false, false, false, false, false, false, false, false, false, false] (by kernel_rfl) rfl rfl ?hS (fun hHeld => ?_)
  case hS => exact (Below.heap_alloc w _ b hbb).trans hb
  refine pure_ (i := 0) (N := some 6) (v := ?_) (a' := ?_) #[true, false, false, false, false, false, false, false, false, false, false, false, false, false] rfl rfl (by kernel_rfl) (fun _ _ _ h => h) (Or.inl ⟨by rfl, ?_⟩) ?_ ?_
  rotate_left
  · intro w'
    go_simp
    with_reducible rfl
  rotate_left
  · simp only [Act.put, List.setIfInBounds_toArray, List.set_cons_zero, List.set_cons_succ, i64_w, i32_w]
    rfl
  refine pure_ (i := 1) (N := some 7) (v := ?_) (a' := ?_) #[true, true, false, false, false, false, false, false, false, false, false, false, false, false] rfl rfl (by kernel_rfl) (fun _ _ _ h => h) (Or.inl ⟨by rfl, ?_⟩) ?_ ?_
  rotate_left
  · intro w'
    go_simp
    with_reducible rfl
  rotate_left
  · simp only [Act.put, List.setIfInBounds_toArray, List.set_cons_zero, List.set_cons_succ, i64_w, i32_w]
    rfl
  refine pure_ (i := 2) (N := some 8) (v := ?_) (a' := ?_) #[true, true, true, false, false, false, false, false, false, false, false, false, false, false] rfl rfl (by kernel_rfl) (fun _ _ _ h => h) (Or.inl ⟨by rfl, ?_⟩) ?_ ?_
  rotate_left
  · intro w'
    go_simp
    with_reducible rfl
  rotate_left
  · simp only [Act.put, List.setIfInBounds_toArray, List.set_cons_zero, List.set_cons_succ, i64_w, i32_w]
    rfl
  refine pure_ (i := 3) (N := some 9) (v := ?_) (a' := ?_) #[true, true, true, true, false, false, false, false, false, false, false, false, false, false] rfl rfl (by kernel_rfl) (fun _ _ _ h => h) (Or.inl ⟨by rfl, ?_⟩) ?_ ?_
  rotate_left
  · intro w'
    go_simp
    with_reducible rfl
  rotate_left
  · simp only [Act.put, List.setIfInBounds_toArray, List.set_cons_zero, List.set_cons_succ, i64_w, i32_w]
    rfl
  refine take_ (i := 4) (N := some 10) (v := ?_) (a' := ?_) #[true, true, true, true, true, false, false, false, false, false, false, false, false, false] rfl rfl (by kernel_rfl) (fun _ _ _ h => h) (Or.inl ⟨by rfl, ?_⟩) hHeld ?_ ?_
  rotate_left
  · intro w' s0
    have s1 := cell_blk s0 0
    simp only [List.getElem?_toArray, List.getElem?_cons_zero, List.getElem?_cons_succ] at *
    go_simp
    with_reducible rfl
  rotate_left
  · simp only [Act.put, List.setIfInBounds_toArray, List.set_cons_zero, List.set_cons_succ, i64_w, i32_w]
    rfl
  refine pure_ (i := 6) (N := some 12) (v := ?_) (a' := ?_) #[true, true, true, true, true, false, true, false, false, false, false, false, false, false] rfl rfl (by kernel_rfl) (fun _ _ _ h => h) (Or.inl ⟨by rfl, ?_⟩) ?_ ?_
  rotate_left
  · intro w'
    go_simp
    with_reducible rfl
  rotate_left
  · simp only [Act.put, List.setIfInBounds_toArray, List.set_cons_zero, List.set_cons_succ, i64_w, i32_w]
    rfl
  refine pure_ (i := 7) (N := some 13) (v := ?_) (a' := ?_) #[true, true, true, true, true, false, true, true, false, false, false, false, false, false] rfl rfl (by kernel_rfl) (fun _ _ _ h => h) (Or.inl ⟨by rfl, ?_⟩) ?_ ?_
  rotate_left
  · intro w'
    go_simp
    with_reducible rfl
  rotate_left
  · simp only [Act.put, List.setIfInBounds_toArray, List.set_cons_zero, List.set_cons_succ, i64_w, i32_w]
    rfl
  refine pure_ (i := 8) (N := some 14) (v := ?_) (a' := ?_) #[true, true, true, true, true, false, true, true, true, false, false, false, false, false] rfl rfl (by kernel_rfl) (fun _ _ _ h => h) (Or.inl ⟨by rfl, ?_⟩) ?_ ?_
  rotate_left
  · intro w'
    go_simp
    with_reducible rfl
  rotate_left
  · simp only [Act.put, List.setIfInBounds_toArray, List.set_cons_zero, List.set_cons_succ, i64_w, i32_w]
    rfl
  refine pure_ (i := 9) (N := some 15) (v := ?_) (a' := ?_) #[true, true, true, true, true, false, true, true, true, true, false, false, false, false] rfl rfl (by kernel_rfl) (fun _ _ _ h => h) (Or.inl ⟨by rfl, ?_⟩) ?_ ?_
  rotate_left
  · intro w'
    go_simp
    with_reducible rfl
  rotate_left
  · simp only [Act.put, List.setIfInBounds_toArray, List.set_cons_zero, List.set_cons_succ, i64_w, i32_w]
    rfl
  refine take_ (i := 10) (N := some 16) (v := ?_) (a' := ?_) #[true, true, true, true, true, false, true, true, true, true, true, false, false, false] rfl rfl (by kernel_rfl) (fun _ _ _ h => h) (Or.inl ⟨by rfl, ?_⟩) hHeld ?_ ?_
  rotate_left
  · intro w' s0
    have s1 := cell_blk s0 1
    simp only [List.getElem?_toArray, List.getElem?_cons_zero, List.getElem?_cons_succ] at *
    go_simp
    with_reducible rfl
  rotate_left
  · simp only [Act.put, List.setIfInBounds_toArray, List.set_cons_zero, List.set_cons_succ, i64_w, i32_w]
    rfl
  refine join_ (σ := Value × Nat) 1 #[true, true, true, true, true, true, true, true, true, true, true, true, true, false] (fun s => [(11, s.1), (17, .agg #[s.1, .int .i64 g]), (3, .pointer (some ⟨s.2, 0, none⟩))]) (fun s w' => w'.ownsRow (w.heap.size + 1) 60 9 s.1 m xs ∧ w'.heap[s.2]? = some (.cells #[.slice none 0 0, .int .i64 0] 63 (0, 0)) ∧ w.heap.size < s.2 ∧ Below (w.heap.size + 1) (w.alloc (.cells #[.slice none 0 0, .int .i64 0] 63)).drew w') ?cont ?both
  case both =>
    intro hjoin
    refine two_ (i := 5) (j := 12) (Ni := some 11) (Nj := some 3) #[true, true, true, true, true, true, true, true, true, true, true, false, false, false] #[true, true, true, true, true, false, true, true, true, true, true, false, true, false] rfl rfl rfl rfl (by kernel_rfl) (by decide) (by decide) ?_ ?_
    · intro K hK0
      have hK := Aside0.mk hK0
      clear hK0
      refine goes_ Tryd.func80 (by kernel_rfl) rfl #[.slice (some ad) m cc] (by rfl) rfl rfl (by simp [Act.eval]) ?_
      refine (clone_row80 ad m cc xs _ hxl hxs0 hone hm).mono ?_
      rintro e w1 ⟨v1, rfl, hown1, hb1⟩
      obtain ⟨A1, c1, rfl⟩ := own_slice hown1
      refine ⟨_, rfl, ?_⟩
      refine hK.out _ _ ((hb1.block _ (lt_of_block hHeld)).trans hHeld) (fun hHeld => ?_)
      clear hK K
      refine norm_ (a' := ?_) ?_ ?_
      rotate_left
      · show Act.put _ (some 11) _ = _
        simp only [Act.put, List.setIfInBounds_toArray, List.set_cons_zero, List.set_cons_succ, i64_w, i32_w]
        rfl
      refine pure_ (i := 11) (N := some 17) (v := ?_) (a' := ?_) #[true, true, true, true, true, true, true, true, true, true, true, true, false, false] rfl rfl (by kernel_rfl) (fun _ _ _ h => h) (Or.inl ⟨by rfl, ?_⟩) ?_ ?_
      rotate_left
      · intro w'
        go_simp
        with_reducible rfl
      rotate_left
      · simp only [Act.put, List.setIfInBounds_toArray, List.set_cons_zero, List.set_cons_succ, i64_w, i32_w]
        rfl
      refine one_ (i := 12) (N := some 3) #[true, true, true, true, true, true, true, true, true, true, true, true, true, false] rfl rfl (by kernel_rfl) (by decide) ?_
      intro K hK0
      have hK := Aside0.mk hK0
      clear hK0
      refine val_step (by rfl) (by go_simp; exact ⟨rfl, rfl⟩) ?_
      refine hK.out _ _ ((Below.heap_alloc _ _ b (lt_of_block hHeld)).trans hHeld) (fun hHeld => ?_)
      clear hK K
      refine norm_ (a' := ?_) ?_ ?_
      rotate_left
      · show Act.put _ (some 3) _ = _
        simp only [Act.put, List.setIfInBounds_toArray, List.set_cons_zero, List.set_cons_succ, i64_w, i32_w]
        rfl
      refine hjoin (.slice A1 m c1, w1.heap.size) _ ⟨?_, heap_alloc_new w1 _, ?_, ?_⟩
      · exact own_le (hown1.alloc _) (by simp [World.drew])
      · have := hb1.size
        simp [World.drew] at this
        show w.heap.size < w1.heap.size
        omega
      · exact (hb1.mono (by simp [World.drew])).trans ((Below.refl _ w1).alloc (by have := hb1.size; simp [World.drew] at this; omega) _)
    · intro K hK0
      have hK := Aside0.mk hK0
      clear hK0
      refine val_step (by rfl) (by go_simp; exact ⟨rfl, rfl⟩) ?_
      refine hK.out _ _ ((Below.heap_alloc _ _ b (lt_of_block hHeld)).trans hHeld) (fun hHeld => ?_)
      clear hK K
      refine norm_ (a' := ?_) ?_ ?_
      rotate_left
      · show Act.put _ (some 3) _ = _
        simp only [Act.put, List.setIfInBounds_toArray, List.set_cons_zero, List.set_cons_succ, i64_w, i32_w]
        rfl
      refine one_ (i := 5) (N := some 11) #[true, true, true, true, true, true, true, true, true, true, true, false, true, false] rfl rfl (by kernel_rfl) (by decide) ?_
      intro K hK0
      have hK := Aside0.mk hK0
      clear hK0
      refine goes_ Tryd.func80 (by kernel_rfl) rfl #[.slice (some ad) m cc] (by rfl) rfl rfl (by simp [Act.eval]) ?_
      refine (clone_row80 ad m cc xs _ hxl hxs1 hone hm).mono ?_
      rintro e w1 ⟨v1, rfl, hown1, hb1⟩
      obtain ⟨A1, c1, rfl⟩ := own_slice hown1
      refine ⟨_, rfl, ?_⟩
      refine hK.out _ _ ((hb1.block _ (lt_of_block hHeld)).trans hHeld) (fun hHeld => ?_)
      clear hK K
      refine norm_ (a' := ?_) ?_ ?_
      rotate_left
      · show Act.put _ (some 11) _ = _
        simp only [Act.put, List.setIfInBounds_toArray, List.set_cons_zero, List.set_cons_succ, i64_w, i32_w]
        rfl
      refine pure_ (i := 11) (N := some 17) (v := ?_) (a' := ?_) #[true, true, true, true, true, true, true, true, true, true, true, true, true, false] rfl rfl (by kernel_rfl) (fun _ _ _ h => h) (Or.inl ⟨by rfl, ?_⟩) ?_ ?_
      rotate_left
      · intro w'
        go_simp
        with_reducible rfl
      rotate_left
      · simp only [Act.put, List.setIfInBounds_toArray, List.set_cons_zero, List.set_cons_succ, i64_w, i32_w]
        rfl
      refine hjoin (.slice A1 m c1, w.heap.size + 1) _ ⟨own_le hown1 (by simp [World.drew]), ?_, Nat.lt_succ_self _, ?_⟩
      · have h2 := heap_alloc_new (w.alloc (.cells #[.slice none 0 0, .int .i64 0] 63)) (.cells #[.slice none 0 0, .int .i64 0] 63)
        rw [World.size_alloc] at h2
        exact (hb1.block _ (by simp [World.drew])).trans h2
      · exact ((Below.refl (w.heap.size + 1) (w.alloc (.cells #[.slice none 0 0, .int .i64 0] 63)).drew).alloc (by simp [World.drew]) (.cells #[.slice none 0 0, .int .i64 0] 63)).trans (hb1.mono (by simp [World.drew]))
  case cont =>
    clear hxs0 hxs1 hHeld
    rintro ⟨v, t3⟩ wa ⟨howna, ht3, hlt3, hba⟩
    obtain ⟨q1, c1, rfl⟩ := own_form howna h0
    have hBa : Below w.heap.size w wa := ((Below.refl w.heap.size w).alloc (Nat.le_refl _) _).drew.trans (hba.mono (Nat.le_succ _))
    have hT2a : wa.heap[w.heap.size]? = some (.cells #[.slice none 0 0, .int .i64 0] 63 (0, 0)) := (hba.block _ (Nat.lt_succ_self _)).trans (heap_alloc_new w _)
    clear hba
    refine norm_ (a' := ?_) ?_ ?_
    rotate_left
    · simp only [putAll, Act.put, List.setIfInBounds_toArray, List.set_cons_zero, List.set_cons_succ]
      rfl
    refine last_ (i := 13) (N := none) #[true, true, true, true, true, true, true, true, true, true, true, true, true, true] rfl rfl (by kernel_rfl) (by decide) ?_
    intro K hK0
    have hK := Aside0.mk hK0
    clear hK0
    have c0 := cell_blk ht3 0
    have c1_ := cell_blk ht3 1
    simp only [List.getElem?_toArray, List.getElem?_cons_zero, List.getElem?_cons_succ] at c0 c1_
    have f0 := blk_frozen ht3 0
    have f1 := blk_frozen ht3 1
    refine skip_step (by rfl) (by first | (go_simp; done) | (go_simp; rfl)) ?_
    refine hK.out _ _ ?_
    clear hK K
    refine norm_ (a' := ?_) ?_ ?_
    rotate_left
    · show Act.put _ none _ = _
      rfl
    refine done_ (by kernel_rfl) ?_
    have e8 : (wa.setCell ⟨t3, 0, none⟩ (.slice (some ⟨q1, 0, none⟩) m c1)).setCell ⟨t3, 1, none⟩ (.int .i64 g) = wa.setRow t3 #[.slice (some ⟨q1, 0, none⟩) m c1, .int .i64 g] := by
      rw [setCell_eq_setRow wa _ 0 _ _ _ _ ht3, setCell_eq_setRow _ _ 1 _ _ _ _ (setRow_heap wa _ _ _ _ _ ht3), setRow_setRow]
      rfl
    rw [e8]
    have hT3 := setRow_heap wa _ _ #[.slice (some ⟨q1, 0, none⟩) m c1, .int .i64 g] _ _ ht3
    have hT2 := (setRow_other wa t3 w.heap.size #[.slice (some ⟨q1, 0, none⟩) m c1, .int .i64 g] (by omega)).trans hT2a
    have hownb : (wa.setRow t3 #[.slice (some ⟨q1, 0, none⟩) m c1, .int .i64 g]).ownsRow (w.heap.size + 1) 60 9 (.slice (some ⟨q1, 0, none⟩) m c1) m xs := own_row_other howna (own_not howna ht3 (by decide)) _
    have hBb : Below w.heap.size w (wa.setRow t3 #[.slice (some ⟨q1, 0, none⟩) m c1, .int .i64 g]) := below_setRow hBa (by omega) _
    generalize wa.setRow t3 #[.slice (some ⟨q1, 0, none⟩) m c1, .int .i64 g] = wb at hT3 hT2 hownb hBb
    clear e8 howna ht3 hBa hT2a c0 c1_ f0 f1
    have hkb : KidsN wb 0 ds vs := ⟨hkids.1, fun i d v hd hv => ⟨own_le (own_keep (hkids.2 i d v hd hv).1 (fun q _ hq => hBb.block q hq)) (Nat.zero_le _), (hkids.2 i d v hd hv).2⟩⟩
    clear hkids hown hxs hone hxl HAD hb
    subst hX
    show K' _ _
    refine ha _ _ ?_
    clear ha
    have HO := Aside0.mk hownb
    have HK := Aside0.mk hkb
    have HB := Aside0.mk hBb
    have H2 := Aside0.mk hT2
    have H3 := Aside0.mk hT3
    have t0 := cell_blk hT3 0
    simp only [List.getElem?_toArray, List.getElem?_cons_zero, List.getElem?_cons_succ] at t0
    clear hownb hkb hBb hT2 hT3
    go_wp2
    go_loopg [21] m (fun k v21 wr => ∃ (i : Nat) (us : List Value), v21 = .int .i64 (i : Int) ∧ i + k = m ∧ Aside0 (wr.ownsRow (w.heap.size + 1) 60 9 (.slice (some ⟨q1, 0, none⟩) m c1) m (rowsN ds us)) ∧ Aside0 (KidsN wr 0 ds us) ∧ Aside0 (Below w.heap.size w wr) ∧ Aside0 (wr.heap[w.heap.size]? = some (.cells #[.slice none 0 0, .int .i64 0] 63 (0, 0))) ∧ Aside0 (wr.heap[t3]? = some (.cells #[.slice (some ⟨q1, 0, none⟩) m c1, .int .i64 g] 63 (0, 0))))
    case atStart => exact ⟨0, vs, rfl, by omega, HO, HK, HB, H2, H3⟩
    case round =>
      clear HO HK HB H2 H3 t0
      obtain ⟨i, us, rfl, hik, HO, HK, HB, H2, H3⟩ := hrel
      by_cases hi : i < m
      · have hlt : decide ((i : Int) < (m : Int)) = true := decide_eq_true (by omega)
        have p0 : (0 ≤ (i : Int)) = True := eq_true (by omega)
        have p1 : ((i : Int) < (m : Int)) = True := eq_true (by omega)
        obtain ⟨k', rfl⟩ : ∃ k', gk = k' + 1 := ⟨gk - 1, by omega⟩
        obtain ⟨d, hd⟩ : ∃ d, ds[i]? = some d := ⟨_, List.getElem?_eq_getElem (by omega)⟩
        obtain ⟨v, hv⟩ : ∃ v, us[i]? = some v := ⟨_, List.getElem?_eq_getElem (by rw [HK.out.1]; omega)⟩
        have hx := fun j (hj : j < 9) => (HO.out.cellAt (i * 9 + j) (by omega)).trans (rowsN_at ds us i d v hd hv j hj)
        have x0 := hx 0 (by decide)
        have x1 := hx 1 (by decide)
        have x2 := hx 2 (by decide)
        have x3 := hx 3 (by decide)
        have x4 := hx 4 (by decide)
        have x5 := hx 5 (by decide)
        have x6 := hx 6 (by decide)
        have x7 := hx 7 (by decide)
        have x8 := hx 8 (by decide)
        simp only [nodeC, List.getElem?_cons_zero, List.getElem?_cons_succ] at x0 x1 x2 x3 x4 x5 x6 x7 x8
        simp only [Nat.add_zero] at x0
        clear hx
        obtain ⟨Av, cv, rfl⟩ := own_slice (HK.out.2 i d v hd hv).1
        have HX := Aside0.mk (And.intro hd hv)
        clear hd hv
        have HI := Aside0.mk (Inv.mk HO.out HK.out HB.out H2.out H3.out)
        clear HO HK HB H2 H3
        go_wp2
        rename_i K6 ha6
        have HW := Aside0.mk (HI.out.next ((Below.refl _ wr).alloc (Nat.le_refl _) (.cells #[.int .u8 d.k, .int .i32 d.c, .bool d.nt, .slice none 0 0, .slice none 0 0, .int .i64 d.n, .int .i64 d.mn, .int .i64 d.mx, .slice Av d.l.length cv] 60)))
        have hnew := heap_alloc_new wr (.cells #[.int .u8 d.k, .int .i32 d.c, .bool d.nt, .slice none 0 0, .slice none 0 0, .int .i64 d.n, .int .i64 d.mn, .int .i64 d.mx, .slice Av d.l.length cv] 60)
        have hq5 := (HI.out.o.lt q1 rfl).2
        clear HI x0 x1 x2 x3 x4 x5 x6 x7 x8
        generalize wr.heap.size = x5 at hnew hq5 ⊢
        generalize wr.alloc (.cells #[.int .u8 d.k, .int .i32 d.c, .bool d.nt, .slice none 0 0, .slice none 0 0, .int .i64 d.n, .int .i64 d.mn, .int .i64 d.mx, .slice Av d.l.length cv] 60) = wc at hnew HW ⊢
        refine start_ (n := 18) (S := fun w' => w'.heap[t3]? = some (.cells #[.slice (some ⟨q1, 0, none⟩) m c1, .int .i64 g] 63 (0, 0)) ∧ w'.heap[x5]? = some (.cells #[.int .u8 d.k, .int .i32 d.c, .bool d.nt, .slice none 0 0, .slice none 0 0, .int .i64 d.n, .int .i64 d.mn, .int .i64 d.mx, .slice Av d.l.length cv] 60 (0, 0))) (ds := [17]) #[false, false, false, false, false, false, false, false, false, false, false, false, false, false, false, false, false, false] (by kernel_rfl) rfl rfl ⟨HW.out.t3, hnew⟩ (fun hHeld => ?_)
        refine pure_ (i := 0) (N := some 26) (v := ?_) (a' := ?_) #[true, false, false, false, false, false, false, false, false, false, false, false, false, false, false, false, false, false] rfl rfl (by kernel_rfl) (fun _ _ _ h => h) (Or.inl ⟨by rfl, ?_⟩) ?_ ?_
        rotate_left
        · intro w'
          go_simp
          with_reducible rfl
        rotate_left
        · simp only [Act.put, List.setIfInBounds_toArray, List.set_cons_zero, List.set_cons_succ, i64_w, i32_w]
          rfl
        refine take_ (i := 1) (N := some 27) (v := ?_) (a' := ?_) #[true, true, false, false, false, false, false, false, false, false, false, false, false, false, false, false, false, false] rfl rfl (by kernel_rfl) (fun _ _ _ h => h) (Or.inl ⟨by rfl, ?_⟩) hHeld ?_ ?_
        rotate_left
        · intro w' s0
          have s1 := cell_blk s0.1 0
          simp only [List.getElem?_toArray, List.getElem?_cons_zero, List.getElem?_cons_succ] at *
          go_simp
          with_reducible rfl
        rotate_left
        · simp only [Act.put, List.setIfInBounds_toArray, List.set_cons_zero, List.set_cons_succ, i64_w, i32_w]
          rfl
        refine pure_ (i := 2) (N := some 28) (v := ?_) (a' := ?_) #[true, true, true, false, false, false, false, false, false, false, false, false, false, false, false, false, false, false] rfl rfl (by kernel_rfl) (fun _ _ _ h => h) (Or.inl ⟨by rfl, ?_⟩) ?_ ?_
        rotate_left
        · intro w'
          go_simp
          with_reducible rfl
        rotate_left
        · simp only [Act.put, List.setIfInBounds_toArray, List.set_cons_zero, List.set_cons_succ, i64_w, i32_w]
          rfl
        refine pure_ (i := 3) (N := some 29) (v := ?_) (a' := ?_) #[true, true, true, true, false, false, false, false, false, false, false, false, false, false, false, false, false, false] rfl rfl (by kernel_rfl) (fun _ _ _ h => h) (Or.inl ⟨by rfl, ?_⟩) ?_ ?_
        rotate_left
        · intro w'
          go_simp
          with_reducible rfl
        rotate_left
        · simp only [Act.put, List.setIfInBounds_toArray, List.set_cons_zero, List.set_cons_succ, i64_w, i32_w]
          rfl
        refine take_ (i := 4) (N := some 30) (v := ?_) (a' := ?_) #[true, true, true, true, true, false, false, false, false, false, false, false, false, false, false, false, false, false] rfl rfl (by kernel_rfl) (fun _ _ _ h => h) (Or.inl ⟨by rfl, ?_⟩) hHeld ?_ ?_
        rotate_left
        · intro w' s0
          have s1 := cell_blk s0.1 0
          simp only [List.getElem?_toArray, List.getElem?_cons_zero, List.getElem?_cons_succ] at *
          go_simp
          with_reducible rfl
        rotate_left
        · simp only [Act.put, List.setIfInBounds_toArray, List.set_cons_zero, List.set_cons_succ, i64_w, i32_w]
          rfl
        refine pure_ (i := 5) (N := some 31) (v := ?_) (a' := ?_) #[true, true, true, true, true, true, false, false, false, false, false, false, false, false, false, false, false, false] rfl rfl (by kernel_rfl) (fun _ _ _ h => h) (Or.inl ⟨by rfl, ?_⟩) ?_ ?_
        rotate_left
        · intro w'
          go_simp
          with_reducible rfl
        rotate_left
        · simp only [Act.put, List.setIfInBounds_toArray, List.set_cons_zero, List.set_cons_succ, i64_w, i32_w]
          rfl
        refine pure_ (i := 6) (N := some 32) (v := ?_) (a' := ?_) #[true, true, true, true, true, true, true, false, false, false, false, false, false, false, false, false, false, false] rfl rfl (by kernel_rfl) (fun _ _ _ h => h) (Or.inl ⟨by rfl, ?_⟩) ?_ ?_
        rotate_left
        · intro w'
          go_simp
          with_reducible rfl
        rotate_left
        · simp only [Act.put, List.setIfInBounds_toArray, List.set_cons_zero, List.set_cons_succ, i64_w, i32_w]
          rfl
        refine take_ (i := 7) (N := some 33) (v := ?_) (a' := ?_) #[true, true, true, true, true, true, true, true, false, false, false, false, false, false, false, false, false, false] rfl rfl (by kernel_rfl) (fun _ _ _ h => h) (Or.inl ⟨by rfl, ?_⟩) hHeld ?_ ?_
        rotate_left
        · intro w' s0
          have s8 := cell_blk s0.2 8
          simp only [List.getElem?_toArray, List.getElem?_cons_zero, List.getElem?_cons_succ] at *
          go_simp
          with_reducible rfl
        rotate_left
        · simp only [Act.put, List.setIfInBounds_toArray, List.set_cons_zero, List.set_cons_succ, i64_w, i32_w]
          rfl
        refine pure_ (i := 9) (N := some 35) (v := ?_) (a' := ?_) #[true, true, true, true, true, true, true, true, false, true, false, false, false, false, false, false, false, false] rfl rfl (by kernel_rfl) (fun _ _ _ h => h) (Or.inl ⟨by rfl, ?_⟩) ?_ ?_
        rotate_left
        · intro w'
          go_simp
          with_reducible rfl
        rotate_left
        · simp only [Act.put, List.setIfInBounds_toArray, List.set_cons_zero, List.set_cons_succ, i64_w, i32_w]
          rfl
        refine take_ (i := 10) (N := some 36) (v := ?_) (a' := ?_) #[true, true, true, true, true, true, true, true, false, true, true, false, false, false, false, false, false, false] rfl rfl (by kernel_rfl) (fun _ _ _ h => h) (Or.inl ⟨by rfl, ?_⟩) hHeld ?_ ?_
        rotate_left
        · intro w' s0
          have s2 := cell_blk s0.2 2
          have s3 := cell_blk s0.2 3
          have s4 := cell_blk s0.2 4
          simp only [List.getElem?_toArray, List.getElem?_cons_zero, List.getElem?_cons_succ] at *
          go_simp
          with_reducible rfl
        rotate_left
        · simp only [Act.put, List.setIfInBounds_toArray, List.set_cons_zero, List.set_cons_succ, i64_w, i32_w]
          rfl
        refine one_ (i := 8) (N := some 34) #[true, true, true, true, true, true, true, true, true, true, true, false, false, false, false, false, false, false] rfl rfl (by kernel_rfl) (by decide) ?_
        intro K hK0
        have hK := Aside0.mk hK0
        clear hK0
        refine goes_ Tryd.func77 (by kernel_rfl) rfl #[.slice Av d.l.length cv] (by rfl) rfl rfl (by simp [Act.eval]) ?_
        refine (clone_kids _ d.l _ (own_kids (HW.out.k.2 i d _ HX.out.1 HX.out.2).1 (HW.out.k.2 i d _ HX.out.1 HX.out.2).2).drew).mono ?_
        rintro e w1 ⟨v1, rfl, hown1, hb1⟩
        refine ⟨_, rfl, ?_⟩
        refine hK.out _ _ ?_ (fun hHeld => ?_)
        · exact ⟨(hb1.block _ (lt_of_block hHeld.1)).trans hHeld.1, (hb1.block _ (lt_of_block hHeld.2)).trans hHeld.2⟩
        clear hK K
        refine norm_ (a' := ?_) ?_ ?_
        rotate_left
        · show Act.put _ (some 34) _ = _
          simp only [Act.put, List.setIfInBounds_toArray, List.set_cons_zero, List.set_cons_succ, i64_w, i32_w]
          rfl
        obtain ⟨A1, m1, rfl⟩ := own_slice hown1
        refine one_ (i := 11) (N := some 37) #[true, true, true, true, true, true, true, true, true, true, true, true, false, false, false, false, false, false] rfl rfl (by kernel_rfl) (by decide) ?_
        intro K hK0
        have hK := Aside0.mk hK0
        clear hK0
        refine goes_ Tryd.func78 (by kernel_rfl) rfl #[.agg #[.bool d.nt, .slice none 0 0, .slice none 0 0]] (by rfl) rfl rfl (by simp [Act.eval]) ?_
        refine (copied0_walk d.nt _).mono ?_
        rintro e w2 ⟨rfl, hb2⟩
        refine ⟨_, rfl, ?_⟩
        refine hK.out _ _ ?_ (fun hHeld => ?_)
        · exact ⟨(hb2.block _ (lt_of_block hHeld.1)).trans hHeld.1, (hb2.block _ (lt_of_block hHeld.2)).trans hHeld.2⟩
        clear hK K
        refine norm_ (a' := ?_) ?_ ?_
        rotate_left
        · show Act.put _ (some 37) _ = _
          simp only [Act.put, List.setIfInBounds_toArray, List.set_cons_zero, List.set_cons_succ, i64_w, i32_w]
          rfl
        refine pure_ (i := 12) (N := some 38) (v := ?_) (a' := ?_) #[true, true, true, true, true, true, true, true, true, true, true, true, true, false, false, false, false, false] rfl rfl (by kernel_rfl) (fun _ _ _ h => h) (Or.inl ⟨by rfl, ?_⟩) ?_ ?_
        rotate_left
        · intro w'
          go_simp
          with_reducible rfl
        rotate_left
        · simp only [Act.put, List.setIfInBounds_toArray, List.set_cons_zero, List.set_cons_succ, i64_w, i32_w]
          rfl
        refine pure_ (i := 13) (N := some 39) (v := ?_) (a' := ?_) #[true, true, true, true, true, true, true, true, true, true, true, true, true, true, false, false, false, false] rfl rfl (by kernel_rfl) (fun _ _ _ h => h) (Or.inl ⟨by rfl, ?_⟩) ?_ ?_
        rotate_left
        · intro w'
          go_simp
          with_reducible rfl
        rotate_left
        · simp only [Act.put, List.setIfInBounds_toArray, List.set_cons_zero, List.set_cons_succ, i64_w, i32_w]
          rfl
        refine one_ (i := 14) (N := none) #[true, true, true, true, true, true, true, true, true, true, true, true, true, true, true, false, false, false] rfl rfl (by kernel_rfl) (by decide) ?_
        intro K hK0
        have hK := Aside0.mk hK0
        clear hK0
        have hlw := HW.out.b.size
        have HW1 := (HW.out.next (wr' := wc.drew) (Below.refl _ wc).drew).next hb1
        have HW2 := Aside0.mk (HW1.next hb2)
        have hown2 := own_keep hown1 (fun q _ hq => hb2.block q hq)
        have hkid2 := HW2.out.k.set HX.out.1 (own_le hown2 (Nat.zero_le _)) (HW2.out.k.2 i d _ HX.out.1 HX.out.2).2
        have HW3 := Aside0.mk (HW2.out.put (i * 9 + 8) (.slice A1 d.l.length m1) (rowsN_set ds us i _ HW2.out.k.1) hkid2)
        have c8 := (HW2.out.o.cellAt (i * 9 + 8) (by omega)).trans (rowsN_at ds us i d _ HX.out.1 HX.out.2 8 (by decide))
        have g8 := HW2.out.o.frozenAt (i * 9 + 8)
        simp only [nodeC, List.getElem?_cons_zero, List.getElem?_cons_succ] at c8
        have hS3 := And.intro HW3.out.t3 ((Below.heap_setCell w2 ⟨q1, i * 9 + 8, none⟩ (.slice A1 d.l.length m1) x5 (by show x5 ≠ q1; omega)).trans hHeld.2)
        clear hlw HW1 hown2 hkid2 hown1 hb1 hb2
        refine skip_step (by rfl) (by first | (go_simp; done) | (go_simp; rfl)) ?_
        refine hK.out _ _ hS3 (fun hHeld => ?_)
        clear hK K c8 g8 HW2
        generalize w2.setCell ⟨q1, i * 9 + 8, none⟩ (.slice A1 d.l.length m1) = w3 at hS3 HW3 hHeld ⊢
        refine norm_ (a' := ?_) ?_ ?_
        rotate_left
        · show Act.put _ none _ = _
          rfl
        refine pure_ (i := 15) (N := some 40) (v := ?_) (a' := ?_) #[true, true, true, true, true, true, true, true, true, true, true, true, true, true, true, true, false, false] rfl rfl (by kernel_rfl) (fun _ _ _ h => h) (Or.inl ⟨by rfl, ?_⟩) ?_ ?_
        rotate_left
        · intro w'
          go_simp
          with_reducible rfl
        rotate_left
        · simp only [Act.put, List.setIfInBounds_toArray, List.set_cons_zero, List.set_cons_succ, i64_w, i32_w]
          rfl
        refine pure_ (i := 16) (N := some 41) (v := ?_) (a' := ?_) #[true, true, true, true, true, true, true, true, true, true, true, true, true, true, true, true, true, false] rfl rfl (by kernel_rfl) (fun _ _ _ h => h) (Or.inl ⟨by rfl, ?_⟩) ?_ ?_
        rotate_left
        · intro w'
          go_simp
          with_reducible rfl
        rotate_left
        · simp only [Act.put, List.setIfInBounds_toArray, List.set_cons_zero, List.set_cons_succ, i64_w, i32_w]
          rfl
        refine last_ (i := 17) (N := none) #[true, true, true, true, true, true, true, true, true, true, true, true, true, true, true, true, true, true] rfl rfl (by kernel_rfl) (by decide) ?_
        intro K hK0
        have hK := Aside0.mk hK0
        clear hK0
        have hus : (us.set i (.slice A1 d.l.length m1))[i]? = some (.slice A1 d.l.length m1) := List.getElem?_set_self (List.getElem?_eq_some_iff.1 HX.out.2).1
        have hy := fun j (hj : j < 9) => (HW3.out.o.cellAt (i * 9 + j) (by omega)).trans (rowsN_at ds _ i d _ HX.out.1 hus j hj)
        have c2 := hy 2 (by decide)
        have c3 := hy 3 (by decide)
        have c4 := hy 4 (by decide)
        simp only [nodeC, List.getElem?_cons_zero, List.getElem?_cons_succ] at c2 c3 c4
        clear hy
        have g2 := HW3.out.o.frozenAt (i * 9 + 2)
        have g3 := HW3.out.o.frozenAt (i * 9 + 3)
        have g4 := HW3.out.o.frozenAt (i * 9 + 4)
        have HE := Aside0.mk hus
        clear hus
        refine skip_step (by rfl) (by first | (go_simp; done) | (go_simp; rfl)) ?_
        refine hK.out _ _ ?_
        clear hK K
        refine norm_ (a' := ?_) ?_ ?_
        rotate_left
        · show Act.put _ none _ = _
          rfl
        refine done_ (by kernel_rfl) ?_
        have P2 := HW3.out.put (i * 9 + 2) (.bool d.nt) (rowsN_same ds _ i d _ 2 _ HX.out.1 HE.out (by decide) rfl) HW3.out.k
        have P3 := P2.put (i * 9 + 3) (.slice none 0 0) (rowsN_same ds _ i d _ 3 _ HX.out.1 HE.out (by decide) rfl) P2.k
        have P4 := P3.put (i * 9 + 4) (.slice none 0 0) (rowsN_same ds _ i d _ 4 _ HX.out.1 HE.out (by decide) rfl) P3.k
        clear P2 P3 HW3 hS3 hHeld c2 c3 c4 g2 g3 g4 HE
        show K6 _ _
        refine ha6 _ _ ?_
        clear ha6
        go_wp2
        go_roundg k'
        case measure => omega
        case rel => exact ⟨i + 1, _, by simp, by omega, ⟨P4.o⟩, ⟨P4.k⟩, ⟨P4.b⟩, ⟨P4.t2⟩, ⟨P4.t3⟩⟩
      · have hlt : decide ((i : Int) < (m : Int)) = false := decide_eq_false (by omega)
        have a0 := cell_blk H3.out 0
        have a1 := cell_blk H3.out 1
        have b0 := cell_blk H2.out 0
        have b1 := cell_blk H2.out 1
        have f0 := blk_frozen H2.out 0
        have f1 := blk_frozen H2.out 1
        simp only [List.getElem?_toArray, List.getElem?_cons_zero, List.getElem?_cons_succ] at a0 a1 b0 b1
        go_wp2
        have e8 : (wr.setCell ⟨w.heap.size, 0, none⟩ (.slice (some ⟨q1, 0, none⟩) m c1)).setCell ⟨w.heap.size, 1, none⟩ (.int .i64 g) = wr.setRow w.heap.size #[.slice (some ⟨q1, 0, none⟩) m c1, .int .i64 g] := by
          rw [setCell_eq_setRow wr _ 0 _ _ _ _ H2.out, setCell_eq_setRow _ _ 1 _ _ _ _ (setRow_heap wr _ _ _ _ _ H2.out), setRow_setRow]
          rfl
        rw [e8]
        have h3 := setRow_heap wr _ _ #[.slice (some ⟨q1, 0, none⟩) m c1, .int .i64 g] _ _ H2.out
        refine bodyPost_ret (results_cell_row (by rfl) _ _ _ _ _ _ _ (by rfl) h3 Tryd.underlying63 rfl (by kernel_rfl)) rfl ?_
        refine ⟨_, _, us, rfl, own_le (own_row_other HO.out (own_not HO.out H2.out (by decide)) _) (Nat.le_succ _), ⟨HK.out.1, fun i d v hd hv => ⟨own_row_other (HK.out.2 i d v hd hv).1 (own_not (HK.out.2 i d v hd hv).1 H2.out (by decide)) _, (HK.out.2 i d v hd hv).2⟩⟩, below_setRow HB.out (Nat.le_refl _) _⟩
end Go.Proofs.YtcppmghhijffpaaDoorW.PrintMore
