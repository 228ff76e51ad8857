import Derived.Test.YtcppmghhijffpaaDoorTreeText
/-! redactorlaw09.known: the chapter's example. -/
namespace Go.Proofs.YtcppmghhijffpaaDoorW.PrintMore
open Go.RowKit Go.Proofs.YtcppmghhijffpaaDoorW.PrintWords Go.Proofs.YtcppmghhijffpaaDoorW.PrintLast Go.Proofs.YtcppmghhijffpaaDoor.X
set_option linter.unusedSimpArgs false
set_option linter.unusedVariables false
theorem C_kids {w : World} {B : Nat} {v : Value} {l : List Int} (h : w.ownsRow B 3 1 v l.length (l.map (Value.int .i64))) (hl : l.length ≤ 1000) : ∃ A c, v = .slice A l.length c ∧ l.length ≤ c ∧ (Kd.int .i64).C w A l.length l := by
  rcases h.2 with ⟨hv, h0⟩ | ⟨g, cap, cur, hv, hb, hk, hc, hr⟩
  · exact ⟨none, 0, by rw [hv, h0], by omega, rfl, by omega, fun hp => by omega⟩
  · refine ⟨some ⟨g, 0, none⟩, cap, hv, hc, rfl, by omega, fun hp => ⟨_, rfl, fun j p hp => ⟨[.int .i64 p], rfl, rfl, fun q u hu => ?_⟩⟩⟩
    cases q with
    | succ q => simp at hu
    | zero =>
      obtain rfl : Value.int .i64 p = u := by simpa using hu
      have := h.cells (g := g) (by rw [hv]; rfl) j (.int .i64 p) (by rw [List.getElem?_map, hp]; rfl)
      have e : ((⟨g, 0, none⟩ : Addr).add (j * (Kd.int .i64).sz + 0)) = (⟨g, 0, none⟩ : Addr).add j := by
        show (⟨g, 0, none⟩ : Addr).add (j * 1 + 0) = _
        rw [Nat.mul_one, Nat.add_zero]
      rw [e]
      exact this
/-- A node of the builder's as a value. -/
def sOf (d : ND) : S60 := ⟨d.k, d.c, ⟨d.nt, [], []⟩, d.n, d.mn, d.mx, d.l⟩
theorem C_none {α : Type} (d : Kd α) (w : World) : d.C w none 0 [] := ⟨rfl, by omega, fun h => by omega⟩
theorem C_nodes {w : World} {B q c : Nat} {ds : List ND} {vs : List Value} (ho : w.ownsRow B 60 9 (.slice (some ⟨q, 0, none⟩) ds.length c) ds.length (rowsN ds vs)) (hk : KidsN w 0 ds vs) (hm : ds.length ≤ 1000) :
    Kd.C k60 w (some ⟨q, 0, none⟩) ds.length (ds.map sOf) := by
  refine ⟨by simp, by omega, fun _ => ⟨_, rfl, fun j p hp => ?_⟩⟩
  rw [List.getElem?_map] at hp
  obtain ⟨d, hd, rfl⟩ := Option.map_eq_some_iff.1 hp
  obtain ⟨v, hv⟩ : ∃ v, vs[j]? = some v := ⟨_, List.getElem?_eq_getElem (by rw [hk.1]; exact (List.getElem?_eq_some_iff.1 hd).1)⟩
  obtain ⟨hown, hl⟩ := hk.2 j d v hd hv
  obtain ⟨A8, c8, rfl, l8, i8⟩ := C_kids hown hl
  refine ⟨_, rfl, k60_mk w (sOf d) (A3 := none) (c3 := 0) (Nat.le_refl _) (C_none _ _) (A4 := none) (c4 := 0) (Nat.le_refl _) (C_none _ _) l8 i8, fun i u hu => ?_⟩
  have hi : i < 9 := (List.getElem?_eq_some_iff.1 hu).1
  have h1 := rowsN_at ds vs j d _ hd hv i hi
  have h2 := ho.cells (g := q) rfl (j * 9 + i) u (by rw [h1]; exact hu)
  exact h2
theorem own_le' {w : World} {B B' n s : Nat} {t : TypeId} {v : Value} {xs : List Value} (h : w.ownsRow B t s v n xs) (hb : B' ≤ B) : w.ownsRow B' t s v n xs := own_le h hb
def knownDs : List ND := [⟨1, 97, false, 0, 0, 0, []⟩, ⟨10, 0, false, 0, 0, -1, [0]⟩]
def knownNs : List S60 := knownDs.map sOf
theorem known_right : rightL knownNs 0 = true := by kernel_rfl
theorem empty_right : rightL [] 0 = false := by kernel_rfl
theorem known_text : printL (fun _ => []) knownNs true = [39, 97, 42, 48, 44, 45, 49] := by
  have h1 : Lib.itoa 0 = [48] := by simp [Lib.itoa, Lib.decDigits]
  have h2 : Lib.itoa (-1) = [45, 49] := by simp [Lib.itoa, Lib.decDigits]
  have h3 : txtL 97 = [97] := by kernel_rfl
  show prN (fun _ => []) knownNs 2 1 = _
  simp [prN, nodeTxt, knownNs, knownDs, rd_T60, sOf, kidsTxt, h1, h2, h3]
theorem known_ahead : Ahead knownNs := by
  intro i h0 h1
  have h1 : i < 2 := h1
  have : i = 0 ∨ i = 1 := by omega
  rcases this with rfl | rfl
  · exact ⟨⟨⟨by decide, by decide⟩, ⟨by decide, by decide⟩, ⟨by decide, by decide⟩⟩, fun k hk => by simp [rd_T60, knownNs, knownDs, sOf] at hk⟩
  · refine ⟨⟨⟨by decide, by decide⟩, ⟨by decide, by decide⟩, ⟨by decide, by decide⟩⟩, fun k hk => ?_⟩
    obtain rfl : k = 0 := by simpa [rd_T60, knownNs, knownDs, sOf] using hk
    exact ⟨by omega, by omega⟩
theorem known_sets : ∀ x ∈ knownNs, x.f0 = 3 → x.f2.f1 = [] ∧ x.f2.f2 = [] := by
  intro x hx
  simp only [knownNs, knownDs, List.map_cons, List.map_nil, List.mem_cons, List.not_mem_nil, or_false] at hx
  rcases hx with rfl | rfl <;> exact fun _ => ⟨rfl, rfl⟩
theorem pr_known (A : Option Addr) (c : Nat) (w : World) (hr : Kd.C k60 w A 2 knownNs) (ht : Tabs1 w) :
    Calls Tryd.prog 67 #[.agg #[.slice A 2 c, .int .i64 0]] w fun e w' => e = .returned (.string ⟨#[39, 97, 42, 48, 44, 45, 49]⟩) ∧ Below w.heap.size w w' := by
  refine (tprint_walk A c knownNs 0 w (fun _ => []) true hr ht (fun W hW => ?_) (fun _ => ⟨by decide, by decide⟩) (fun _ => known_ahead) ?_ ?_ ?_).mono ?_
  · have := tRight_walk A c knownNs 0 W (Kd.C_below hr hW) known_sets
    rw [known_right] at this
    exact this
  · intro _ b i h0 h1 h3
    have h1 : i < 2 := h1
    have : i = 0 ∨ i = 1 := by omega
    rcases this with rfl | rfl <;> exact absurd h3 (by decide)
  · rw [known_text]
    decide
  · rw [known_text]
    simp
  · rintro e w' ⟨rfl, hb⟩
    rw [known_text]
    exact ⟨rfl, hb⟩
theorem pr_none (w : World) (ht : Tabs1 w) :
    Calls Tryd.prog 67 #[.agg #[.slice none 0 0, .int .i64 0]] w fun e w' => e = .returned (.string ⟨#[]⟩) ∧ Below w.heap.size w w' := by
  refine (tprint_walk none 0 [] 0 w (fun _ => []) false (C_none _ _) ht (fun W hW => ?_) (fun h => by cases h) (fun h => by cases h) (fun h => by cases h) (by decide) (fun h => by cases h)).mono ?_
  · have := tRight_walk none 0 [] 0 W (C_none _ _) (fun x hx => by cases hx)
    rw [empty_right] at this
    exact this
  · rintro e w' ⟨rfl, hb⟩
    exact ⟨rfl, hb⟩
theorem known_kids {w : World} {B : Nat} {kv2 kv3 : Value} (h2 : w.ownsRow B 3 1 kv2 0 []) (h3 : w.ownsRow B 3 1 kv3 1 [.int .i64 0]) (i : Nat) (d : ND) (v : Value) (hd : knownDs[i]? = some d) (hv : [kv2, kv3][i]? = some v) : w.ownsRow B 3 1 v d.l.length (d.l.map (Value.int .i64)) ∧ d.l.length ≤ 1000 := by
  match i, hd, hv with
  | 0, hd, hv =>
    obtain rfl := Option.some.inj hd
    obtain rfl := Option.some.inj hv
    exact ⟨h2, by decide⟩
  | 1, hd, hv =>
    obtain rfl := Option.some.inj hd
    obtain rfl := Option.some.inj hv
    exact ⟨h3, by decide⟩
  | i + 2, hd, hv => cases hv
set_option maxHeartbeats 8000000 in
set_option maxRecDepth 100000 in
theorem known_walk (w : World) (ht : Tabs1 w) : Calls Tryd.prog 44 #[] w fun e w' => e = .returned (.bool true) ∧ Below w.heap.size w w' := by
  have HT := Aside0.mk ht
  clear ht
  go_enter Tryd.func44, Tryd.ntmps44
  go_wp2_with (first | (go_at_call 48; refine (new_walk _).mono ?_; rintro e w1 ⟨rfl, rfl⟩) | (go_at_call 49; refine (leaf_walk w.heap.size w.heap.size 1 97 false 0 0 0 (.slice none 0 0) [] (.slice none 0 0) 0 0 [] _ (by decide) (Or.inl ⟨rfl, rfl⟩) (heap_alloc_new w _) (World.ownsRow_nil _ _ _ _) (Nat.le_refl _) (by decide)).mono ?_; rintro e w2 ⟨rfl, bv2, kv2, hb2, ho2, hk2, hB2, hF2⟩; have HX2 := Aside0.mk (And.intro hb2 (And.intro ho2 hk2)); have HB2 := Aside0.mk (((Below.refl _ w).alloc (Nat.le_refl _) (.cells #[.slice none 0 0, .int .i64 0] 110)).trans hB2); clear hb2 ho2 hk2 hB2 hF2) | (go_at_call 54; refine (times_walk w.heap.size w.heap.size 0 0 (-1) bv2 0 1 _ _ HX2.out.1 HX2.out.2.1 (Nat.le_refl _) (by decide)).mono ?_; rintro e w3 ⟨rfl, bv3, kv3, hb3, ho3, hk3, hB3, hF3⟩; have HX3 := Aside0.mk (And.intro hb3 (And.intro ho3 (And.intro (own_le (hF3.own (by decide) (by decide) HX2.out.2.2) (show w.heap.size ≤ (w.alloc (.cells #[.slice none 0 0, .int .i64 0] 110)).heap.size by simp)) (own_le hk3 HB2.out.size)))); have HB3 := Aside0.mk (HB2.out.trans hB3); clear hb3 ho3 hk3 hB3 hF3) | (go_at_call 52; refine (bt_walk w.heap.size w.heap.size bv3 0 2 knownDs [kv2, kv3] _ HX3.out.1 (by simpa [rowsN, knownDs, nodeC] using HX3.out.2.1) rfl ⟨rfl, fun i d v hd hv => known_kids HX3.out.2.2.1 HX3.out.2.2.2 i d v hd hv⟩ (by decide) (by decide)).mono ?_; rintro e w4 ⟨A4, c4, vs', rfl, ho4, hk4, hB4⟩; obtain ⟨q4, cc4, he4⟩ := own_form ho4 (by decide); injection he4 with he4 _ he5; subst he4; have HC4 := Aside0.mk (C_nodes (ds := knownDs) ho4 hk4 (by decide)); have HB4 := Aside0.mk (HB3.out.trans (hB4.mono HB3.out.size)); clear ho4 hk4 hB4))
  refine (tRight_walk _ cc4 knownNs 0 _ (Kd.C_below HC4.out (below_alloc (Below.refl _ w4) _)) known_sets).mono ?_
  rintro e w5 ⟨rfl, hb5⟩
  rw [known_right]
  have hx5 := (hb5.block w4.heap.size (by simp)).trans (heap_alloc_new w4 (.cells #[.slice (some ⟨q4, 0, none⟩) 2 cc4, .int .i64 0] 63))
  have y0 := cell_blk hx5 0
  have y1 := cell_blk hx5 1
  simp only [List.getElem?_toArray, List.getElem?_cons_zero, List.getElem?_cons_succ] at y0 y1
  have HB5 := Aside0.mk ((below_alloc (Below.refl _ w4) _).trans (hb5.mono (by simp)))
  clear hb5 hx5
  go_wp2_with fail
  refine (pr_known _ cc4 w5 (Kd.C_below HC4.out HB5.out) (HT.out.below (HB4.out.trans (HB5.out.mono HB4.out.size)))).mono ?_
  rintro e w6 ⟨rfl, hb6⟩
  have HB6 := Aside0.mk ((HB4.out.trans (HB5.out.mono HB4.out.size)).trans (hb6.mono (Nat.le_trans HB4.out.size HB5.out.size)))
  clear hb6
  go_wp2_with fail
  refine (tRight_walk none 0 [] 0 w6 (C_none _ _) (fun x hx => by cases hx)).mono ?_
  rintro e w7 ⟨rfl, hb7⟩
  rw [empty_right]
  have HB7 := Aside0.mk (HB6.out.trans (hb7.mono HB6.out.size))
  clear hb7
  go_wp2_with fail
  refine (pr_none w7 (HT.out.below HB7.out)).mono ?_
  rintro e w8 ⟨rfl, hb8⟩
  go_wp2_with fail
  go_ret
  exact ⟨rfl, HB7.out.trans (hb8.mono HB7.out.size)⟩
end Go.Proofs.YtcppmghhijffpaaDoorW.PrintMore
