import Derived.Test.YtcppmghhijffpaaDoorTreeKnown
/-! redactorlaw09.TreeLeaves. -/
namespace Go.Proofs.YtcppmghhijffpaaDoorW.PrintMore
open Go.RowKit Go.Proofs.YtcppmghhijffpaaDoorW.PrintWords Go.Proofs.YtcppmghhijffpaaDoorW.PrintLast Go.Proofs.YtcppmghhijffpaaDoor.X
set_option linter.unusedSimpArgs false
set_option linter.unusedVariables false
def leafN (k c : Int) : S60 := ⟨k, c, ⟨false, [], []⟩, 0, 0, 0, []⟩
def leafB (k c : Int) : Bool := rightL [leafN k c] 0
theorem leafB_is (k c : Int) (hk : k ≠ 7) : leafB k c = nodeB k c false true 0 0 0 0 0 0 0 := by
  have h1 : nodeOf (leafN k c) 0 = nodeB k c false true 0 0 0 0 0 0 0 := rfl
  cases h : nodeB k c false true 0 0 0 0 0 0 0
  · rw [h] at h1
    simp [leafB, rightL, rightGo, h1]
  · rw [h] at h1
    have h2 : numGo (leafN k c) (List.replicate 10 0) = List.replicate 10 0 := if_neg hk
    unfold leafB rightL
    rw [if_neg (by simp), if_neg (by simp), if_neg (by decide), if_neg (by decide)]
    simp [rightGo, h1, h2, kidsGo, rightEnd, show (leafN k c).f6 = [] from rfl]
theorem leafB_one (c : Int) : leafB 1 c = isCell c := by
  rw [leafB_is 1 c (by decide)]
  simp [nodeB]
theorem leafB_bare (k : Int) (h : k = 2 ∨ k = 3 ∨ k = 4 ∨ k = 5 ∨ k = 11) : leafB k 0 = true := by
  rcases h with rfl | rfl | rfl | rfl | rfl <;> rfl
theorem leafB_no (k : Int) (h1 : k ≠ 1) (h2 : k ≠ 2) (h3 : k ≠ 3) (h4 : k ≠ 4) (h5 : k ≠ 5) (h11 : k ≠ 11) : leafB k 0 = false := by
  by_cases h7 : k = 7
  · subst h7
    rfl
  · rw [leafB_is k 0 h7]
    unfold nodeB
    rw [if_neg h1, if_neg h2, if_neg h3, if_neg h4, if_neg h5]
    by_cases h6 : k = 6
    · subst h6; rfl
    · by_cases h8 : k = 8
      · subst h8; rfl
      · by_cases h9 : k = 9
        · subst h9; rfl
        · by_cases h10 : k = 10
          · subst h10; rfl
          · rw [if_neg h6, if_neg h7, if_neg h8, if_neg h9, if_neg h10, if_neg h11]
theorem leaf_right (k c : Int) (b cc : Nat) (W : World) (h : W.heap[b]? = some (.cells #[.int .u8 k, .int .i32 c, .bool false, .slice none 0 0, .slice none 0 0, .int .i64 0, .int .i64 0, .int .i64 0, .slice none 0 0] 60 (0, 0))) :
    Calls Tryd.prog 45 #[.agg #[.slice (some ⟨b, 0, none⟩) 1 cc, .int .i64 0]] W fun e w' => e = .returned (.bool (leafB k c)) ∧ Below W.heap.size W w' := by
  refine tRight_walk (some ⟨b, 0, none⟩) cc [leafN k c] 0 W ?_ (fun x hx _ => by
    obtain rfl : x = leafN k c := by simpa using hx
    exact ⟨rfl, rfl⟩)
  refine ⟨rfl, by simp, fun _ => ⟨_, rfl, fun j p hp => ?_⟩⟩
  match j, hp with
  | 0, hp =>
    obtain rfl : leafN k c = p := by simpa using hp
    refine ⟨_, rfl, k60_mk W (leafN k c) (A3 := none) (c3 := 0) (Nat.le_refl _) (C_none _ _) (A4 := none) (c4 := 0) (Nat.le_refl _) (C_none _ _) (A8 := none) (c8 := 0) (Nat.le_refl _) (C_none _ _), fun i u hu => ?_⟩
    have e : ((⟨b, 0, none⟩ : Addr).add (0 * k60.sz + i)) = ⟨b, i, none⟩ := by rw [Nat.zero_mul, Nat.zero_add]; exact addr0 _ _
    rw [e]
    exact (cell_blk h i).trans (by simpa [leafN] using hu)
  | j + 1, hp => simp at hp
set_option maxHeartbeats 16000000 in
set_option maxRecDepth 100000 in
theorem leaves_A (c k : Int) (hk0 : 0 ≤ k) (hk1 : k ≤ 255) (h : c < -256) (w : World) (ht : Tabs1 w) : Calls Tryd.prog 16 #[.int .i32 c, .int .u8 k] w fun e w' => e = .returned (.bool true) ∧ Below w.heap.size w w' := by
  have HT := Aside0.mk ht
  have p0 : decide ((-256 : Int) ≤ c) = false := decide_eq_false (by omega)
  have p1 : decide (c < (55296 : Int)) = true := decide_eq_true (by omega)
  have p2 : decide ((57343 : Int) < c) = false := decide_eq_false (by omega)
  have p3 : decide (c ≤ (1114111 : Int)) = true := decide_eq_true (by omega)
  have HI := Aside0.mk (show isCell c = false by unfold isCell; rw [p0, p1, p2, p3]; rfl)
  clear h ht
  by_cases z2 : k % 13 = 2
  · skip
    have q2 : (k % 13 == 2) = true := beq_iff_eq.mpr z2
    have q2b : decide (k % 13 = 2) = true := decide_eq_true z2
    have HL := Aside0.mk (show leafB (k % 13) 0 = true from leafB_bare _ (by omega))
    clear z2
    go_enter Tryd.func16, Tryd.ntmps16
    go_wp2_with fail
    refine (known_walk _ HT.out).mono ?_
    rintro e w1 ⟨rfl, hb1⟩
    have HB1 := Aside0.mk hb1
    clear hb1
    go_wp2_with fail
    refine (leaf_right 1 c w1.heap.size 1 _ (heap_alloc_new w1 _)).mono ?_
    rintro e w2 ⟨rfl, hb2⟩
    rw [leafB_one, HI.out]
    have HB2 := Aside0.mk (HB1.out.trans ((((Below.refl w1.heap.size w1).alloc (Nat.le_refl _) _).trans (hb2.mono (by simp))).mono HB1.out.size))
    clear hb2
    go_wp2_with fail
    refine (leaf_right (k % 13) 0 w2.heap.size 1 _ (heap_alloc_new w2 _)).mono ?_
    rintro e w3 ⟨rfl, hb3⟩
    rw [HL.out]
    have HB3 := Aside0.mk (HB2.out.trans ((((Below.refl w2.heap.size w2).alloc (Nat.le_refl _) _).trans (hb3.mono (by simp))).mono HB2.out.size))
    clear hb3
    go_wp2_with fail
    go_ret
    exact ⟨rfl, HB3.out⟩
  by_cases z4 : k % 13 = 4
  · skip
    have q2 : (k % 13 == 2) = false := beq_eq_false_iff_ne.mpr z2
    have q2b : decide (k % 13 = 2) = false := decide_eq_false z2
    have q4 : (k % 13 == 4) = true := beq_iff_eq.mpr z4
    have q4b : decide (k % 13 = 4) = true := decide_eq_true z4
    have HL := Aside0.mk (show leafB (k % 13) 0 = true from leafB_bare _ (by omega))
    clear z2 z4
    go_enter Tryd.func16, Tryd.ntmps16
    go_wp2_with fail
    refine (known_walk _ HT.out).mono ?_
    rintro e w1 ⟨rfl, hb1⟩
    have HB1 := Aside0.mk hb1
    clear hb1
    go_wp2_with fail
    refine (leaf_right 1 c w1.heap.size 1 _ (heap_alloc_new w1 _)).mono ?_
    rintro e w2 ⟨rfl, hb2⟩
    rw [leafB_one, HI.out]
    have HB2 := Aside0.mk (HB1.out.trans ((((Below.refl w1.heap.size w1).alloc (Nat.le_refl _) _).trans (hb2.mono (by simp))).mono HB1.out.size))
    clear hb2
    go_wp2_with fail
    refine (leaf_right (k % 13) 0 w2.heap.size 1 _ (heap_alloc_new w2 _)).mono ?_
    rintro e w3 ⟨rfl, hb3⟩
    rw [HL.out]
    have HB3 := Aside0.mk (HB2.out.trans ((((Below.refl w2.heap.size w2).alloc (Nat.le_refl _) _).trans (hb3.mono (by simp))).mono HB2.out.size))
    clear hb3
    go_wp2_with fail
    go_ret
    exact ⟨rfl, HB3.out⟩
  by_cases z5 : k % 13 = 5
  · skip
    have q2 : (k % 13 == 2) = false := beq_eq_false_iff_ne.mpr z2
    have q2b : decide (k % 13 = 2) = false := decide_eq_false z2
    have q4 : (k % 13 == 4) = false := beq_eq_false_iff_ne.mpr z4
    have q4b : decide (k % 13 = 4) = false := decide_eq_false z4
    have q5 : (k % 13 == 5) = true := beq_iff_eq.mpr z5
    have q5b : decide (k % 13 = 5) = true := decide_eq_true z5
    have HL := Aside0.mk (show leafB (k % 13) 0 = true from leafB_bare _ (by omega))
    clear z2 z4 z5
    go_enter Tryd.func16, Tryd.ntmps16
    go_wp2_with fail
    refine (known_walk _ HT.out).mono ?_
    rintro e w1 ⟨rfl, hb1⟩
    have HB1 := Aside0.mk hb1
    clear hb1
    go_wp2_with fail
    refine (leaf_right 1 c w1.heap.size 1 _ (heap_alloc_new w1 _)).mono ?_
    rintro e w2 ⟨rfl, hb2⟩
    rw [leafB_one, HI.out]
    have HB2 := Aside0.mk (HB1.out.trans ((((Below.refl w1.heap.size w1).alloc (Nat.le_refl _) _).trans (hb2.mono (by simp))).mono HB1.out.size))
    clear hb2
    go_wp2_with fail
    refine (leaf_right (k % 13) 0 w2.heap.size 1 _ (heap_alloc_new w2 _)).mono ?_
    rintro e w3 ⟨rfl, hb3⟩
    rw [HL.out]
    have HB3 := Aside0.mk (HB2.out.trans ((((Below.refl w2.heap.size w2).alloc (Nat.le_refl _) _).trans (hb3.mono (by simp))).mono HB2.out.size))
    clear hb3
    go_wp2_with fail
    go_ret
    exact ⟨rfl, HB3.out⟩
  by_cases z11 : k % 13 = 11
  · skip
    have q2 : (k % 13 == 2) = false := beq_eq_false_iff_ne.mpr z2
    have q2b : decide (k % 13 = 2) = false := decide_eq_false z2
    have q4 : (k % 13 == 4) = false := beq_eq_false_iff_ne.mpr z4
    have q4b : decide (k % 13 = 4) = false := decide_eq_false z4
    have q5 : (k % 13 == 5) = false := beq_eq_false_iff_ne.mpr z5
    have q5b : decide (k % 13 = 5) = false := decide_eq_false z5
    have q11 : (k % 13 == 11) = true := beq_iff_eq.mpr z11
    have q11b : decide (k % 13 = 11) = true := decide_eq_true z11
    have HL := Aside0.mk (show leafB (k % 13) 0 = true from leafB_bare _ (by omega))
    clear z2 z4 z5 z11
    go_enter Tryd.func16, Tryd.ntmps16
    go_wp2_with fail
    refine (known_walk _ HT.out).mono ?_
    rintro e w1 ⟨rfl, hb1⟩
    have HB1 := Aside0.mk hb1
    clear hb1
    go_wp2_with fail
    refine (leaf_right 1 c w1.heap.size 1 _ (heap_alloc_new w1 _)).mono ?_
    rintro e w2 ⟨rfl, hb2⟩
    rw [leafB_one, HI.out]
    have HB2 := Aside0.mk (HB1.out.trans ((((Below.refl w1.heap.size w1).alloc (Nat.le_refl _) _).trans (hb2.mono (by simp))).mono HB1.out.size))
    clear hb2
    go_wp2_with fail
    refine (leaf_right (k % 13) 0 w2.heap.size 1 _ (heap_alloc_new w2 _)).mono ?_
    rintro e w3 ⟨rfl, hb3⟩
    rw [HL.out]
    have HB3 := Aside0.mk (HB2.out.trans ((((Below.refl w2.heap.size w2).alloc (Nat.le_refl _) _).trans (hb3.mono (by simp))).mono HB2.out.size))
    clear hb3
    go_wp2_with fail
    go_ret
    exact ⟨rfl, HB3.out⟩
  by_cases z3 : k % 13 = 3
  · skip
    have q2 : (k % 13 == 2) = false := beq_eq_false_iff_ne.mpr z2
    have q2b : decide (k % 13 = 2) = false := decide_eq_false z2
    have q4 : (k % 13 == 4) = false := beq_eq_false_iff_ne.mpr z4
    have q4b : decide (k % 13 = 4) = false := decide_eq_false z4
    have q5 : (k % 13 == 5) = false := beq_eq_false_iff_ne.mpr z5
    have q5b : decide (k % 13 = 5) = false := decide_eq_false z5
    have q11 : (k % 13 == 11) = false := beq_eq_false_iff_ne.mpr z11
    have q11b : decide (k % 13 = 11) = false := decide_eq_false z11
    have q3 : (k % 13 == 3) = true := beq_iff_eq.mpr z3
    have q3b : decide (k % 13 = 3) = true := decide_eq_true z3
    have HL := Aside0.mk (show leafB (k % 13) 0 = true from leafB_bare _ (by omega))
    clear z2 z4 z5 z11 z3
    go_enter Tryd.func16, Tryd.ntmps16
    go_wp2_with fail
    refine (known_walk _ HT.out).mono ?_
    rintro e w1 ⟨rfl, hb1⟩
    have HB1 := Aside0.mk hb1
    clear hb1
    go_wp2_with fail
    refine (leaf_right 1 c w1.heap.size 1 _ (heap_alloc_new w1 _)).mono ?_
    rintro e w2 ⟨rfl, hb2⟩
    rw [leafB_one, HI.out]
    have HB2 := Aside0.mk (HB1.out.trans ((((Below.refl w1.heap.size w1).alloc (Nat.le_refl _) _).trans (hb2.mono (by simp))).mono HB1.out.size))
    clear hb2
    go_wp2_with fail
    refine (leaf_right (k % 13) 0 w2.heap.size 1 _ (heap_alloc_new w2 _)).mono ?_
    rintro e w3 ⟨rfl, hb3⟩
    rw [HL.out]
    have HB3 := Aside0.mk (HB2.out.trans ((((Below.refl w2.heap.size w2).alloc (Nat.le_refl _) _).trans (hb3.mono (by simp))).mono HB2.out.size))
    clear hb3
    go_wp2_with fail
    go_ret
    exact ⟨rfl, HB3.out⟩
  by_cases z1 : k % 13 = 1
  · skip
    have q2 : (k % 13 == 2) = false := beq_eq_false_iff_ne.mpr z2
    have q2b : decide (k % 13 = 2) = false := decide_eq_false z2
    have q4 : (k % 13 == 4) = false := beq_eq_false_iff_ne.mpr z4
    have q4b : decide (k % 13 = 4) = false := decide_eq_false z4
    have q5 : (k % 13 == 5) = false := beq_eq_false_iff_ne.mpr z5
    have q5b : decide (k % 13 = 5) = false := decide_eq_false z5
    have q11 : (k % 13 == 11) = false := beq_eq_false_iff_ne.mpr z11
    have q11b : decide (k % 13 = 11) = false := decide_eq_false z11
    have q3 : (k % 13 == 3) = false := beq_eq_false_iff_ne.mpr z3
    have q3b : decide (k % 13 = 3) = false := decide_eq_false z3
    have q1 : (k % 13 == 1) = true := beq_iff_eq.mpr z1
    have q1b : decide (k % 13 = 1) = true := decide_eq_true z1
    have HL := Aside0.mk (show leafB (k % 13) 0 = true by rw [z1, leafB_one]; rfl)
    clear z2 z4 z5 z11 z3 z1
    go_enter Tryd.func16, Tryd.ntmps16
    go_wp2_with fail
    refine (known_walk _ HT.out).mono ?_
    rintro e w1 ⟨rfl, hb1⟩
    have HB1 := Aside0.mk hb1
    clear hb1
    go_wp2_with fail
    refine (leaf_right 1 c w1.heap.size 1 _ (heap_alloc_new w1 _)).mono ?_
    rintro e w2 ⟨rfl, hb2⟩
    rw [leafB_one, HI.out]
    have HB2 := Aside0.mk (HB1.out.trans ((((Below.refl w1.heap.size w1).alloc (Nat.le_refl _) _).trans (hb2.mono (by simp))).mono HB1.out.size))
    clear hb2
    go_wp2_with fail
    refine (leaf_right (k % 13) 0 w2.heap.size 1 _ (heap_alloc_new w2 _)).mono ?_
    rintro e w3 ⟨rfl, hb3⟩
    rw [HL.out]
    have HB3 := Aside0.mk (HB2.out.trans ((((Below.refl w2.heap.size w2).alloc (Nat.le_refl _) _).trans (hb3.mono (by simp))).mono HB2.out.size))
    clear hb3
    go_wp2_with fail
    go_ret
    exact ⟨rfl, HB3.out⟩
  have q2 : (k % 13 == 2) = false := beq_eq_false_iff_ne.mpr z2
  have q2b : decide (k % 13 = 2) = false := decide_eq_false z2
  have q4 : (k % 13 == 4) = false := beq_eq_false_iff_ne.mpr z4
  have q4b : decide (k % 13 = 4) = false := decide_eq_false z4
  have q5 : (k % 13 == 5) = false := beq_eq_false_iff_ne.mpr z5
  have q5b : decide (k % 13 = 5) = false := decide_eq_false z5
  have q11 : (k % 13 == 11) = false := beq_eq_false_iff_ne.mpr z11
  have q11b : decide (k % 13 = 11) = false := decide_eq_false z11
  have q3 : (k % 13 == 3) = false := beq_eq_false_iff_ne.mpr z3
  have q3b : decide (k % 13 = 3) = false := decide_eq_false z3
  have q1 : (k % 13 == 1) = false := beq_eq_false_iff_ne.mpr z1
  have q1b : decide (k % 13 = 1) = false := decide_eq_false z1
  have HL := Aside0.mk (show leafB (k % 13) 0 = false from leafB_no _ z1 z2 z3 z4 z5 z11)
  clear z2 z4 z5 z11 z3 z1
  go_enter Tryd.func16, Tryd.ntmps16
  go_wp2_with fail
  refine (known_walk _ HT.out).mono ?_
  rintro e w1 ⟨rfl, hb1⟩
  have HB1 := Aside0.mk hb1
  clear hb1
  go_wp2_with fail
  refine (leaf_right 1 c w1.heap.size 1 _ (heap_alloc_new w1 _)).mono ?_
  rintro e w2 ⟨rfl, hb2⟩
  rw [leafB_one, HI.out]
  have HB2 := Aside0.mk (HB1.out.trans ((((Below.refl w1.heap.size w1).alloc (Nat.le_refl _) _).trans (hb2.mono (by simp))).mono HB1.out.size))
  clear hb2
  go_wp2_with fail
  refine (leaf_right (k % 13) 0 w2.heap.size 1 _ (heap_alloc_new w2 _)).mono ?_
  rintro e w3 ⟨rfl, hb3⟩
  rw [HL.out]
  have HB3 := Aside0.mk (HB2.out.trans ((((Below.refl w2.heap.size w2).alloc (Nat.le_refl _) _).trans (hb3.mono (by simp))).mono HB2.out.size))
  clear hb3
  go_wp2_with fail
  go_ret
  exact ⟨rfl, HB3.out⟩

set_option maxHeartbeats 16000000 in
set_option maxRecDepth 100000 in
theorem leaves_B (c k : Int) (hk0 : 0 ≤ k) (hk1 : k ≤ 255) (h : -256 ≤ c ∧ c < 55296) (w : World) (ht : Tabs1 w) : Calls Tryd.prog 16 #[.int .i32 c, .int .u8 k] w fun e w' => e = .returned (.bool true) ∧ Below w.heap.size w w' := by
  have HT := Aside0.mk ht
  have p0 : decide ((-256 : Int) ≤ c) = true := decide_eq_true (by omega)
  have p1 : decide (c < (55296 : Int)) = true := decide_eq_true (by omega)
  have p2 : decide ((57343 : Int) < c) = false := decide_eq_false (by omega)
  have p3 : decide (c ≤ (1114111 : Int)) = true := decide_eq_true (by omega)
  have HI := Aside0.mk (show isCell c = true by unfold isCell; rw [p0, p1, p2, p3]; rfl)
  clear h ht
  by_cases z2 : k % 13 = 2
  · skip
    have q2 : (k % 13 == 2) = true := beq_iff_eq.mpr z2
    have q2b : decide (k % 13 = 2) = true := decide_eq_true z2
    have HL := Aside0.mk (show leafB (k % 13) 0 = true from leafB_bare _ (by omega))
    clear z2
    go_enter Tryd.func16, Tryd.ntmps16
    go_wp2_with fail
    refine (known_walk _ HT.out).mono ?_
    rintro e w1 ⟨rfl, hb1⟩
    have HB1 := Aside0.mk hb1
    clear hb1
    go_wp2_with fail
    refine (leaf_right 1 c w1.heap.size 1 _ (heap_alloc_new w1 _)).mono ?_
    rintro e w2 ⟨rfl, hb2⟩
    rw [leafB_one, HI.out]
    have HB2 := Aside0.mk (HB1.out.trans ((((Below.refl w1.heap.size w1).alloc (Nat.le_refl _) _).trans (hb2.mono (by simp))).mono HB1.out.size))
    clear hb2
    go_wp2_with fail
    refine (leaf_right (k % 13) 0 w2.heap.size 1 _ (heap_alloc_new w2 _)).mono ?_
    rintro e w3 ⟨rfl, hb3⟩
    rw [HL.out]
    have HB3 := Aside0.mk (HB2.out.trans ((((Below.refl w2.heap.size w2).alloc (Nat.le_refl _) _).trans (hb3.mono (by simp))).mono HB2.out.size))
    clear hb3
    go_wp2_with fail
    go_ret
    exact ⟨rfl, HB3.out⟩
  by_cases z4 : k % 13 = 4
  · skip
    have q2 : (k % 13 == 2) = false := beq_eq_false_iff_ne.mpr z2
    have q2b : decide (k % 13 = 2) = false := decide_eq_false z2
    have q4 : (k % 13 == 4) = true := beq_iff_eq.mpr z4
    have q4b : decide (k % 13 = 4) = true := decide_eq_true z4
    have HL := Aside0.mk (show leafB (k % 13) 0 = true from leafB_bare _ (by omega))
    clear z2 z4
    go_enter Tryd.func16, Tryd.ntmps16
    go_wp2_with fail
    refine (known_walk _ HT.out).mono ?_
    rintro e w1 ⟨rfl, hb1⟩
    have HB1 := Aside0.mk hb1
    clear hb1
    go_wp2_with fail
    refine (leaf_right 1 c w1.heap.size 1 _ (heap_alloc_new w1 _)).mono ?_
    rintro e w2 ⟨rfl, hb2⟩
    rw [leafB_one, HI.out]
    have HB2 := Aside0.mk (HB1.out.trans ((((Below.refl w1.heap.size w1).alloc (Nat.le_refl _) _).trans (hb2.mono (by simp))).mono HB1.out.size))
    clear hb2
    go_wp2_with fail
    refine (leaf_right (k % 13) 0 w2.heap.size 1 _ (heap_alloc_new w2 _)).mono ?_
    rintro e w3 ⟨rfl, hb3⟩
    rw [HL.out]
    have HB3 := Aside0.mk (HB2.out.trans ((((Below.refl w2.heap.size w2).alloc (Nat.le_refl _) _).trans (hb3.mono (by simp))).mono HB2.out.size))
    clear hb3
    go_wp2_with fail
    go_ret
    exact ⟨rfl, HB3.out⟩
  by_cases z5 : k % 13 = 5
  · skip
    have q2 : (k % 13 == 2) = false := beq_eq_false_iff_ne.mpr z2
    have q2b : decide (k % 13 = 2) = false := decide_eq_false z2
    have q4 : (k % 13 == 4) = false := beq_eq_false_iff_ne.mpr z4
    have q4b : decide (k % 13 = 4) = false := decide_eq_false z4
    have q5 : (k % 13 == 5) = true := beq_iff_eq.mpr z5
    have q5b : decide (k % 13 = 5) = true := decide_eq_true z5
    have HL := Aside0.mk (show leafB (k % 13) 0 = true from leafB_bare _ (by omega))
    clear z2 z4 z5
    go_enter Tryd.func16, Tryd.ntmps16
    go_wp2_with fail
    refine (known_walk _ HT.out).mono ?_
    rintro e w1 ⟨rfl, hb1⟩
    have HB1 := Aside0.mk hb1
    clear hb1
    go_wp2_with fail
    refine (leaf_right 1 c w1.heap.size 1 _ (heap_alloc_new w1 _)).mono ?_
    rintro e w2 ⟨rfl, hb2⟩
    rw [leafB_one, HI.out]
    have HB2 := Aside0.mk (HB1.out.trans ((((Below.refl w1.heap.size w1).alloc (Nat.le_refl _) _).trans (hb2.mono (by simp))).mono HB1.out.size))
    clear hb2
    go_wp2_with fail
    refine (leaf_right (k % 13) 0 w2.heap.size 1 _ (heap_alloc_new w2 _)).mono ?_
    rintro e w3 ⟨rfl, hb3⟩
    rw [HL.out]
    have HB3 := Aside0.mk (HB2.out.trans ((((Below.refl w2.heap.size w2).alloc (Nat.le_refl _) _).trans (hb3.mono (by simp))).mono HB2.out.size))
    clear hb3
    go_wp2_with fail
    go_ret
    exact ⟨rfl, HB3.out⟩
  by_cases z11 : k % 13 = 11
  · skip
    have q2 : (k % 13 == 2) = false := beq_eq_false_iff_ne.mpr z2
    have q2b : decide (k % 13 = 2) = false := decide_eq_false z2
    have q4 : (k % 13 == 4) = false := beq_eq_false_iff_ne.mpr z4
    have q4b : decide (k % 13 = 4) = false := decide_eq_false z4
    have q5 : (k % 13 == 5) = false := beq_eq_false_iff_ne.mpr z5
    have q5b : decide (k % 13 = 5) = false := decide_eq_false z5
    have q11 : (k % 13 == 11) = true := beq_iff_eq.mpr z11
    have q11b : decide (k % 13 = 11) = true := decide_eq_true z11
    have HL := Aside0.mk (show leafB (k % 13) 0 = true from leafB_bare _ (by omega))
    clear z2 z4 z5 z11
    go_enter Tryd.func16, Tryd.ntmps16
    go_wp2_with fail
    refine (known_walk _ HT.out).mono ?_
    rintro e w1 ⟨rfl, hb1⟩
    have HB1 := Aside0.mk hb1
    clear hb1
    go_wp2_with fail
    refine (leaf_right 1 c w1.heap.size 1 _ (heap_alloc_new w1 _)).mono ?_
    rintro e w2 ⟨rfl, hb2⟩
    rw [leafB_one, HI.out]
    have HB2 := Aside0.mk (HB1.out.trans ((((Below.refl w1.heap.size w1).alloc (Nat.le_refl _) _).trans (hb2.mono (by simp))).mono HB1.out.size))
    clear hb2
    go_wp2_with fail
    refine (leaf_right (k % 13) 0 w2.heap.size 1 _ (heap_alloc_new w2 _)).mono ?_
    rintro e w3 ⟨rfl, hb3⟩
    rw [HL.out]
    have HB3 := Aside0.mk (HB2.out.trans ((((Below.refl w2.heap.size w2).alloc (Nat.le_refl _) _).trans (hb3.mono (by simp))).mono HB2.out.size))
    clear hb3
    go_wp2_with fail
    go_ret
    exact ⟨rfl, HB3.out⟩
  by_cases z3 : k % 13 = 3
  · skip
    have q2 : (k % 13 == 2) = false := beq_eq_false_iff_ne.mpr z2
    have q2b : decide (k % 13 = 2) = false := decide_eq_false z2
    have q4 : (k % 13 == 4) = false := beq_eq_false_iff_ne.mpr z4
    have q4b : decide (k % 13 = 4) = false := decide_eq_false z4
    have q5 : (k % 13 == 5) = false := beq_eq_false_iff_ne.mpr z5
    have q5b : decide (k % 13 = 5) = false := decide_eq_false z5
    have q11 : (k % 13 == 11) = false := beq_eq_false_iff_ne.mpr z11
    have q11b : decide (k % 13 = 11) = false := decide_eq_false z11
    have q3 : (k % 13 == 3) = true := beq_iff_eq.mpr z3
    have q3b : decide (k % 13 = 3) = true := decide_eq_true z3
    have HL := Aside0.mk (show leafB (k % 13) 0 = true from leafB_bare _ (by omega))
    clear z2 z4 z5 z11 z3
    go_enter Tryd.func16, Tryd.ntmps16
    go_wp2_with fail
    refine (known_walk _ HT.out).mono ?_
    rintro e w1 ⟨rfl, hb1⟩
    have HB1 := Aside0.mk hb1
    clear hb1
    go_wp2_with fail
    refine (leaf_right 1 c w1.heap.size 1 _ (heap_alloc_new w1 _)).mono ?_
    rintro e w2 ⟨rfl, hb2⟩
    rw [leafB_one, HI.out]
    have HB2 := Aside0.mk (HB1.out.trans ((((Below.refl w1.heap.size w1).alloc (Nat.le_refl _) _).trans (hb2.mono (by simp))).mono HB1.out.size))
    clear hb2
    go_wp2_with fail
    refine (leaf_right (k % 13) 0 w2.heap.size 1 _ (heap_alloc_new w2 _)).mono ?_
    rintro e w3 ⟨rfl, hb3⟩
    rw [HL.out]
    have HB3 := Aside0.mk (HB2.out.trans ((((Below.refl w2.heap.size w2).alloc (Nat.le_refl _) _).trans (hb3.mono (by simp))).mono HB2.out.size))
    clear hb3
    go_wp2_with fail
    go_ret
    exact ⟨rfl, HB3.out⟩
  by_cases z1 : k % 13 = 1
  · skip
    have q2 : (k % 13 == 2) = false := beq_eq_false_iff_ne.mpr z2
    have q2b : decide (k % 13 = 2) = false := decide_eq_false z2
    have q4 : (k % 13 == 4) = false := beq_eq_false_iff_ne.mpr z4
    have q4b : decide (k % 13 = 4) = false := decide_eq_false z4
    have q5 : (k % 13 == 5) = false := beq_eq_false_iff_ne.mpr z5
    have q5b : decide (k % 13 = 5) = false := decide_eq_false z5
    have q11 : (k % 13 == 11) = false := beq_eq_false_iff_ne.mpr z11
    have q11b : decide (k % 13 = 11) = false := decide_eq_false z11
    have q3 : (k % 13 == 3) = false := beq_eq_false_iff_ne.mpr z3
    have q3b : decide (k % 13 = 3) = false := decide_eq_false z3
    have q1 : (k % 13 == 1) = true := beq_iff_eq.mpr z1
    have q1b : decide (k % 13 = 1) = true := decide_eq_true z1
    have HL := Aside0.mk (show leafB (k % 13) 0 = true by rw [z1, leafB_one]; rfl)
    clear z2 z4 z5 z11 z3 z1
    go_enter Tryd.func16, Tryd.ntmps16
    go_wp2_with fail
    refine (known_walk _ HT.out).mono ?_
    rintro e w1 ⟨rfl, hb1⟩
    have HB1 := Aside0.mk hb1
    clear hb1
    go_wp2_with fail
    refine (leaf_right 1 c w1.heap.size 1 _ (heap_alloc_new w1 _)).mono ?_
    rintro e w2 ⟨rfl, hb2⟩
    rw [leafB_one, HI.out]
    have HB2 := Aside0.mk (HB1.out.trans ((((Below.refl w1.heap.size w1).alloc (Nat.le_refl _) _).trans (hb2.mono (by simp))).mono HB1.out.size))
    clear hb2
    go_wp2_with fail
    refine (leaf_right (k % 13) 0 w2.heap.size 1 _ (heap_alloc_new w2 _)).mono ?_
    rintro e w3 ⟨rfl, hb3⟩
    rw [HL.out]
    have HB3 := Aside0.mk (HB2.out.trans ((((Below.refl w2.heap.size w2).alloc (Nat.le_refl _) _).trans (hb3.mono (by simp))).mono HB2.out.size))
    clear hb3
    go_wp2_with fail
    go_ret
    exact ⟨rfl, HB3.out⟩
  have q2 : (k % 13 == 2) = false := beq_eq_false_iff_ne.mpr z2
  have q2b : decide (k % 13 = 2) = false := decide_eq_false z2
  have q4 : (k % 13 == 4) = false := beq_eq_false_iff_ne.mpr z4
  have q4b : decide (k % 13 = 4) = false := decide_eq_false z4
  have q5 : (k % 13 == 5) = false := beq_eq_false_iff_ne.mpr z5
  have q5b : decide (k % 13 = 5) = false := decide_eq_false z5
  have q11 : (k % 13 == 11) = false := beq_eq_false_iff_ne.mpr z11
  have q11b : decide (k % 13 = 11) = false := decide_eq_false z11
  have q3 : (k % 13 == 3) = false := beq_eq_false_iff_ne.mpr z3
  have q3b : decide (k % 13 = 3) = false := decide_eq_false z3
  have q1 : (k % 13 == 1) = false := beq_eq_false_iff_ne.mpr z1
  have q1b : decide (k % 13 = 1) = false := decide_eq_false z1
  have HL := Aside0.mk (show leafB (k % 13) 0 = false from leafB_no _ z1 z2 z3 z4 z5 z11)
  clear z2 z4 z5 z11 z3 z1
  go_enter Tryd.func16, Tryd.ntmps16
  go_wp2_with fail
  refine (known_walk _ HT.out).mono ?_
  rintro e w1 ⟨rfl, hb1⟩
  have HB1 := Aside0.mk hb1
  clear hb1
  go_wp2_with fail
  refine (leaf_right 1 c w1.heap.size 1 _ (heap_alloc_new w1 _)).mono ?_
  rintro e w2 ⟨rfl, hb2⟩
  rw [leafB_one, HI.out]
  have HB2 := Aside0.mk (HB1.out.trans ((((Below.refl w1.heap.size w1).alloc (Nat.le_refl _) _).trans (hb2.mono (by simp))).mono HB1.out.size))
  clear hb2
  go_wp2_with fail
  refine (leaf_right (k % 13) 0 w2.heap.size 1 _ (heap_alloc_new w2 _)).mono ?_
  rintro e w3 ⟨rfl, hb3⟩
  rw [HL.out]
  have HB3 := Aside0.mk (HB2.out.trans ((((Below.refl w2.heap.size w2).alloc (Nat.le_refl _) _).trans (hb3.mono (by simp))).mono HB2.out.size))
  clear hb3
  go_wp2_with fail
  go_ret
  exact ⟨rfl, HB3.out⟩

set_option maxHeartbeats 16000000 in
set_option maxRecDepth 100000 in
theorem leaves_C (c k : Int) (hk0 : 0 ≤ k) (hk1 : k ≤ 255) (h : 55296 ≤ c ∧ c ≤ 57343) (w : World) (ht : Tabs1 w) : Calls Tryd.prog 16 #[.int .i32 c, .int .u8 k] w fun e w' => e = .returned (.bool true) ∧ Below w.heap.size w w' := by
  have HT := Aside0.mk ht
  have p0 : decide ((-256 : Int) ≤ c) = true := decide_eq_true (by omega)
  have p1 : decide (c < (55296 : Int)) = false := decide_eq_false (by omega)
  have p2 : decide ((57343 : Int) < c) = false := decide_eq_false (by omega)
  have p3 : decide (c ≤ (1114111 : Int)) = true := decide_eq_true (by omega)
  have HI := Aside0.mk (show isCell c = false by unfold isCell; rw [p0, p1, p2, p3]; rfl)
  clear h ht
  by_cases z2 : k % 13 = 2
  · skip
    have q2 : (k % 13 == 2) = true := beq_iff_eq.mpr z2
    have q2b : decide (k % 13 = 2) = true := decide_eq_true z2
    have HL := Aside0.mk (show leafB (k % 13) 0 = true from leafB_bare _ (by omega))
    clear z2
    go_enter Tryd.func16, Tryd.ntmps16
    go_wp2_with fail
    refine (known_walk _ HT.out).mono ?_
    rintro e w1 ⟨rfl, hb1⟩
    have HB1 := Aside0.mk hb1
    clear hb1
    go_wp2_with fail
    refine (leaf_right 1 c w1.heap.size 1 _ (heap_alloc_new w1 _)).mono ?_
    rintro e w2 ⟨rfl, hb2⟩
    rw [leafB_one, HI.out]
    have HB2 := Aside0.mk (HB1.out.trans ((((Below.refl w1.heap.size w1).alloc (Nat.le_refl _) _).trans (hb2.mono (by simp))).mono HB1.out.size))
    clear hb2
    go_wp2_with fail
    refine (leaf_right (k % 13) 0 w2.heap.size 1 _ (heap_alloc_new w2 _)).mono ?_
    rintro e w3 ⟨rfl, hb3⟩
    rw [HL.out]
    have HB3 := Aside0.mk (HB2.out.trans ((((Below.refl w2.heap.size w2).alloc (Nat.le_refl _) _).trans (hb3.mono (by simp))).mono HB2.out.size))
    clear hb3
    go_wp2_with fail
    go_ret
    exact ⟨rfl, HB3.out⟩
  by_cases z4 : k % 13 = 4
  · skip
    have q2 : (k % 13 == 2) = false := beq_eq_false_iff_ne.mpr z2
    have q2b : decide (k % 13 = 2) = false := decide_eq_false z2
    have q4 : (k % 13 == 4) = true := beq_iff_eq.mpr z4
    have q4b : decide (k % 13 = 4) = true := decide_eq_true z4
    have HL := Aside0.mk (show leafB (k % 13) 0 = true from leafB_bare _ (by omega))
    clear z2 z4
    go_enter Tryd.func16, Tryd.ntmps16
    go_wp2_with fail
    refine (known_walk _ HT.out).mono ?_
    rintro e w1 ⟨rfl, hb1⟩
    have HB1 := Aside0.mk hb1
    clear hb1
    go_wp2_with fail
    refine (leaf_right 1 c w1.heap.size 1 _ (heap_alloc_new w1 _)).mono ?_
    rintro e w2 ⟨rfl, hb2⟩
    rw [leafB_one, HI.out]
    have HB2 := Aside0.mk (HB1.out.trans ((((Below.refl w1.heap.size w1).alloc (Nat.le_refl _) _).trans (hb2.mono (by simp))).mono HB1.out.size))
    clear hb2
    go_wp2_with fail
    refine (leaf_right (k % 13) 0 w2.heap.size 1 _ (heap_alloc_new w2 _)).mono ?_
    rintro e w3 ⟨rfl, hb3⟩
    rw [HL.out]
    have HB3 := Aside0.mk (HB2.out.trans ((((Below.refl w2.heap.size w2).alloc (Nat.le_refl _) _).trans (hb3.mono (by simp))).mono HB2.out.size))
    clear hb3
    go_wp2_with fail
    go_ret
    exact ⟨rfl, HB3.out⟩
  by_cases z5 : k % 13 = 5
  · skip
    have q2 : (k % 13 == 2) = false := beq_eq_false_iff_ne.mpr z2
    have q2b : decide (k % 13 = 2) = false := decide_eq_false z2
    have q4 : (k % 13 == 4) = false := beq_eq_false_iff_ne.mpr z4
    have q4b : decide (k % 13 = 4) = false := decide_eq_false z4
    have q5 : (k % 13 == 5) = true := beq_iff_eq.mpr z5
    have q5b : decide (k % 13 = 5) = true := decide_eq_true z5
    have HL := Aside0.mk (show leafB (k % 13) 0 = true from leafB_bare _ (by omega))
    clear z2 z4 z5
    go_enter Tryd.func16, Tryd.ntmps16
    go_wp2_with fail
    refine (known_walk _ HT.out).mono ?_
    rintro e w1 ⟨rfl, hb1⟩
    have HB1 := Aside0.mk hb1
    clear hb1
    go_wp2_with fail
    refine (leaf_right 1 c w1.heap.size 1 _ (heap_alloc_new w1 _)).mono ?_
    rintro e w2 ⟨rfl, hb2⟩
    rw [leafB_one, HI.out]
    have HB2 := Aside0.mk (HB1.out.trans ((((Below.refl w1.heap.size w1).alloc (Nat.le_refl _) _).trans (hb2.mono (by simp))).mono HB1.out.size))
    clear hb2
    go_wp2_with fail
    refine (leaf_right (k % 13) 0 w2.heap.size 1 _ (heap_alloc_new w2 _)).mono ?_
    rintro e w3 ⟨rfl, hb3⟩
    rw [HL.out]
    have HB3 := Aside0.mk (HB2.out.trans ((((Below.refl w2.heap.size w2).alloc (Nat.le_refl _) _).trans (hb3.mono (by simp))).mono HB2.out.size))
    clear hb3
    go_wp2_with fail
    go_ret
    exact ⟨rfl, HB3.out⟩
  by_cases z11 : k % 13 = 11
  · skip
    have q2 : (k % 13 == 2) = false := beq_eq_false_iff_ne.mpr z2
    have q2b : decide (k % 13 = 2) = false := decide_eq_false z2
    have q4 : (k % 13 == 4) = false := beq_eq_false_iff_ne.mpr z4
    have q4b : decide (k % 13 = 4) = false := decide_eq_false z4
    have q5 : (k % 13 == 5) = false := beq_eq_false_iff_ne.mpr z5
    have q5b : decide (k % 13 = 5) = false := decide_eq_false z5
    have q11 : (k % 13 == 11) = true := beq_iff_eq.mpr z11
    have q11b : decide (k % 13 = 11) = true := decide_eq_true z11
    have HL := Aside0.mk (show leafB (k % 13) 0 = true from leafB_bare _ (by omega))
    clear z2 z4 z5 z11
    go_enter Tryd.func16, Tryd.ntmps16
    go_wp2_with fail
    refine (known_walk _ HT.out).mono ?_
    rintro e w1 ⟨rfl, hb1⟩
    have HB1 := Aside0.mk hb1
    clear hb1
    go_wp2_with fail
    refine (leaf_right 1 c w1.heap.size 1 _ (heap_alloc_new w1 _)).mono ?_
    rintro e w2 ⟨rfl, hb2⟩
    rw [leafB_one, HI.out]
    have HB2 := Aside0.mk (HB1.out.trans ((((Below.refl w1.heap.size w1).alloc (Nat.le_refl _) _).trans (hb2.mono (by simp))).mono HB1.out.size))
    clear hb2
    go_wp2_with fail
    refine (leaf_right (k % 13) 0 w2.heap.size 1 _ (heap_alloc_new w2 _)).mono ?_
    rintro e w3 ⟨rfl, hb3⟩
    rw [HL.out]
    have HB3 := Aside0.mk (HB2.out.trans ((((Below.refl w2.heap.size w2).alloc (Nat.le_refl _) _).trans (hb3.mono (by simp))).mono HB2.out.size))
    clear hb3
    go_wp2_with fail
    go_ret
    exact ⟨rfl, HB3.out⟩
  by_cases z3 : k % 13 = 3
  · skip
    have q2 : (k % 13 == 2) = false := beq_eq_false_iff_ne.mpr z2
    have q2b : decide (k % 13 = 2) = false := decide_eq_false z2
    have q4 : (k % 13 == 4) = false := beq_eq_false_iff_ne.mpr z4
    have q4b : decide (k % 13 = 4) = false := decide_eq_false z4
    have q5 : (k % 13 == 5) = false := beq_eq_false_iff_ne.mpr z5
    have q5b : decide (k % 13 = 5) = false := decide_eq_false z5
    have q11 : (k % 13 == 11) = false := beq_eq_false_iff_ne.mpr z11
    have q11b : decide (k % 13 = 11) = false := decide_eq_false z11
    have q3 : (k % 13 == 3) = true := beq_iff_eq.mpr z3
    have q3b : decide (k % 13 = 3) = true := decide_eq_true z3
    have HL := Aside0.mk (show leafB (k % 13) 0 = true from leafB_bare _ (by omega))
    clear z2 z4 z5 z11 z3
    go_enter Tryd.func16, Tryd.ntmps16
    go_wp2_with fail
    refine (known_walk _ HT.out).mono ?_
    rintro e w1 ⟨rfl, hb1⟩
    have HB1 := Aside0.mk hb1
    clear hb1
    go_wp2_with fail
    refine (leaf_right 1 c w1.heap.size 1 _ (heap_alloc_new w1 _)).mono ?_
    rintro e w2 ⟨rfl, hb2⟩
    rw [leafB_one, HI.out]
    have HB2 := Aside0.mk (HB1.out.trans ((((Below.refl w1.heap.size w1).alloc (Nat.le_refl _) _).trans (hb2.mono (by simp))).mono HB1.out.size))
    clear hb2
    go_wp2_with fail
    refine (leaf_right (k % 13) 0 w2.heap.size 1 _ (heap_alloc_new w2 _)).mono ?_
    rintro e w3 ⟨rfl, hb3⟩
    rw [HL.out]
    have HB3 := Aside0.mk (HB2.out.trans ((((Below.refl w2.heap.size w2).alloc (Nat.le_refl _) _).trans (hb3.mono (by simp))).mono HB2.out.size))
    clear hb3
    go_wp2_with fail
    go_ret
    exact ⟨rfl, HB3.out⟩
  by_cases z1 : k % 13 = 1
  · skip
    have q2 : (k % 13 == 2) = false := beq_eq_false_iff_ne.mpr z2
    have q2b : decide (k % 13 = 2) = false := decide_eq_false z2
    have q4 : (k % 13 == 4) = false := beq_eq_false_iff_ne.mpr z4
    have q4b : decide (k % 13 = 4) = false := decide_eq_false z4
    have q5 : (k % 13 == 5) = false := beq_eq_false_iff_ne.mpr z5
    have q5b : decide (k % 13 = 5) = false := decide_eq_false z5
    have q11 : (k % 13 == 11) = false := beq_eq_false_iff_ne.mpr z11
    have q11b : decide (k % 13 = 11) = false := decide_eq_false z11
    have q3 : (k % 13 == 3) = false := beq_eq_false_iff_ne.mpr z3
    have q3b : decide (k % 13 = 3) = false := decide_eq_false z3
    have q1 : (k % 13 == 1) = true := beq_iff_eq.mpr z1
    have q1b : decide (k % 13 = 1) = true := decide_eq_true z1
    have HL := Aside0.mk (show leafB (k % 13) 0 = true by rw [z1, leafB_one]; rfl)
    clear z2 z4 z5 z11 z3 z1
    go_enter Tryd.func16, Tryd.ntmps16
    go_wp2_with fail
    refine (known_walk _ HT.out).mono ?_
    rintro e w1 ⟨rfl, hb1⟩
    have HB1 := Aside0.mk hb1
    clear hb1
    go_wp2_with fail
    refine (leaf_right 1 c w1.heap.size 1 _ (heap_alloc_new w1 _)).mono ?_
    rintro e w2 ⟨rfl, hb2⟩
    rw [leafB_one, HI.out]
    have HB2 := Aside0.mk (HB1.out.trans ((((Below.refl w1.heap.size w1).alloc (Nat.le_refl _) _).trans (hb2.mono (by simp))).mono HB1.out.size))
    clear hb2
    go_wp2_with fail
    refine (leaf_right (k % 13) 0 w2.heap.size 1 _ (heap_alloc_new w2 _)).mono ?_
    rintro e w3 ⟨rfl, hb3⟩
    rw [HL.out]
    have HB3 := Aside0.mk (HB2.out.trans ((((Below.refl w2.heap.size w2).alloc (Nat.le_refl _) _).trans (hb3.mono (by simp))).mono HB2.out.size))
    clear hb3
    go_wp2_with fail
    go_ret
    exact ⟨rfl, HB3.out⟩
  have q2 : (k % 13 == 2) = false := beq_eq_false_iff_ne.mpr z2
  have q2b : decide (k % 13 = 2) = false := decide_eq_false z2
  have q4 : (k % 13 == 4) = false := beq_eq_false_iff_ne.mpr z4
  have q4b : decide (k % 13 = 4) = false := decide_eq_false z4
  have q5 : (k % 13 == 5) = false := beq_eq_false_iff_ne.mpr z5
  have q5b : decide (k % 13 = 5) = false := decide_eq_false z5
  have q11 : (k % 13 == 11) = false := beq_eq_false_iff_ne.mpr z11
  have q11b : decide (k % 13 = 11) = false := decide_eq_false z11
  have q3 : (k % 13 == 3) = false := beq_eq_false_iff_ne.mpr z3
  have q3b : decide (k % 13 = 3) = false := decide_eq_false z3
  have q1 : (k % 13 == 1) = false := beq_eq_false_iff_ne.mpr z1
  have q1b : decide (k % 13 = 1) = false := decide_eq_false z1
  have HL := Aside0.mk (show leafB (k % 13) 0 = false from leafB_no _ z1 z2 z3 z4 z5 z11)
  clear z2 z4 z5 z11 z3 z1
  go_enter Tryd.func16, Tryd.ntmps16
  go_wp2_with fail
  refine (known_walk _ HT.out).mono ?_
  rintro e w1 ⟨rfl, hb1⟩
  have HB1 := Aside0.mk hb1
  clear hb1
  go_wp2_with fail
  refine (leaf_right 1 c w1.heap.size 1 _ (heap_alloc_new w1 _)).mono ?_
  rintro e w2 ⟨rfl, hb2⟩
  rw [leafB_one, HI.out]
  have HB2 := Aside0.mk (HB1.out.trans ((((Below.refl w1.heap.size w1).alloc (Nat.le_refl _) _).trans (hb2.mono (by simp))).mono HB1.out.size))
  clear hb2
  go_wp2_with fail
  refine (leaf_right (k % 13) 0 w2.heap.size 1 _ (heap_alloc_new w2 _)).mono ?_
  rintro e w3 ⟨rfl, hb3⟩
  rw [HL.out]
  have HB3 := Aside0.mk (HB2.out.trans ((((Below.refl w2.heap.size w2).alloc (Nat.le_refl _) _).trans (hb3.mono (by simp))).mono HB2.out.size))
  clear hb3
  go_wp2_with fail
  go_ret
  exact ⟨rfl, HB3.out⟩

set_option maxHeartbeats 16000000 in
set_option maxRecDepth 100000 in
theorem leaves_D (c k : Int) (hk0 : 0 ≤ k) (hk1 : k ≤ 255) (h : 57343 < c ∧ c ≤ 1114111) (w : World) (ht : Tabs1 w) : Calls Tryd.prog 16 #[.int .i32 c, .int .u8 k] w fun e w' => e = .returned (.bool true) ∧ Below w.heap.size w w' := by
  have HT := Aside0.mk ht
  have p0 : decide ((-256 : Int) ≤ c) = true := decide_eq_true (by omega)
  have p1 : decide (c < (55296 : Int)) = false := decide_eq_false (by omega)
  have p2 : decide ((57343 : Int) < c) = true := decide_eq_true (by omega)
  have p3 : decide (c ≤ (1114111 : Int)) = true := decide_eq_true (by omega)
  have HI := Aside0.mk (show isCell c = true by unfold isCell; rw [p0, p1, p2, p3]; rfl)
  clear h ht
  by_cases z2 : k % 13 = 2
  · skip
    have q2 : (k % 13 == 2) = true := beq_iff_eq.mpr z2
    have q2b : decide (k % 13 = 2) = true := decide_eq_true z2
    have HL := Aside0.mk (show leafB (k % 13) 0 = true from leafB_bare _ (by omega))
    clear z2
    go_enter Tryd.func16, Tryd.ntmps16
    go_wp2_with fail
    refine (known_walk _ HT.out).mono ?_
    rintro e w1 ⟨rfl, hb1⟩
    have HB1 := Aside0.mk hb1
    clear hb1
    go_wp2_with fail
    refine (leaf_right 1 c w1.heap.size 1 _ (heap_alloc_new w1 _)).mono ?_
    rintro e w2 ⟨rfl, hb2⟩
    rw [leafB_one, HI.out]
    have HB2 := Aside0.mk (HB1.out.trans ((((Below.refl w1.heap.size w1).alloc (Nat.le_refl _) _).trans (hb2.mono (by simp))).mono HB1.out.size))
    clear hb2
    go_wp2_with fail
    refine (leaf_right (k % 13) 0 w2.heap.size 1 _ (heap_alloc_new w2 _)).mono ?_
    rintro e w3 ⟨rfl, hb3⟩
    rw [HL.out]
    have HB3 := Aside0.mk (HB2.out.trans ((((Below.refl w2.heap.size w2).alloc (Nat.le_refl _) _).trans (hb3.mono (by simp))).mono HB2.out.size))
    clear hb3
    go_wp2_with fail
    go_ret
    exact ⟨rfl, HB3.out⟩
  by_cases z4 : k % 13 = 4
  · skip
    have q2 : (k % 13 == 2) = false := beq_eq_false_iff_ne.mpr z2
    have q2b : decide (k % 13 = 2) = false := decide_eq_false z2
    have q4 : (k % 13 == 4) = true := beq_iff_eq.mpr z4
    have q4b : decide (k % 13 = 4) = true := decide_eq_true z4
    have HL := Aside0.mk (show leafB (k % 13) 0 = true from leafB_bare _ (by omega))
    clear z2 z4
    go_enter Tryd.func16, Tryd.ntmps16
    go_wp2_with fail
    refine (known_walk _ HT.out).mono ?_
    rintro e w1 ⟨rfl, hb1⟩
    have HB1 := Aside0.mk hb1
    clear hb1
    go_wp2_with fail
    refine (leaf_right 1 c w1.heap.size 1 _ (heap_alloc_new w1 _)).mono ?_
    rintro e w2 ⟨rfl, hb2⟩
    rw [leafB_one, HI.out]
    have HB2 := Aside0.mk (HB1.out.trans ((((Below.refl w1.heap.size w1).alloc (Nat.le_refl _) _).trans (hb2.mono (by simp))).mono HB1.out.size))
    clear hb2
    go_wp2_with fail
    refine (leaf_right (k % 13) 0 w2.heap.size 1 _ (heap_alloc_new w2 _)).mono ?_
    rintro e w3 ⟨rfl, hb3⟩
    rw [HL.out]
    have HB3 := Aside0.mk (HB2.out.trans ((((Below.refl w2.heap.size w2).alloc (Nat.le_refl _) _).trans (hb3.mono (by simp))).mono HB2.out.size))
    clear hb3
    go_wp2_with fail
    go_ret
    exact ⟨rfl, HB3.out⟩
  by_cases z5 : k % 13 = 5
  · skip
    have q2 : (k % 13 == 2) = false := beq_eq_false_iff_ne.mpr z2
    have q2b : decide (k % 13 = 2) = false := decide_eq_false z2
    have q4 : (k % 13 == 4) = false := beq_eq_false_iff_ne.mpr z4
    have q4b : decide (k % 13 = 4) = false := decide_eq_false z4
    have q5 : (k % 13 == 5) = true := beq_iff_eq.mpr z5
    have q5b : decide (k % 13 = 5) = true := decide_eq_true z5
    have HL := Aside0.mk (show leafB (k % 13) 0 = true from leafB_bare _ (by omega))
    clear z2 z4 z5
    go_enter Tryd.func16, Tryd.ntmps16
    go_wp2_with fail
    refine (known_walk _ HT.out).mono ?_
    rintro e w1 ⟨rfl, hb1⟩
    have HB1 := Aside0.mk hb1
    clear hb1
    go_wp2_with fail
    refine (leaf_right 1 c w1.heap.size 1 _ (heap_alloc_new w1 _)).mono ?_
    rintro e w2 ⟨rfl, hb2⟩
    rw [leafB_one, HI.out]
    have HB2 := Aside0.mk (HB1.out.trans ((((Below.refl w1.heap.size w1).alloc (Nat.le_refl _) _).trans (hb2.mono (by simp))).mono HB1.out.size))
    clear hb2
    go_wp2_with fail
    refine (leaf_right (k % 13) 0 w2.heap.size 1 _ (heap_alloc_new w2 _)).mono ?_
    rintro e w3 ⟨rfl, hb3⟩
    rw [HL.out]
    have HB3 := Aside0.mk (HB2.out.trans ((((Below.refl w2.heap.size w2).alloc (Nat.le_refl _) _).trans (hb3.mono (by simp))).mono HB2.out.size))
    clear hb3
    go_wp2_with fail
    go_ret
    exact ⟨rfl, HB3.out⟩
  by_cases z11 : k % 13 = 11
  · skip
    have q2 : (k % 13 == 2) = false := beq_eq_false_iff_ne.mpr z2
    have q2b : decide (k % 13 = 2) = false := decide_eq_false z2
    have q4 : (k % 13 == 4) = false := beq_eq_false_iff_ne.mpr z4
    have q4b : decide (k % 13 = 4) = false := decide_eq_false z4
    have q5 : (k % 13 == 5) = false := beq_eq_false_iff_ne.mpr z5
    have q5b : decide (k % 13 = 5) = false := decide_eq_false z5
    have q11 : (k % 13 == 11) = true := beq_iff_eq.mpr z11
    have q11b : decide (k % 13 = 11) = true := decide_eq_true z11
    have HL := Aside0.mk (show leafB (k % 13) 0 = true from leafB_bare _ (by omega))
    clear z2 z4 z5 z11
    go_enter Tryd.func16, Tryd.ntmps16
    go_wp2_with fail
    refine (known_walk _ HT.out).mono ?_
    rintro e w1 ⟨rfl, hb1⟩
    have HB1 := Aside0.mk hb1
    clear hb1
    go_wp2_with fail
    refine (leaf_right 1 c w1.heap.size 1 _ (heap_alloc_new w1 _)).mono ?_
    rintro e w2 ⟨rfl, hb2⟩
    rw [leafB_one, HI.out]
    have HB2 := Aside0.mk (HB1.out.trans ((((Below.refl w1.heap.size w1).alloc (Nat.le_refl _) _).trans (hb2.mono (by simp))).mono HB1.out.size))
    clear hb2
    go_wp2_with fail
    refine (leaf_right (k % 13) 0 w2.heap.size 1 _ (heap_alloc_new w2 _)).mono ?_
    rintro e w3 ⟨rfl, hb3⟩
    rw [HL.out]
    have HB3 := Aside0.mk (HB2.out.trans ((((Below.refl w2.heap.size w2).alloc (Nat.le_refl _) _).trans (hb3.mono (by simp))).mono HB2.out.size))
    clear hb3
    go_wp2_with fail
    go_ret
    exact ⟨rfl, HB3.out⟩
  by_cases z3 : k % 13 = 3
  · skip
    have q2 : (k % 13 == 2) = false := beq_eq_false_iff_ne.mpr z2
    have q2b : decide (k % 13 = 2) = false := decide_eq_false z2
    have q4 : (k % 13 == 4) = false := beq_eq_false_iff_ne.mpr z4
    have q4b : decide (k % 13 = 4) = false := decide_eq_false z4
    have q5 : (k % 13 == 5) = false := beq_eq_false_iff_ne.mpr z5
    have q5b : decide (k % 13 = 5) = false := decide_eq_false z5
    have q11 : (k % 13 == 11) = false := beq_eq_false_iff_ne.mpr z11
    have q11b : decide (k % 13 = 11) = false := decide_eq_false z11
    have q3 : (k % 13 == 3) = true := beq_iff_eq.mpr z3
    have q3b : decide (k % 13 = 3) = true := decide_eq_true z3
    have HL := Aside0.mk (show leafB (k % 13) 0 = true from leafB_bare _ (by omega))
    clear z2 z4 z5 z11 z3
    go_enter Tryd.func16, Tryd.ntmps16
    go_wp2_with fail
    refine (known_walk _ HT.out).mono ?_
    rintro e w1 ⟨rfl, hb1⟩
    have HB1 := Aside0.mk hb1
    clear hb1
    go_wp2_with fail
    refine (leaf_right 1 c w1.heap.size 1 _ (heap_alloc_new w1 _)).mono ?_
    rintro e w2 ⟨rfl, hb2⟩
    rw [leafB_one, HI.out]
    have HB2 := Aside0.mk (HB1.out.trans ((((Below.refl w1.heap.size w1).alloc (Nat.le_refl _) _).trans (hb2.mono (by simp))).mono HB1.out.size))
    clear hb2
    go_wp2_with fail
    refine (leaf_right (k % 13) 0 w2.heap.size 1 _ (heap_alloc_new w2 _)).mono ?_
    rintro e w3 ⟨rfl, hb3⟩
    rw [HL.out]
    have HB3 := Aside0.mk (HB2.out.trans ((((Below.refl w2.heap.size w2).alloc (Nat.le_refl _) _).trans (hb3.mono (by simp))).mono HB2.out.size))
    clear hb3
    go_wp2_with fail
    go_ret
    exact ⟨rfl, HB3.out⟩
  by_cases z1 : k % 13 = 1
  · skip
    have q2 : (k % 13 == 2) = false := beq_eq_false_iff_ne.mpr z2
    have q2b : decide (k % 13 = 2) = false := decide_eq_false z2
    have q4 : (k % 13 == 4) = false := beq_eq_false_iff_ne.mpr z4
    have q4b : decide (k % 13 = 4) = false := decide_eq_false z4
    have q5 : (k % 13 == 5) = false := beq_eq_false_iff_ne.mpr z5
    have q5b : decide (k % 13 = 5) = false := decide_eq_false z5
    have q11 : (k % 13 == 11) = false := beq_eq_false_iff_ne.mpr z11
    have q11b : decide (k % 13 = 11) = false := decide_eq_false z11
    have q3 : (k % 13 == 3) = false := beq_eq_false_iff_ne.mpr z3
    have q3b : decide (k % 13 = 3) = false := decide_eq_false z3
    have q1 : (k % 13 == 1) = true := beq_iff_eq.mpr z1
    have q1b : decide (k % 13 = 1) = true := decide_eq_true z1
    have HL := Aside0.mk (show leafB (k % 13) 0 = true by rw [z1, leafB_one]; rfl)
    clear z2 z4 z5 z11 z3 z1
    go_enter Tryd.func16, Tryd.ntmps16
    go_wp2_with fail
    refine (known_walk _ HT.out).mono ?_
    rintro e w1 ⟨rfl, hb1⟩
    have HB1 := Aside0.mk hb1
    clear hb1
    go_wp2_with fail
    refine (leaf_right 1 c w1.heap.size 1 _ (heap_alloc_new w1 _)).mono ?_
    rintro e w2 ⟨rfl, hb2⟩
    rw [leafB_one, HI.out]
    have HB2 := Aside0.mk (HB1.out.trans ((((Below.refl w1.heap.size w1).alloc (Nat.le_refl _) _).trans (hb2.mono (by simp))).mono HB1.out.size))
    clear hb2
    go_wp2_with fail
    refine (leaf_right (k % 13) 0 w2.heap.size 1 _ (heap_alloc_new w2 _)).mono ?_
    rintro e w3 ⟨rfl, hb3⟩
    rw [HL.out]
    have HB3 := Aside0.mk (HB2.out.trans ((((Below.refl w2.heap.size w2).alloc (Nat.le_refl _) _).trans (hb3.mono (by simp))).mono HB2.out.size))
    clear hb3
    go_wp2_with fail
    go_ret
    exact ⟨rfl, HB3.out⟩
  have q2 : (k % 13 == 2) = false := beq_eq_false_iff_ne.mpr z2
  have q2b : decide (k % 13 = 2) = false := decide_eq_false z2
  have q4 : (k % 13 == 4) = false := beq_eq_false_iff_ne.mpr z4
  have q4b : decide (k % 13 = 4) = false := decide_eq_false z4
  have q5 : (k % 13 == 5) = false := beq_eq_false_iff_ne.mpr z5
  have q5b : decide (k % 13 = 5) = false := decide_eq_false z5
  have q11 : (k % 13 == 11) = false := beq_eq_false_iff_ne.mpr z11
  have q11b : decide (k % 13 = 11) = false := decide_eq_false z11
  have q3 : (k % 13 == 3) = false := beq_eq_false_iff_ne.mpr z3
  have q3b : decide (k % 13 = 3) = false := decide_eq_false z3
  have q1 : (k % 13 == 1) = false := beq_eq_false_iff_ne.mpr z1
  have q1b : decide (k % 13 = 1) = false := decide_eq_false z1
  have HL := Aside0.mk (show leafB (k % 13) 0 = false from leafB_no _ z1 z2 z3 z4 z5 z11)
  clear z2 z4 z5 z11 z3 z1
  go_enter Tryd.func16, Tryd.ntmps16
  go_wp2_with fail
  refine (known_walk _ HT.out).mono ?_
  rintro e w1 ⟨rfl, hb1⟩
  have HB1 := Aside0.mk hb1
  clear hb1
  go_wp2_with fail
  refine (leaf_right 1 c w1.heap.size 1 _ (heap_alloc_new w1 _)).mono ?_
  rintro e w2 ⟨rfl, hb2⟩
  rw [leafB_one, HI.out]
  have HB2 := Aside0.mk (HB1.out.trans ((((Below.refl w1.heap.size w1).alloc (Nat.le_refl _) _).trans (hb2.mono (by simp))).mono HB1.out.size))
  clear hb2
  go_wp2_with fail
  refine (leaf_right (k % 13) 0 w2.heap.size 1 _ (heap_alloc_new w2 _)).mono ?_
  rintro e w3 ⟨rfl, hb3⟩
  rw [HL.out]
  have HB3 := Aside0.mk (HB2.out.trans ((((Below.refl w2.heap.size w2).alloc (Nat.le_refl _) _).trans (hb3.mono (by simp))).mono HB2.out.size))
  clear hb3
  go_wp2_with fail
  go_ret
  exact ⟨rfl, HB3.out⟩

set_option maxHeartbeats 16000000 in
set_option maxRecDepth 100000 in
theorem leaves_E (c k : Int) (hk0 : 0 ≤ k) (hk1 : k ≤ 255) (h : 1114111 < c) (w : World) (ht : Tabs1 w) : Calls Tryd.prog 16 #[.int .i32 c, .int .u8 k] w fun e w' => e = .returned (.bool true) ∧ Below w.heap.size w w' := by
  have HT := Aside0.mk ht
  have p0 : decide ((-256 : Int) ≤ c) = true := decide_eq_true (by omega)
  have p1 : decide (c < (55296 : Int)) = false := decide_eq_false (by omega)
  have p2 : decide ((57343 : Int) < c) = true := decide_eq_true (by omega)
  have p3 : decide (c ≤ (1114111 : Int)) = false := decide_eq_false (by omega)
  have HI := Aside0.mk (show isCell c = false by unfold isCell; rw [p0, p1, p2, p3]; rfl)
  clear h ht
  by_cases z2 : k % 13 = 2
  · skip
    have q2 : (k % 13 == 2) = true := beq_iff_eq.mpr z2
    have q2b : decide (k % 13 = 2) = true := decide_eq_true z2
    have HL := Aside0.mk (show leafB (k % 13) 0 = true from leafB_bare _ (by omega))
    clear z2
    go_enter Tryd.func16, Tryd.ntmps16
    go_wp2_with fail
    refine (known_walk _ HT.out).mono ?_
    rintro e w1 ⟨rfl, hb1⟩
    have HB1 := Aside0.mk hb1
    clear hb1
    go_wp2_with fail
    refine (leaf_right 1 c w1.heap.size 1 _ (heap_alloc_new w1 _)).mono ?_
    rintro e w2 ⟨rfl, hb2⟩
    rw [leafB_one, HI.out]
    have HB2 := Aside0.mk (HB1.out.trans ((((Below.refl w1.heap.size w1).alloc (Nat.le_refl _) _).trans (hb2.mono (by simp))).mono HB1.out.size))
    clear hb2
    go_wp2_with fail
    refine (leaf_right (k % 13) 0 w2.heap.size 1 _ (heap_alloc_new w2 _)).mono ?_
    rintro e w3 ⟨rfl, hb3⟩
    rw [HL.out]
    have HB3 := Aside0.mk (HB2.out.trans ((((Below.refl w2.heap.size w2).alloc (Nat.le_refl _) _).trans (hb3.mono (by simp))).mono HB2.out.size))
    clear hb3
    go_wp2_with fail
    go_ret
    exact ⟨rfl, HB3.out⟩
  by_cases z4 : k % 13 = 4
  · skip
    have q2 : (k % 13 == 2) = false := beq_eq_false_iff_ne.mpr z2
    have q2b : decide (k % 13 = 2) = false := decide_eq_false z2
    have q4 : (k % 13 == 4) = true := beq_iff_eq.mpr z4
    have q4b : decide (k % 13 = 4) = true := decide_eq_true z4
    have HL := Aside0.mk (show leafB (k % 13) 0 = true from leafB_bare _ (by omega))
    clear z2 z4
    go_enter Tryd.func16, Tryd.ntmps16
    go_wp2_with fail
    refine (known_walk _ HT.out).mono ?_
    rintro e w1 ⟨rfl, hb1⟩
    have HB1 := Aside0.mk hb1
    clear hb1
    go_wp2_with fail
    refine (leaf_right 1 c w1.heap.size 1 _ (heap_alloc_new w1 _)).mono ?_
    rintro e w2 ⟨rfl, hb2⟩
    rw [leafB_one, HI.out]
    have HB2 := Aside0.mk (HB1.out.trans ((((Below.refl w1.heap.size w1).alloc (Nat.le_refl _) _).trans (hb2.mono (by simp))).mono HB1.out.size))
    clear hb2
    go_wp2_with fail
    refine (leaf_right (k % 13) 0 w2.heap.size 1 _ (heap_alloc_new w2 _)).mono ?_
    rintro e w3 ⟨rfl, hb3⟩
    rw [HL.out]
    have HB3 := Aside0.mk (HB2.out.trans ((((Below.refl w2.heap.size w2).alloc (Nat.le_refl _) _).trans (hb3.mono (by simp))).mono HB2.out.size))
    clear hb3
    go_wp2_with fail
    go_ret
    exact ⟨rfl, HB3.out⟩
  by_cases z5 : k % 13 = 5
  · skip
    have q2 : (k % 13 == 2) = false := beq_eq_false_iff_ne.mpr z2
    have q2b : decide (k % 13 = 2) = false := decide_eq_false z2
    have q4 : (k % 13 == 4) = false := beq_eq_false_iff_ne.mpr z4
    have q4b : decide (k % 13 = 4) = false := decide_eq_false z4
    have q5 : (k % 13 == 5) = true := beq_iff_eq.mpr z5
    have q5b : decide (k % 13 = 5) = true := decide_eq_true z5
    have HL := Aside0.mk (show leafB (k % 13) 0 = true from leafB_bare _ (by omega))
    clear z2 z4 z5
    go_enter Tryd.func16, Tryd.ntmps16
    go_wp2_with fail
    refine (known_walk _ HT.out).mono ?_
    rintro e w1 ⟨rfl, hb1⟩
    have HB1 := Aside0.mk hb1
    clear hb1
    go_wp2_with fail
    refine (leaf_right 1 c w1.heap.size 1 _ (heap_alloc_new w1 _)).mono ?_
    rintro e w2 ⟨rfl, hb2⟩
    rw [leafB_one, HI.out]
    have HB2 := Aside0.mk (HB1.out.trans ((((Below.refl w1.heap.size w1).alloc (Nat.le_refl _) _).trans (hb2.mono (by simp))).mono HB1.out.size))
    clear hb2
    go_wp2_with fail
    refine (leaf_right (k % 13) 0 w2.heap.size 1 _ (heap_alloc_new w2 _)).mono ?_
    rintro e w3 ⟨rfl, hb3⟩
    rw [HL.out]
    have HB3 := Aside0.mk (HB2.out.trans ((((Below.refl w2.heap.size w2).alloc (Nat.le_refl _) _).trans (hb3.mono (by simp))).mono HB2.out.size))
    clear hb3
    go_wp2_with fail
    go_ret
    exact ⟨rfl, HB3.out⟩
  by_cases z11 : k % 13 = 11
  · skip
    have q2 : (k % 13 == 2) = false := beq_eq_false_iff_ne.mpr z2
    have q2b : decide (k % 13 = 2) = false := decide_eq_false z2
    have q4 : (k % 13 == 4) = false := beq_eq_false_iff_ne.mpr z4
    have q4b : decide (k % 13 = 4) = false := decide_eq_false z4
    have q5 : (k % 13 == 5) = false := beq_eq_false_iff_ne.mpr z5
    have q5b : decide (k % 13 = 5) = false := decide_eq_false z5
    have q11 : (k % 13 == 11) = true := beq_iff_eq.mpr z11
    have q11b : decide (k % 13 = 11) = true := decide_eq_true z11
    have HL := Aside0.mk (show leafB (k % 13) 0 = true from leafB_bare _ (by omega))
    clear z2 z4 z5 z11
    go_enter Tryd.func16, Tryd.ntmps16
    go_wp2_with fail
    refine (known_walk _ HT.out).mono ?_
    rintro e w1 ⟨rfl, hb1⟩
    have HB1 := Aside0.mk hb1
    clear hb1
    go_wp2_with fail
    refine (leaf_right 1 c w1.heap.size 1 _ (heap_alloc_new w1 _)).mono ?_
    rintro e w2 ⟨rfl, hb2⟩
    rw [leafB_one, HI.out]
    have HB2 := Aside0.mk (HB1.out.trans ((((Below.refl w1.heap.size w1).alloc (Nat.le_refl _) _).trans (hb2.mono (by simp))).mono HB1.out.size))
    clear hb2
    go_wp2_with fail
    refine (leaf_right (k % 13) 0 w2.heap.size 1 _ (heap_alloc_new w2 _)).mono ?_
    rintro e w3 ⟨rfl, hb3⟩
    rw [HL.out]
    have HB3 := Aside0.mk (HB2.out.trans ((((Below.refl w2.heap.size w2).alloc (Nat.le_refl _) _).trans (hb3.mono (by simp))).mono HB2.out.size))
    clear hb3
    go_wp2_with fail
    go_ret
    exact ⟨rfl, HB3.out⟩
  by_cases z3 : k % 13 = 3
  · skip
    have q2 : (k % 13 == 2) = false := beq_eq_false_iff_ne.mpr z2
    have q2b : decide (k % 13 = 2) = false := decide_eq_false z2
    have q4 : (k % 13 == 4) = false := beq_eq_false_iff_ne.mpr z4
    have q4b : decide (k % 13 = 4) = false := decide_eq_false z4
    have q5 : (k % 13 == 5) = false := beq_eq_false_iff_ne.mpr z5
    have q5b : decide (k % 13 = 5) = false := decide_eq_false z5
    have q11 : (k % 13 == 11) = false := beq_eq_false_iff_ne.mpr z11
    have q11b : decide (k % 13 = 11) = false := decide_eq_false z11
    have q3 : (k % 13 == 3) = true := beq_iff_eq.mpr z3
    have q3b : decide (k % 13 = 3) = true := decide_eq_true z3
    have HL := Aside0.mk (show leafB (k % 13) 0 = true from leafB_bare _ (by omega))
    clear z2 z4 z5 z11 z3
    go_enter Tryd.func16, Tryd.ntmps16
    go_wp2_with fail
    refine (known_walk _ HT.out).mono ?_
    rintro e w1 ⟨rfl, hb1⟩
    have HB1 := Aside0.mk hb1
    clear hb1
    go_wp2_with fail
    refine (leaf_right 1 c w1.heap.size 1 _ (heap_alloc_new w1 _)).mono ?_
    rintro e w2 ⟨rfl, hb2⟩
    rw [leafB_one, HI.out]
    have HB2 := Aside0.mk (HB1.out.trans ((((Below.refl w1.heap.size w1).alloc (Nat.le_refl _) _).trans (hb2.mono (by simp))).mono HB1.out.size))
    clear hb2
    go_wp2_with fail
    refine (leaf_right (k % 13) 0 w2.heap.size 1 _ (heap_alloc_new w2 _)).mono ?_
    rintro e w3 ⟨rfl, hb3⟩
    rw [HL.out]
    have HB3 := Aside0.mk (HB2.out.trans ((((Below.refl w2.heap.size w2).alloc (Nat.le_refl _) _).trans (hb3.mono (by simp))).mono HB2.out.size))
    clear hb3
    go_wp2_with fail
    go_ret
    exact ⟨rfl, HB3.out⟩
  by_cases z1 : k % 13 = 1
  · skip
    have q2 : (k % 13 == 2) = false := beq_eq_false_iff_ne.mpr z2
    have q2b : decide (k % 13 = 2) = false := decide_eq_false z2
    have q4 : (k % 13 == 4) = false := beq_eq_false_iff_ne.mpr z4
    have q4b : decide (k % 13 = 4) = false := decide_eq_false z4
    have q5 : (k % 13 == 5) = false := beq_eq_false_iff_ne.mpr z5
    have q5b : decide (k % 13 = 5) = false := decide_eq_false z5
    have q11 : (k % 13 == 11) = false := beq_eq_false_iff_ne.mpr z11
    have q11b : decide (k % 13 = 11) = false := decide_eq_false z11
    have q3 : (k % 13 == 3) = false := beq_eq_false_iff_ne.mpr z3
    have q3b : decide (k % 13 = 3) = false := decide_eq_false z3
    have q1 : (k % 13 == 1) = true := beq_iff_eq.mpr z1
    have q1b : decide (k % 13 = 1) = true := decide_eq_true z1
    have HL := Aside0.mk (show leafB (k % 13) 0 = true by rw [z1, leafB_one]; rfl)
    clear z2 z4 z5 z11 z3 z1
    go_enter Tryd.func16, Tryd.ntmps16
    go_wp2_with fail
    refine (known_walk _ HT.out).mono ?_
    rintro e w1 ⟨rfl, hb1⟩
    have HB1 := Aside0.mk hb1
    clear hb1
    go_wp2_with fail
    refine (leaf_right 1 c w1.heap.size 1 _ (heap_alloc_new w1 _)).mono ?_
    rintro e w2 ⟨rfl, hb2⟩
    rw [leafB_one, HI.out]
    have HB2 := Aside0.mk (HB1.out.trans ((((Below.refl w1.heap.size w1).alloc (Nat.le_refl _) _).trans (hb2.mono (by simp))).mono HB1.out.size))
    clear hb2
    go_wp2_with fail
    refine (leaf_right (k % 13) 0 w2.heap.size 1 _ (heap_alloc_new w2 _)).mono ?_
    rintro e w3 ⟨rfl, hb3⟩
    rw [HL.out]
    have HB3 := Aside0.mk (HB2.out.trans ((((Below.refl w2.heap.size w2).alloc (Nat.le_refl _) _).trans (hb3.mono (by simp))).mono HB2.out.size))
    clear hb3
    go_wp2_with fail
    go_ret
    exact ⟨rfl, HB3.out⟩
  have q2 : (k % 13 == 2) = false := beq_eq_false_iff_ne.mpr z2
  have q2b : decide (k % 13 = 2) = false := decide_eq_false z2
  have q4 : (k % 13 == 4) = false := beq_eq_false_iff_ne.mpr z4
  have q4b : decide (k % 13 = 4) = false := decide_eq_false z4
  have q5 : (k % 13 == 5) = false := beq_eq_false_iff_ne.mpr z5
  have q5b : decide (k % 13 = 5) = false := decide_eq_false z5
  have q11 : (k % 13 == 11) = false := beq_eq_false_iff_ne.mpr z11
  have q11b : decide (k % 13 = 11) = false := decide_eq_false z11
  have q3 : (k % 13 == 3) = false := beq_eq_false_iff_ne.mpr z3
  have q3b : decide (k % 13 = 3) = false := decide_eq_false z3
  have q1 : (k % 13 == 1) = false := beq_eq_false_iff_ne.mpr z1
  have q1b : decide (k % 13 = 1) = false := decide_eq_false z1
  have HL := Aside0.mk (show leafB (k % 13) 0 = false from leafB_no _ z1 z2 z3 z4 z5 z11)
  clear z2 z4 z5 z11 z3 z1
  go_enter Tryd.func16, Tryd.ntmps16
  go_wp2_with fail
  refine (known_walk _ HT.out).mono ?_
  rintro e w1 ⟨rfl, hb1⟩
  have HB1 := Aside0.mk hb1
  clear hb1
  go_wp2_with fail
  refine (leaf_right 1 c w1.heap.size 1 _ (heap_alloc_new w1 _)).mono ?_
  rintro e w2 ⟨rfl, hb2⟩
  rw [leafB_one, HI.out]
  have HB2 := Aside0.mk (HB1.out.trans ((((Below.refl w1.heap.size w1).alloc (Nat.le_refl _) _).trans (hb2.mono (by simp))).mono HB1.out.size))
  clear hb2
  go_wp2_with fail
  refine (leaf_right (k % 13) 0 w2.heap.size 1 _ (heap_alloc_new w2 _)).mono ?_
  rintro e w3 ⟨rfl, hb3⟩
  rw [HL.out]
  have HB3 := Aside0.mk (HB2.out.trans ((((Below.refl w2.heap.size w2).alloc (Nat.le_refl _) _).trans (hb3.mono (by simp))).mono HB2.out.size))
  clear hb3
  go_wp2_with fail
  go_ret
  exact ⟨rfl, HB3.out⟩

theorem leaves_walk (c k : Int) (hk0 : 0 ≤ k) (hk1 : k ≤ 255) (w : World) (ht : Tabs1 w) : Calls Tryd.prog 16 #[.int .i32 c, .int .u8 k] w fun e w' => e = .returned (.bool true) ∧ Below w.heap.size w w' := by
  by_cases h1 : c < -256
  · exact leaves_A c k hk0 hk1 h1 w ht
  · by_cases h2 : c < 55296
    · exact leaves_B c k hk0 hk1 ⟨by omega, h2⟩ w ht
    · by_cases h3 : c ≤ 57343
      · exact leaves_C c k hk0 hk1 ⟨by omega, h3⟩ w ht
      · by_cases h4 : c ≤ 1114111
        · exact leaves_D c k hk0 hk1 ⟨by omega, h4⟩ w ht
        · exact leaves_E c k hk0 hk1 (by omega) w ht
end Go.Proofs.YtcppmghhijffpaaDoorW.PrintMore
