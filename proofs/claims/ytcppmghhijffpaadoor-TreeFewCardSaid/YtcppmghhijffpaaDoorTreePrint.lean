import Derived.Test.YtcppmghhijffpaaDoorTreeKids
/-! (*tree.printer).node: a node printed. -/
namespace Go.Proofs.YtcppmghhijffpaaDoorW.PrintMore
open Go.RowKit Go.Proofs.YtcppmghhijffpaaDoorW.PrintWords Go.Proofs.YtcppmghhijffpaaDoorW.PrintLast Go.Proofs.YtcppmghhijffpaaDoor.X
set_option linter.unusedSimpArgs false
set_option linter.unusedVariables false
/-- A printed node. -/
def nodeTxt (setTxt : S58 → List UInt8) (kid : Int → List UInt8) (x : S60) : List UInt8 :=
  if x.f0 = 1 then 39 :: txtL x.f1 else if x.f0 = 2 then [46] else if x.f0 = 4 then [94] else if x.f0 = 5 then [36] else if x.f0 = 11 then [40, 41]
  else if x.f0 = 6 then 35 :: Lib.itoa x.f3 else if x.f0 = 3 then setTxt x.f2
  else if x.f0 = 7 then 40 :: (Lib.itoa x.f3 ++ [58]) ++ kidsTxt kid [] 0 x.f6 ++ [41]
  else if x.f0 = 9 then [123] ++ kidsTxt kid [124] 0 x.f6 ++ [125]
  else if x.f0 = 10 then kidsTxt kid [] 0 x.f6 ++ (42 :: Lib.itoa x.f4 ++ [44] ++ Lib.itoa x.f5)
  else kidsTxt kid [] 0 x.f6
/-- A set is printed as told. -/
def SetOk (w0 : World) (b : Nat) (tv : Value) (g : Int) (s : S58) (txt : List UInt8) : Prop :=
  ∀ (bs : List UInt8) (A3 A4 : Option Addr) (c3 c4 : Nat) (W : World), PS w0 b tv g bs W → s.f1.length ≤ c3 → k105.C w0 A3 s.f1.length s.f1 → s.f2.length ≤ c4 → (Kd.slice 24 (Kd.int .i32)).C w0 A4 s.f2.length s.f2 → bs.length + txt.length ≤ 140737488355328 →
    Calls Tryd.prog 106 #[.pointer (some ⟨b, 0, none⟩), .agg #[.bool s.f0, .slice A3 s.f1.length c3, .slice A4 s.f2.length c4]] W fun e w' => e = .returned (.tuple #[]) ∧ PS w0 b tv g (bs ++ txt) w' ∧ Fr W w'
def In64 (n : Int) : Prop := -9223372036854775808 ≤ n ∧ n ≤ 9223372036854775807
theorem itoa_walk (n : Int) (h : In64 n) (w : World) (ht : Tabs1 w) : Calls Tryd.prog 105 #[.int .i64 n] w fun e w' => (∃ X : ByteArray, Aside0 (X.data.toList = Lib.itoa n) ∧ e = .returned (.string X)) ∧ Below w.heap.size w w' := by
  refine (Tryd.strconv_Itoa n h.1 h.2 w ht.2).mono ?_
  rintro e w' ⟨rfl, k, os, rfl⟩
  exact ⟨⟨_, ⟨rfl⟩, rfl⟩, ⟨rfl, rfl, rfl, by show w.heap.size ≤ (w.heap ++ os).size; rw [Array.size_append]; omega, fun j hj => by show (w.heap ++ os)[j]? = _; exact Array.getElem?_append_left hj⟩⟩
theorem C_one {W : World} {b : Nat} {c : Int} {t : TypeId} (h : W.heap[b]? = some (.cells #[.int .i32 c] t (0, 0))) : Kd.C (Kd.int .i32) W (some ⟨b, 0, none⟩) 1 [c] := by
  refine ⟨rfl, by decide, fun _ => ⟨_, rfl, fun j p hp => ⟨[.int .i32 p], rfl, rfl, fun q u hu => ?_⟩⟩⟩
  match j, q, hp, hu with
  | 0, 0, hp, hu =>
    obtain rfl : c = p := by simpa using hp
    obtain rfl : Value.int .i32 c = u := by simpa using hu
    have e : ((⟨b, 0, none⟩ : Addr).add (0 * (Kd.int .i32).sz + 0)) = ⟨b, 0, none⟩ := by simp [Addr.add]
    rw [e]
    exact cell_blk h 0
  | 0, q + 1, hp, hu => simp at hu
  | j + 1, q, hp, hu => simp at hp
theorem text_one (c : Int) (b cc : Nat) (w : World) (ht : Tabs1 w) (h : w.heap[b]? = some (.cells #[.int .i32 c] 24 (0, 0))) (h1 : 1 ≤ cc) :
    Calls Tryd.prog 30 #[.slice (some ⟨b, 0, none⟩) 1 cc] w fun e w' => (∃ X : ByteArray, Aside0 (X.data.toList = txtL c) ∧ e = .returned (.string X)) ∧ Below w.heap.size w w' := by
  refine (text_walk (some ⟨b, 0, none⟩) cc [c] w ht (C_one h) h1 (by simp)).mono ?_
  rintro e w' ⟨rfl, hb⟩
  exact ⟨⟨_, ⟨by simp⟩, rfl⟩, hb⟩
set_option maxHeartbeats 16000000 in
set_option maxRecDepth 100000 in
theorem node_walk (w0 : World) (b : Nat) (A : Option Addr) (c : Nat) (ns : List S60) (g : Int) (hr : Kd.C k60 w0 A ns.length ns) (ht : Tabs1 w0) (setTxt : S58 → List UInt8) (kid : Int → List UInt8) (x : S60)
    (h3 : In64 x.f3) (h4 : In64 x.f4) (h5 : In64 x.f5) (hin : ∀ k ∈ x.f6, 0 ≤ k ∧ k < ns.length) (hkid : ∀ k ∈ x.f6, NodeOk w0 b (.slice A ns.length c) g (rd_T60 ns k) (kid k))
    (hset : x.f0 = 3 → SetOk w0 b (.slice A ns.length c) g x.f2 (setTxt x.f2)) : NodeOk w0 b (.slice A ns.length c) g x (nodeTxt setTxt kid x) := by
  intro bs cs W hp hK hlen
  obtain ⟨A3, c3, A4, c4, A8, c8, rfl, l3, i3, l4, i4, l8, i8⟩ := k60_open hK
  have HR := Aside0.mk hr
  have HT := Aside0.mk ht
  have HIN := Aside0.mk hin
  have HKID := Aside0.mk hkid
  have HSET := Aside0.mk hset
  have HC := Aside0.mk (And.intro l3 (And.intro i3 (And.intro l4 i4)))
  have HK8 := Aside0.mk i8
  have HLEN := Aside0.mk hlen
  have HB := Aside0.mk (And.intro h3 (And.intro h4 h5))
  have HP := Aside0.mk (hp.keep ((Below.refl W.heap.size W).alloc (Nat.le_refl _) (.cells #[.int .u8 x.f0, .int .i32 x.f1, .bool x.f2.f0, .slice A3 x.f2.f1.length c3, .slice A4 x.f2.f2.length c4, .int .i64 x.f3, .int .i64 x.f4, .int .i64 x.f5, .slice A8 x.f6.length c8] 60)))
  have HF := Aside0.mk (Fr.below ((Below.refl W.heap.size W).alloc (Nat.le_refl _) (.cells #[.int .u8 x.f0, .int .i32 x.f1, .bool x.f2.f0, .slice A3 x.f2.f1.length c3, .slice A4 x.f2.f2.length c4, .int .i64 x.f3, .int .i64 x.f4, .int .i64 x.f5, .slice A8 x.f6.length c8] 60)))
  have HX := Aside0.mk (heap_alloc_new W (.cells #[.int .u8 x.f0, .int .i32 x.f1, .bool x.f2.f0, .slice A3 x.f2.f1.length c3, .slice A4 x.f2.f2.length c4, .int .i64 x.f3, .int .i64 x.f4, .int .i64 x.f5, .slice A8 x.f6.length c8] 60))
  have HO := Aside0.mk hp.b
  clear hr ht hin hkid hset l3 i3 l4 i4 l8 i8 hlen h3 h4 h5 hp hK
  by_cases z1 : x.f0 = 1
  · have q1 : (x.f0 == 1) = true := beq_iff_eq.mpr z1
    have q1b : decide (x.f0 = 1) = true := decide_eq_true z1
    have HE := Aside0.mk (show nodeTxt setTxt kid x = (39 :: txtL x.f1 : List UInt8) by unfold nodeTxt; rw [if_pos z1])
    have HLN := Aside0.mk (show bs.length + (39 :: txtL x.f1 : List UInt8).length ≤ 140737488355328 by rw [← HE.out]; exact HLEN.out)
    have Z := Aside0.mk z1
    clear z1
    go_enter Tryd.func90, Tryd.ntmps90
    go_wp2
    generalize W.alloc (.cells #[.int .u8 x.f0, .int .i32 x.f1, .bool x.f2.f0, .slice A3 x.f2.f1.length c3, .slice A4 x.f2.f2.length c4, .int .i64 x.f3, .int .i64 x.f4, .int .i64 x.f5, .slice A8 x.f6.length c8] 60) = w9 at HP HF HX ⊢
    refine start_ (n := 9) (S := fun w' => w'.heap[W.heap.size]? = some (.cells #[.int .u8 x.f0, .int .i32 x.f1, .bool x.f2.f0, .slice A3 x.f2.f1.length c3, .slice A4 x.f2.f2.length c4, .int .i64 x.f3, .int .i64 x.f4, .int .i64 x.f5, .slice A8 x.f6.length c8] 60 (0, 0))) (ds := [8]) #[false, false, false, false, false, false, false, false, false] (by kernel_rfl) rfl rfl ?hS (fun hHeld => ?_)
    case hS => exact HX.out
    have HPd := Aside0.mk (HP.out.keep (below_drew (Below.refl _ w9)))
    have HFd := Aside0.mk (HF.out.trans (Fr.below (below_drew (Below.refl _ w9))))
    generalize w9.drew = wd at HPd HFd hHeld ⊢
    refine pure_ (i := 0) (N := some 28) (v := ?_) (a' := ?_) #[true, false, false, false, false, false, false, false, false] rfl rfl (by kernel_rfl) (fun _ _ _ h => h) (Or.inl ⟨by rfl, ?_⟩) ?_ ?_
    rotate_left
    · intro w'
      go_simp
      with_reducible rfl
    rotate_left
    · simp only [Act.put, List.setIfInBounds_toArray, List.set_cons_zero, List.set_cons_succ, i64_w, i32_w]
      rfl
    refine pure_ (i := 1) (N := some 29) (v := ?_) (a' := ?_) #[true, true, false, false, false, false, false, false, false] rfl rfl (by kernel_rfl) (fun _ _ _ h => h) (Or.inl ⟨by rfl, ?_⟩) ?_ ?_
    rotate_left
    · intro w'
      go_simp
      with_reducible rfl
    rotate_left
    · simp only [Act.put, List.setIfInBounds_toArray, List.set_cons_zero, List.set_cons_succ, i64_w, i32_w]
      rfl
    refine pure_ (i := 2) (N := some 30) (v := ?_) (a' := ?_) #[true, true, true, false, false, false, false, false, false] rfl rfl (by kernel_rfl) (fun _ _ _ h => h) (Or.inl ⟨by rfl, ?_⟩) ?_ ?_
    rotate_left
    · intro w'
      go_simp
      with_reducible rfl
    rotate_left
    · simp only [Act.put, List.setIfInBounds_toArray, List.set_cons_zero, List.set_cons_succ, i64_w, i32_w]
      rfl
    refine pure_ (i := 3) (N := some 31) (v := ?_) (a' := ?_) #[true, true, true, true, false, false, false, false, false] rfl rfl (by kernel_rfl) (fun _ _ _ h => h) (Or.inl ⟨by rfl, ?_⟩) ?_ ?_
    rotate_left
    · intro w'
      go_simp
      with_reducible rfl
    rotate_left
    · simp only [Act.put, List.setIfInBounds_toArray, List.set_cons_zero, List.set_cons_succ, i64_w, i32_w]
      rfl
    refine take_ (i := 4) (N := some 32) (v := ?_) (a' := ?_) #[true, true, true, true, true, false, false, false, false] rfl rfl (by kernel_rfl) (fun _ _ _ h => h) (Or.inl ⟨by rfl, ?_⟩) hHeld ?_ ?_
    rotate_left
    · intro w' s0
      have s1 := cell_blk s0 1
      simp only [List.getElem?_toArray, List.getElem?_cons_zero, List.getElem?_cons_succ] at *
      go_simp
      with_reducible rfl
    rotate_left
    · simp only [Act.put, List.setIfInBounds_toArray, List.set_cons_zero, List.set_cons_succ, i64_w, i32_w]
      rfl
    refine one_ (i := 5) (N := some 33) #[true, true, true, true, true, true, false, false, false] rfl rfl (by kernel_rfl) (by decide) ?_
    intro K hK0
    have hK := Aside0.mk hK0
    clear hK0
    refine val_step (by rfl) (by go_simp; exact ⟨rfl, rfl⟩) ?_
    have hS4 := (Below.heap_alloc wd (.cells #[.int .i32 x.f1] 24) W.heap.size (lt_of_block hHeld)).trans hHeld
    have HNB := Aside0.mk (heap_alloc_new wd (.cells #[.int .i32 x.f1] 24))
    have HPa := Aside0.mk (HPd.out.keep (below_alloc (Below.refl _ wd) (.cells #[.int .i32 x.f1] 24)))
    have HFa := Aside0.mk (HFd.out.trans (Fr.below (below_alloc (Below.refl _ wd) (.cells #[.int .i32 x.f1] 24))))
    refine hK.out _ _ hS4 (fun hHeld => ?_)
    clear hK K hS4
    refine norm_ (a' := ?_) ?_ ?_
    rotate_left
    · show Act.put _ (some 33) _ = _
      simp only [Act.put, List.setIfInBounds_toArray, List.set_cons_zero, List.set_cons_succ, i64_w, i32_w]
      rfl
    generalize (wd.alloc (.cells #[.int .i32 x.f1] 24)) = wa at HNB HPa HFa hHeld ⊢
    refine one_ (i := 6) (N := some 34) #[true, true, true, true, true, true, true, false, false] rfl rfl (by kernel_rfl) (by decide) ?_
    intro K hK0
    have hK := Aside0.mk hK0
    clear hK0
    refine goes_ Tryd.func30 (by kernel_rfl) rfl #[.slice (some ⟨wd.heap.size, 0, none⟩) 1 1] (by rfl) rfl rfl (by simp [Act.eval]) ?_
    refine (text_one x.f1 wd.heap.size 1 _ (HT.out.below HPa.out.b) HNB.out (Nat.le_refl 1)).mono ?_
    rintro e w1 ⟨⟨X1, HX1, rfl⟩, hb1⟩
    have HS1 := Aside0.mk (show X1.size = (txtL x.f1).length by rw [← HX1.out]; exact Lib.size_eq X1)
    have z10 : (9223372036854775807 < 1 + X1.size) = False := eq_false (by have := HS1.out; have := HLN.out; simp only [List.length_append, List.length_cons, List.length_nil] at this; omega)
    refine ⟨_, rfl, ?_⟩
    refine hK.out _ _ ?_ (fun hHeld => ?_)
    · exact (hb1.block _ (lt_of_block hHeld)).trans hHeld
    clear hK K
    refine norm_ (a' := ?_) ?_ ?_
    rotate_left
    · show Act.put _ (some 34) _ = _
      simp only [Act.put, List.setIfInBounds_toArray, List.set_cons_zero, List.set_cons_succ, i64_w, i32_w]
      rfl
    have HP1 := Aside0.mk (HPa.out.keep hb1)
    have HF1 := Aside0.mk (HFa.out.trans (Fr.below hb1))
    clear hb1
    refine pure_ (i := 7) (N := some 35) (v := ?_) (a' := ?_) #[true, true, true, true, true, true, true, true, false] rfl rfl (by kernel_rfl) (fun _ _ _ h => h) (Or.inl ⟨by rfl, ?_⟩) ?_ ?_
    rotate_left
    · intro w'
      go_simp
      with_reducible rfl
    rotate_left
    · simp only [Act.put, List.setIfInBounds_toArray, List.set_cons_zero, List.set_cons_succ, i64_w, i32_w]
      rfl
    refine last_ (i := 8) (N := some 36) #[true, true, true, true, true, true, true, true, true] rfl rfl (by kernel_rfl) (by decide) ?_
    intro K hK0
    have hK := Aside0.mk hK0
    clear hK0
    refine goes_ Tryd.func60 (by kernel_rfl) rfl #[.pointer (some ⟨b, 0, none⟩), .string ((⟨#[39]⟩ : ByteArray) ++ X1)] (by rfl) rfl rfl (by simp [Act.eval]) ?_
    refine (HP1.out.string _ (by have := HLN.out; have := HS1.out; simp only [List.length_append, List.length_cons, List.length_nil, ByteArray.size_append] at *; simp only [show (⟨#[35]⟩ : ByteArray).size = 1 from rfl, show (⟨#[39]⟩ : ByteArray).size = 1 from rfl, show (⟨#[40]⟩ : ByteArray).size = 1 from rfl, show (⟨#[58]⟩ : ByteArray).size = 1 from rfl, show (⟨#[42]⟩ : ByteArray).size = 1 from rfl, show (⟨#[44]⟩ : ByteArray).size = 1 from rfl] at *; omega)).mono ?_
    rintro e wz ⟨rfl, hpz, hfz⟩
    have HPz := Aside0.mk hpz
    have HFz := Aside0.mk (HF1.out.trans hfz)
    have HXz := Aside0.mk (hfz _ _ _ (by decide) (by decide) hHeld)
    clear hpz hfz
    refine ⟨_, rfl, ?_⟩
    refine hK.out _ _ ?_
    clear hK K
    refine norm_ (a' := ?_) ?_ ?_
    rotate_left
    · show Act.put _ (some 36) _ = _
      simp only [Act.put, List.setIfInBounds_toArray, List.set_cons_zero, List.set_cons_succ, i64_w, i32_w]
      rfl
    refine done_ (by kernel_rfl) ?_
    go_wp2
    go_end0
    rw [HE.out]
    refine ⟨rfl, ?_, HFz.out⟩
    have := HPz.out
    simp only [ByteArray.data_append, Array.toList_append, HX1.out] at this
    simpa [List.append_assoc] using this
  have q1 : (x.f0 == 1) = false := beq_eq_false_iff_ne.mpr z1
  have q1b : decide (x.f0 = 1) = false := decide_eq_false z1
  by_cases z2 : x.f0 = 2
  · have q2 : (x.f0 == 2) = true := beq_iff_eq.mpr z2
    have q2b : decide (x.f0 = 2) = true := decide_eq_true z2
    have HE := Aside0.mk (show nodeTxt setTxt kid x = ([46] : List UInt8) by unfold nodeTxt; rw [if_neg z1, if_pos z2])
    have HLN := Aside0.mk (show bs.length + ([46] : List UInt8).length ≤ 140737488355328 by rw [← HE.out]; exact HLEN.out)
    have Z := Aside0.mk z2
    clear z1 z2
    go_enter Tryd.func90, Tryd.ntmps90
    go_wp2_with (go_at_call 62; refine (HP.out.byte _ 46 rfl (by have := HLN.out; simp only [List.length_append, List.length_cons, List.length_nil] at this ⊢; omega)).mono ?_; rintro e w2 ⟨rfl, hp2, hf2⟩; have HP2 := Aside0.mk hp2; have HF2 := Aside0.mk (HF.out.trans hf2); clear hp2 hf2)
    go_end0
    rw [HE.out]
    exact ⟨rfl, HP2.out, HF2.out⟩
  have q2 : (x.f0 == 2) = false := beq_eq_false_iff_ne.mpr z2
  have q2b : decide (x.f0 = 2) = false := decide_eq_false z2
  by_cases z4 : x.f0 = 4
  · have q4 : (x.f0 == 4) = true := beq_iff_eq.mpr z4
    have q4b : decide (x.f0 = 4) = true := decide_eq_true z4
    have HE := Aside0.mk (show nodeTxt setTxt kid x = ([94] : List UInt8) by unfold nodeTxt; rw [if_neg z1, if_neg z2, if_pos z4])
    have HLN := Aside0.mk (show bs.length + ([94] : List UInt8).length ≤ 140737488355328 by rw [← HE.out]; exact HLEN.out)
    have Z := Aside0.mk z4
    clear z1 z2 z4
    go_enter Tryd.func90, Tryd.ntmps90
    go_wp2_with (go_at_call 62; refine (HP.out.byte _ 94 rfl (by have := HLN.out; simp only [List.length_append, List.length_cons, List.length_nil] at this ⊢; omega)).mono ?_; rintro e w2 ⟨rfl, hp2, hf2⟩; have HP2 := Aside0.mk hp2; have HF2 := Aside0.mk (HF.out.trans hf2); clear hp2 hf2)
    go_end0
    rw [HE.out]
    exact ⟨rfl, HP2.out, HF2.out⟩
  have q4 : (x.f0 == 4) = false := beq_eq_false_iff_ne.mpr z4
  have q4b : decide (x.f0 = 4) = false := decide_eq_false z4
  by_cases z5 : x.f0 = 5
  · have q5 : (x.f0 == 5) = true := beq_iff_eq.mpr z5
    have q5b : decide (x.f0 = 5) = true := decide_eq_true z5
    have HE := Aside0.mk (show nodeTxt setTxt kid x = ([36] : List UInt8) by unfold nodeTxt; rw [if_neg z1, if_neg z2, if_neg z4, if_pos z5])
    have HLN := Aside0.mk (show bs.length + ([36] : List UInt8).length ≤ 140737488355328 by rw [← HE.out]; exact HLEN.out)
    have Z := Aside0.mk z5
    clear z1 z2 z4 z5
    go_enter Tryd.func90, Tryd.ntmps90
    go_wp2_with (go_at_call 62; refine (HP.out.byte _ 36 rfl (by have := HLN.out; simp only [List.length_append, List.length_cons, List.length_nil] at this ⊢; omega)).mono ?_; rintro e w2 ⟨rfl, hp2, hf2⟩; have HP2 := Aside0.mk hp2; have HF2 := Aside0.mk (HF.out.trans hf2); clear hp2 hf2)
    go_end0
    rw [HE.out]
    exact ⟨rfl, HP2.out, HF2.out⟩
  have q5 : (x.f0 == 5) = false := beq_eq_false_iff_ne.mpr z5
  have q5b : decide (x.f0 = 5) = false := decide_eq_false z5
  by_cases z11 : x.f0 = 11
  · have q11 : (x.f0 == 11) = true := beq_iff_eq.mpr z11
    have q11b : decide (x.f0 = 11) = true := decide_eq_true z11
    have HE := Aside0.mk (show nodeTxt setTxt kid x = ([40, 41] : List UInt8) by unfold nodeTxt; rw [if_neg z1, if_neg z2, if_neg z4, if_neg z5, if_pos z11])
    have HLN := Aside0.mk (show bs.length + ([40, 41] : List UInt8).length ≤ 140737488355328 by rw [← HE.out]; exact HLEN.out)
    have Z := Aside0.mk z11
    clear z1 z2 z4 z5 z11
    go_enter Tryd.func90, Tryd.ntmps90
    go_wp2_with (go_at_call 60; refine (HP.out.string _ (by have := HLN.out; show bs.length + 2 ≤ _; simpa using this)).mono ?_; rintro e w2 ⟨rfl, hp2, hf2⟩; have HP2 := Aside0.mk hp2; have HF2 := Aside0.mk (HF.out.trans hf2); clear hp2 hf2)
    go_end0
    rw [HE.out]
    exact ⟨rfl, HP2.out, HF2.out⟩
  have q11 : (x.f0 == 11) = false := beq_eq_false_iff_ne.mpr z11
  have q11b : decide (x.f0 = 11) = false := decide_eq_false z11
  by_cases z6 : x.f0 = 6
  · have q6 : (x.f0 == 6) = true := beq_iff_eq.mpr z6
    have q6b : decide (x.f0 = 6) = true := decide_eq_true z6
    have HE := Aside0.mk (show nodeTxt setTxt kid x = (35 :: Lib.itoa x.f3 : List UInt8) by unfold nodeTxt; rw [if_neg z1, if_neg z2, if_neg z4, if_neg z5, if_neg z11, if_pos z6])
    have HLN := Aside0.mk (show bs.length + (35 :: Lib.itoa x.f3 : List UInt8).length ≤ 140737488355328 by rw [← HE.out]; exact HLEN.out)
    have Z := Aside0.mk z6
    clear z1 z2 z4 z5 z11 z6
    go_enter Tryd.func90, Tryd.ntmps90
    go_wp2
    generalize W.alloc (.cells #[.int .u8 x.f0, .int .i32 x.f1, .bool x.f2.f0, .slice A3 x.f2.f1.length c3, .slice A4 x.f2.f2.length c4, .int .i64 x.f3, .int .i64 x.f4, .int .i64 x.f5, .slice A8 x.f6.length c8] 60) = w9 at HP HF HX ⊢
    refine start_ (n := 8) (S := fun w' => w'.heap[W.heap.size]? = some (.cells #[.int .u8 x.f0, .int .i32 x.f1, .bool x.f2.f0, .slice A3 x.f2.f1.length c3, .slice A4 x.f2.f2.length c4, .int .i64 x.f3, .int .i64 x.f4, .int .i64 x.f5, .slice A8 x.f6.length c8] 60 (0, 0))) (ds := [7]) #[false, false, false, false, false, false, false, false] (by kernel_rfl) rfl rfl ?hS (fun hHeld => ?_)
    case hS => exact HX.out
    have HPd := Aside0.mk (HP.out.keep (below_drew (Below.refl _ w9)))
    have HFd := Aside0.mk (HF.out.trans (Fr.below (below_drew (Below.refl _ w9))))
    generalize w9.drew = wd at HPd HFd hHeld ⊢
    refine pure_ (i := 0) (N := some 63) (v := ?_) (a' := ?_) #[true, false, false, false, false, false, false, false] rfl rfl (by kernel_rfl) (fun _ _ _ h => h) (Or.inl ⟨by rfl, ?_⟩) ?_ ?_
    rotate_left
    · intro w'
      go_simp
      with_reducible rfl
    rotate_left
    · simp only [Act.put, List.setIfInBounds_toArray, List.set_cons_zero, List.set_cons_succ, i64_w, i32_w]
      rfl
    refine pure_ (i := 1) (N := some 64) (v := ?_) (a' := ?_) #[true, true, false, false, false, false, false, false] rfl rfl (by kernel_rfl) (fun _ _ _ h => h) (Or.inl ⟨by rfl, ?_⟩) ?_ ?_
    rotate_left
    · intro w'
      go_simp
      with_reducible rfl
    rotate_left
    · simp only [Act.put, List.setIfInBounds_toArray, List.set_cons_zero, List.set_cons_succ, i64_w, i32_w]
      rfl
    refine pure_ (i := 2) (N := some 65) (v := ?_) (a' := ?_) #[true, true, true, false, false, false, false, false] rfl rfl (by kernel_rfl) (fun _ _ _ h => h) (Or.inl ⟨by rfl, ?_⟩) ?_ ?_
    rotate_left
    · intro w'
      go_simp
      with_reducible rfl
    rotate_left
    · simp only [Act.put, List.setIfInBounds_toArray, List.set_cons_zero, List.set_cons_succ, i64_w, i32_w]
      rfl
    refine pure_ (i := 3) (N := some 66) (v := ?_) (a' := ?_) #[true, true, true, true, false, false, false, false] rfl rfl (by kernel_rfl) (fun _ _ _ h => h) (Or.inl ⟨by rfl, ?_⟩) ?_ ?_
    rotate_left
    · intro w'
      go_simp
      with_reducible rfl
    rotate_left
    · simp only [Act.put, List.setIfInBounds_toArray, List.set_cons_zero, List.set_cons_succ, i64_w, i32_w]
      rfl
    refine take_ (i := 4) (N := some 67) (v := ?_) (a' := ?_) #[true, true, true, true, true, false, false, false] rfl rfl (by kernel_rfl) (fun _ _ _ h => h) (Or.inl ⟨by rfl, ?_⟩) hHeld ?_ ?_
    rotate_left
    · intro w' s0
      have s5 := cell_blk s0 5
      simp only [List.getElem?_toArray, List.getElem?_cons_zero, List.getElem?_cons_succ] at *
      go_simp
      with_reducible rfl
    rotate_left
    · simp only [Act.put, List.setIfInBounds_toArray, List.set_cons_zero, List.set_cons_succ, i64_w, i32_w]
      rfl
    refine one_ (i := 5) (N := some 68) #[true, true, true, true, true, true, false, false] rfl rfl (by kernel_rfl) (by decide) ?_
    intro K hK0
    have hK := Aside0.mk hK0
    clear hK0
    refine goes_ Tryd.func105 (by kernel_rfl) rfl #[.int .i64 x.f3] (by rfl) rfl rfl (by simp [Act.eval]) ?_
    refine (itoa_walk x.f3 HB.out.1 _ (HT.out.below HPd.out.b)).mono ?_
    rintro e w1 ⟨⟨X1, HX1, rfl⟩, hb1⟩
    have HS1 := Aside0.mk (show X1.size = (Lib.itoa x.f3).length by rw [← HX1.out]; exact Lib.size_eq X1)
    have z10 : (9223372036854775807 < 1 + X1.size) = False := eq_false (by have := HS1.out; have := HLN.out; simp only [List.length_append, List.length_cons, List.length_nil] at this; omega)
    refine ⟨_, rfl, ?_⟩
    refine hK.out _ _ ?_ (fun hHeld => ?_)
    · exact (hb1.block _ (lt_of_block hHeld)).trans hHeld
    clear hK K
    refine norm_ (a' := ?_) ?_ ?_
    rotate_left
    · show Act.put _ (some 68) _ = _
      simp only [Act.put, List.setIfInBounds_toArray, List.set_cons_zero, List.set_cons_succ, i64_w, i32_w]
      rfl
    have HP1 := Aside0.mk (HPd.out.keep hb1)
    have HF1 := Aside0.mk (HFd.out.trans (Fr.below hb1))
    clear hb1
    refine pure_ (i := 6) (N := some 69) (v := ?_) (a' := ?_) #[true, true, true, true, true, true, true, false] rfl rfl (by kernel_rfl) (fun _ _ _ h => h) (Or.inl ⟨by rfl, ?_⟩) ?_ ?_
    rotate_left
    · intro w'
      go_simp
      with_reducible rfl
    rotate_left
    · simp only [Act.put, List.setIfInBounds_toArray, List.set_cons_zero, List.set_cons_succ, i64_w, i32_w]
      rfl
    refine last_ (i := 7) (N := some 70) #[true, true, true, true, true, true, true, true] rfl rfl (by kernel_rfl) (by decide) ?_
    intro K hK0
    have hK := Aside0.mk hK0
    clear hK0
    refine goes_ Tryd.func60 (by kernel_rfl) rfl #[.pointer (some ⟨b, 0, none⟩), .string ((⟨#[35]⟩ : ByteArray) ++ X1)] (by rfl) rfl rfl (by simp [Act.eval]) ?_
    refine (HP1.out.string _ (by have := HLN.out; have := HS1.out; simp only [List.length_append, List.length_cons, List.length_nil, ByteArray.size_append] at *; simp only [show (⟨#[35]⟩ : ByteArray).size = 1 from rfl, show (⟨#[39]⟩ : ByteArray).size = 1 from rfl, show (⟨#[40]⟩ : ByteArray).size = 1 from rfl, show (⟨#[58]⟩ : ByteArray).size = 1 from rfl, show (⟨#[42]⟩ : ByteArray).size = 1 from rfl, show (⟨#[44]⟩ : ByteArray).size = 1 from rfl] at *; omega)).mono ?_
    rintro e wz ⟨rfl, hpz, hfz⟩
    have HPz := Aside0.mk hpz
    have HFz := Aside0.mk (HF1.out.trans hfz)
    have HXz := Aside0.mk (hfz _ _ _ (by decide) (by decide) hHeld)
    clear hpz hfz
    refine ⟨_, rfl, ?_⟩
    refine hK.out _ _ ?_
    clear hK K
    refine norm_ (a' := ?_) ?_ ?_
    rotate_left
    · show Act.put _ (some 70) _ = _
      simp only [Act.put, List.setIfInBounds_toArray, List.set_cons_zero, List.set_cons_succ, i64_w, i32_w]
      rfl
    refine done_ (by kernel_rfl) ?_
    go_wp2
    go_end0
    rw [HE.out]
    refine ⟨rfl, ?_, HFz.out⟩
    have := HPz.out
    simp only [ByteArray.data_append, Array.toList_append, HX1.out] at this
    simpa [List.append_assoc] using this
  have q6 : (x.f0 == 6) = false := beq_eq_false_iff_ne.mpr z6
  have q6b : decide (x.f0 = 6) = false := decide_eq_false z6
  by_cases z3 : x.f0 = 3
  · have q3 : (x.f0 == 3) = true := beq_iff_eq.mpr z3
    have q3b : decide (x.f0 = 3) = true := decide_eq_true z3
    have HE := Aside0.mk (show nodeTxt setTxt kid x = (setTxt x.f2 : List UInt8) by unfold nodeTxt; rw [if_neg z1, if_neg z2, if_neg z4, if_neg z5, if_neg z11, if_neg z6, if_pos z3])
    have HLN := Aside0.mk (show bs.length + (setTxt x.f2 : List UInt8).length ≤ 140737488355328 by rw [← HE.out]; exact HLEN.out)
    have Z := Aside0.mk z3
    clear z1 z2 z4 z5 z11 z6 z3
    go_enter Tryd.func90, Tryd.ntmps90
    have s2 := cell_blk HX.out 2
    have s3 := cell_blk HX.out 3
    have s4 := cell_blk HX.out 4
    simp only [List.getElem?_toArray, List.getElem?_cons_zero, List.getElem?_cons_succ] at s2 s3 s4
    go_wp2_with (go_at_call 106; refine (HSET.out Z.out bs A3 A4 c3 c4 _ HP.out HC.out.1 HC.out.2.1 HC.out.2.2.1 HC.out.2.2.2 HLN.out).mono ?_; rintro e w2 ⟨rfl, hp2, hf2⟩; have HP2 := Aside0.mk hp2; have HF2 := Aside0.mk (HF.out.trans hf2); clear hp2 hf2)
    go_end0
    rw [HE.out]
    exact ⟨rfl, HP2.out, HF2.out⟩
  have q3 : (x.f0 == 3) = false := beq_eq_false_iff_ne.mpr z3
  have q3b : decide (x.f0 = 3) = false := decide_eq_false z3
  by_cases z7 : x.f0 = 7
  · have q7 : (x.f0 == 7) = true := beq_iff_eq.mpr z7
    have q7b : decide (x.f0 = 7) = true := decide_eq_true z7
    have HE := Aside0.mk (show nodeTxt setTxt kid x = (40 :: (Lib.itoa x.f3 ++ [58]) ++ kidsTxt kid [] 0 x.f6 ++ [41] : List UInt8) by unfold nodeTxt; rw [if_neg z1, if_neg z2, if_neg z4, if_neg z5, if_neg z11, if_neg z6, if_neg z3, if_pos z7])
    have HLN := Aside0.mk (show bs.length + (40 :: (Lib.itoa x.f3 ++ [58]) ++ kidsTxt kid [] 0 x.f6 ++ [41] : List UInt8).length ≤ 140737488355328 by rw [← HE.out]; exact HLEN.out)
    have Z := Aside0.mk z7
    clear z1 z2 z4 z5 z11 z6 z3 z7
    go_enter Tryd.func90, Tryd.ntmps90
    go_wp2
    rename_i K' ha
    generalize W.alloc (.cells #[.int .u8 x.f0, .int .i32 x.f1, .bool x.f2.f0, .slice A3 x.f2.f1.length c3, .slice A4 x.f2.f2.length c4, .int .i64 x.f3, .int .i64 x.f4, .int .i64 x.f5, .slice A8 x.f6.length c8] 60) = w9 at HP HF HX ⊢
    refine start_ (n := 9) (S := fun w' => w'.heap[W.heap.size]? = some (.cells #[.int .u8 x.f0, .int .i32 x.f1, .bool x.f2.f0, .slice A3 x.f2.f1.length c3, .slice A4 x.f2.f2.length c4, .int .i64 x.f3, .int .i64 x.f4, .int .i64 x.f5, .slice A8 x.f6.length c8] 60 (0, 0))) (ds := [8]) #[false, false, false, false, false, false, false, false, false] (by kernel_rfl) rfl rfl ?hS (fun hHeld => ?_)
    case hS => exact HX.out
    have HPd := Aside0.mk (HP.out.keep (below_drew (Below.refl _ w9)))
    have HFd := Aside0.mk (HF.out.trans (Fr.below (below_drew (Below.refl _ w9))))
    generalize w9.drew = wd at HPd HFd hHeld ⊢
    refine pure_ (i := 0) (N := some 79) (v := ?_) (a' := ?_) #[true, false, false, false, false, false, false, false, false] rfl rfl (by kernel_rfl) (fun _ _ _ h => h) (Or.inl ⟨by rfl, ?_⟩) ?_ ?_
    rotate_left
    · intro w'
      go_simp
      with_reducible rfl
    rotate_left
    · simp only [Act.put, List.setIfInBounds_toArray, List.set_cons_zero, List.set_cons_succ, i64_w, i32_w]
      rfl
    refine pure_ (i := 1) (N := some 80) (v := ?_) (a' := ?_) #[true, true, false, false, false, false, false, false, false] rfl rfl (by kernel_rfl) (fun _ _ _ h => h) (Or.inl ⟨by rfl, ?_⟩) ?_ ?_
    rotate_left
    · intro w'
      go_simp
      with_reducible rfl
    rotate_left
    · simp only [Act.put, List.setIfInBounds_toArray, List.set_cons_zero, List.set_cons_succ, i64_w, i32_w]
      rfl
    refine pure_ (i := 2) (N := some 81) (v := ?_) (a' := ?_) #[true, true, true, false, false, false, false, false, false] rfl rfl (by kernel_rfl) (fun _ _ _ h => h) (Or.inl ⟨by rfl, ?_⟩) ?_ ?_
    rotate_left
    · intro w'
      go_simp
      with_reducible rfl
    rotate_left
    · simp only [Act.put, List.setIfInBounds_toArray, List.set_cons_zero, List.set_cons_succ, i64_w, i32_w]
      rfl
    refine pure_ (i := 3) (N := some 82) (v := ?_) (a' := ?_) #[true, true, true, true, false, false, false, false, false] rfl rfl (by kernel_rfl) (fun _ _ _ h => h) (Or.inl ⟨by rfl, ?_⟩) ?_ ?_
    rotate_left
    · intro w'
      go_simp
      with_reducible rfl
    rotate_left
    · simp only [Act.put, List.setIfInBounds_toArray, List.set_cons_zero, List.set_cons_succ, i64_w, i32_w]
      rfl
    refine take_ (i := 4) (N := some 83) (v := ?_) (a' := ?_) #[true, true, true, true, true, false, false, false, false] rfl rfl (by kernel_rfl) (fun _ _ _ h => h) (Or.inl ⟨by rfl, ?_⟩) hHeld ?_ ?_
    rotate_left
    · intro w' s0
      have s5 := cell_blk s0 5
      simp only [List.getElem?_toArray, List.getElem?_cons_zero, List.getElem?_cons_succ] at *
      go_simp
      with_reducible rfl
    rotate_left
    · simp only [Act.put, List.setIfInBounds_toArray, List.set_cons_zero, List.set_cons_succ, i64_w, i32_w]
      rfl
    refine one_ (i := 5) (N := some 84) #[true, true, true, true, true, true, false, false, false] rfl rfl (by kernel_rfl) (by decide) ?_
    intro K hK0
    have hK := Aside0.mk hK0
    clear hK0
    refine goes_ Tryd.func105 (by kernel_rfl) rfl #[.int .i64 x.f3] (by rfl) rfl rfl (by simp [Act.eval]) ?_
    refine (itoa_walk x.f3 HB.out.1 _ (HT.out.below HPd.out.b)).mono ?_
    rintro e w1 ⟨⟨X1, HX1, rfl⟩, hb1⟩
    have HS1 := Aside0.mk (show X1.size = (Lib.itoa x.f3).length by rw [← HX1.out]; exact Lib.size_eq X1)
    have z10 : (9223372036854775807 < 1 + X1.size) = False := eq_false (by have := HS1.out; have := HLN.out; simp only [List.length_append, List.length_cons, List.length_nil] at this; omega)
    have z11 : (9223372036854775807 < 1 + X1.size + 1) = False := eq_false (by have := HS1.out; have := HLN.out; simp only [List.length_append, List.length_cons, List.length_nil] at this; omega)
    refine ⟨_, rfl, ?_⟩
    refine hK.out _ _ ?_ (fun hHeld => ?_)
    · exact (hb1.block _ (lt_of_block hHeld)).trans hHeld
    clear hK K
    refine norm_ (a' := ?_) ?_ ?_
    rotate_left
    · show Act.put _ (some 84) _ = _
      simp only [Act.put, List.setIfInBounds_toArray, List.set_cons_zero, List.set_cons_succ, i64_w, i32_w]
      rfl
    have HP1 := Aside0.mk (HPd.out.keep hb1)
    have HF1 := Aside0.mk (HFd.out.trans (Fr.below hb1))
    clear hb1
    refine pure_ (i := 6) (N := some 85) (v := ?_) (a' := ?_) #[true, true, true, true, true, true, true, false, false] rfl rfl (by kernel_rfl) (fun _ _ _ h => h) (Or.inl ⟨by rfl, ?_⟩) ?_ ?_
    rotate_left
    · intro w'
      go_simp
      with_reducible rfl
    rotate_left
    · simp only [Act.put, List.setIfInBounds_toArray, List.set_cons_zero, List.set_cons_succ, i64_w, i32_w]
      rfl
    refine pure_ (i := 7) (N := some 86) (v := ?_) (a' := ?_) #[true, true, true, true, true, true, true, true, false] rfl rfl (by kernel_rfl) (fun _ _ _ h => h) (Or.inl ⟨by rfl, ?_⟩) ?_ ?_
    rotate_left
    · intro w'
      go_simp
      with_reducible rfl
    rotate_left
    · simp only [Act.put, List.setIfInBounds_toArray, List.set_cons_zero, List.set_cons_succ, i64_w, i32_w]
      rfl
    refine last_ (i := 8) (N := some 87) #[true, true, true, true, true, true, true, true, true] rfl rfl (by kernel_rfl) (by decide) ?_
    intro K hK0
    have hK := Aside0.mk hK0
    clear hK0
    refine goes_ Tryd.func60 (by kernel_rfl) rfl #[.pointer (some ⟨b, 0, none⟩), .string ((⟨#[40]⟩ : ByteArray) ++ X1 ++ (⟨#[58]⟩ : ByteArray))] (by rfl) rfl rfl (by simp [Act.eval]) ?_
    refine (HP1.out.string _ (by have := HLN.out; have := HS1.out; simp only [List.length_append, List.length_cons, List.length_nil, ByteArray.size_append] at *; simp only [show (⟨#[35]⟩ : ByteArray).size = 1 from rfl, show (⟨#[39]⟩ : ByteArray).size = 1 from rfl, show (⟨#[40]⟩ : ByteArray).size = 1 from rfl, show (⟨#[58]⟩ : ByteArray).size = 1 from rfl, show (⟨#[42]⟩ : ByteArray).size = 1 from rfl, show (⟨#[44]⟩ : ByteArray).size = 1 from rfl] at *; omega)).mono ?_
    rintro e wz ⟨rfl, hpz, hfz⟩
    have HPz := Aside0.mk hpz
    have HFz := Aside0.mk (HF1.out.trans hfz)
    have HXz := Aside0.mk (hfz _ _ _ (by decide) (by decide) hHeld)
    clear hpz hfz
    refine ⟨_, rfl, ?_⟩
    refine hK.out _ _ ?_
    clear hK K
    refine norm_ (a' := ?_) ?_ ?_
    rotate_left
    · show Act.put _ (some 87) _ = _
      simp only [Act.put, List.setIfInBounds_toArray, List.set_cons_zero, List.set_cons_succ, i64_w, i32_w]
      rfl
    refine done_ (by kernel_rfl) ?_
    show K' _ _
    refine ha _ _ ?_
    clear ha
    have s8 := cell_blk HXz.out 8
    simp only [List.getElem?_toArray, List.getElem?_cons_zero, List.getElem?_cons_succ] at s8
    have HL2 := HLN
    go_wp2_with (first | (go_at_call 107; refine (kids_walk w0 b A c ns g HR.out kid (⟨#[]⟩ : ByteArray) A8 c8 x.f6 HK8.out HIN.out HKID.out _ _ HPz.out (by have := HLN.out; simp only [List.length_append, List.length_cons, List.length_nil] at this ⊢; have := HS1.out; simp only [show (⟨#[40]⟩ : ByteArray).size = 1 from rfl, show (⟨#[58]⟩ : ByteArray).size = 1 from rfl, ByteArray.data_append, Array.toList_append, HX1.out, List.length_append, List.length_cons, List.length_nil] at *; omega)).mono ?_; rintro e w3 ⟨rfl, hp3, hf3⟩; have HP3 := Aside0.mk hp3; have HF3 := Aside0.mk (HFz.out.trans hf3); have HX3 := Aside0.mk (hf3 _ _ _ (by decide) (by decide) HXz.out); have y0 := cell_blk HX3.out 0; have y6 := cell_blk HX3.out 6; have y7 := cell_blk HX3.out 7; simp only [List.getElem?_toArray, List.getElem?_cons_zero, List.getElem?_cons_succ] at y0 y6 y7; clear hp3 hf3) | (go_at_call 62; refine (HP3.out.byte _ 41 rfl (by have := HLN.out; simp only [List.length_append, List.length_cons, List.length_nil] at *; simp only [ByteArray.data_append, Array.toList_append, HX1.out, List.length_append, List.length_cons, List.length_nil] at *; omega)).mono ?_; rintro e w4 ⟨rfl, hp4, hf4⟩; have HP4 := Aside0.mk hp4; have HF4 := Aside0.mk (HF3.out.trans hf4); clear hp4 hf4))
    go_end0
    rw [HE.out]
    refine ⟨rfl, ?_, HF4.out⟩
    have := HP4.out
    simp only [ByteArray.data_append, Array.toList_append, HX1.out] at this
    simpa [List.append_assoc] using this
  have q7 : (x.f0 == 7) = false := beq_eq_false_iff_ne.mpr z7
  have q7b : decide (x.f0 = 7) = false := decide_eq_false z7
  by_cases z9 : x.f0 = 9
  · have q9 : (x.f0 == 9) = true := beq_iff_eq.mpr z9
    have q9b : decide (x.f0 = 9) = true := decide_eq_true z9
    have HE := Aside0.mk (show nodeTxt setTxt kid x = ([123] ++ kidsTxt kid [124] 0 x.f6 ++ [125] : List UInt8) by unfold nodeTxt; rw [if_neg z1, if_neg z2, if_neg z4, if_neg z5, if_neg z11, if_neg z6, if_neg z3, if_neg z7, if_pos z9])
    have HLN := Aside0.mk (show bs.length + ([123] ++ kidsTxt kid [124] 0 x.f6 ++ [125] : List UInt8).length ≤ 140737488355328 by rw [← HE.out]; exact HLEN.out)
    have Z := Aside0.mk z9
    clear z1 z2 z4 z5 z11 z6 z3 z7 z9
    go_enter Tryd.func90, Tryd.ntmps90
    have s8 := cell_blk HX.out 8
    simp only [List.getElem?_toArray, List.getElem?_cons_zero, List.getElem?_cons_succ] at s8
    go_wp2_with (go_at_call 62; refine (HP.out.byte _ 123 rfl (by have := HLN.out; simp only [List.length_append, List.length_cons, List.length_nil] at this ⊢; omega)).mono ?_; rintro e w2 ⟨rfl, hp2, hf2⟩; have HP2 := Aside0.mk hp2; have HF2 := Aside0.mk (HF.out.trans hf2); have HX2 := Aside0.mk (hf2 _ _ _ (by decide) (by decide) HX.out); have t8 := cell_blk HX2.out 8; simp only [List.getElem?_toArray, List.getElem?_cons_zero, List.getElem?_cons_succ] at t8; clear hp2 hf2)
    refine (kids_walk w0 b A c ns g HR.out kid (⟨#[124]⟩ : ByteArray) A8 c8 x.f6 HK8.out HIN.out HKID.out (bs ++ [123]) w2 HP2.out ?L).mono ?_
    case L =>
      have := HLN.out
      simp only [List.length_append, List.length_cons, List.length_nil] at this ⊢
      omega
    rintro e w3 ⟨rfl, hp3, hf3⟩
    have HP3 := Aside0.mk hp3
    have HF3 := Aside0.mk (HF2.out.trans hf3)
    clear hp3 hf3
    go_wp2_with (go_at_call 62; refine (HP3.out.byte _ 125 rfl (by have := HLN.out; simp only [List.length_append, List.length_cons, List.length_nil] at this ⊢; omega)).mono ?_; rintro e w4 ⟨rfl, hp4, hf4⟩; have HP4 := Aside0.mk hp4; have HF4 := Aside0.mk (HF3.out.trans hf4); clear hp4 hf4)
    go_end0
    rw [HE.out]
    refine ⟨rfl, ?_, HF4.out⟩
    have := HP4.out
    simpa [List.append_assoc] using this
  have q9 : (x.f0 == 9) = false := beq_eq_false_iff_ne.mpr z9
  have q9b : decide (x.f0 = 9) = false := decide_eq_false z9
  by_cases z10 : x.f0 = 10
  · have q10 : (x.f0 == 10) = true := beq_iff_eq.mpr z10
    have q10b : decide (x.f0 = 10) = true := decide_eq_true z10
    have HE := Aside0.mk (show nodeTxt setTxt kid x = (kidsTxt kid [] 0 x.f6 ++ (42 :: Lib.itoa x.f4 ++ [44] ++ Lib.itoa x.f5) : List UInt8) by unfold nodeTxt; rw [if_neg z1, if_neg z2, if_neg z4, if_neg z5, if_neg z11, if_neg z6, if_neg z3, if_neg z7, if_neg z9, if_pos z10])
    have HLN := Aside0.mk (show bs.length + (kidsTxt kid [] 0 x.f6 ++ (42 :: Lib.itoa x.f4 ++ [44] ++ Lib.itoa x.f5) : List UInt8).length ≤ 140737488355328 by rw [← HE.out]; exact HLEN.out)
    have Z := Aside0.mk z10
    clear z1 z2 z4 z5 z11 z6 z3 z7 z9 z10
    go_enter Tryd.func90, Tryd.ntmps90
    have s8 := cell_blk HX.out 8
    simp only [List.getElem?_toArray, List.getElem?_cons_zero, List.getElem?_cons_succ] at s8
    go_wp2_with (first | (go_at_call 107; refine (kids_walk w0 b A c ns g HR.out kid (⟨#[]⟩ : ByteArray) A8 c8 x.f6 HK8.out HIN.out HKID.out _ _ HP.out (by have := HLN.out; simp only [List.length_append, List.length_cons, List.length_nil] at this ⊢; omega)).mono ?_; rintro e w3 ⟨rfl, hp3, hf3⟩; have HP3 := Aside0.mk hp3; have HF3 := Aside0.mk (HF.out.trans hf3); have HX3 := Aside0.mk (hf3 _ _ _ (by decide) (by decide) HX.out); have y0 := cell_blk HX3.out 0; have y6 := cell_blk HX3.out 6; have y7 := cell_blk HX3.out 7; simp only [List.getElem?_toArray, List.getElem?_cons_zero, List.getElem?_cons_succ] at y0 y6 y7; clear hp3 hf3))
    refine start_ (n := 13) (S := fun w' => w'.heap[W.heap.size]? = some (.cells #[.int .u8 x.f0, .int .i32 x.f1, .bool x.f2.f0, .slice A3 x.f2.f1.length c3, .slice A4 x.f2.f2.length c4, .int .i64 x.f3, .int .i64 x.f4, .int .i64 x.f5, .slice A8 x.f6.length c8] 60 (0, 0))) (ds := [12]) #[false, false, false, false, false, false, false, false, false, false, false, false, false] (by kernel_rfl) rfl rfl ?hS (fun hHeld => ?_)
    case hS => exact HX3.out
    have HPd := Aside0.mk (HP3.out.keep (below_drew (Below.refl _ w3)))
    have HFd := Aside0.mk (HF3.out.trans (Fr.below (below_drew (Below.refl _ w3))))
    generalize w3.drew = wd at HPd HFd hHeld ⊢
    refine pure_ (i := 0) (N := some 13) (v := ?_) (a' := ?_) #[true, false, false, false, false, false, false, false, false, false, false, false, false] rfl rfl (by kernel_rfl) (fun _ _ _ h => h) (Or.inl ⟨by rfl, ?_⟩) ?_ ?_
    rotate_left
    · intro w'
      go_simp
      with_reducible rfl
    rotate_left
    · simp only [Act.put, List.setIfInBounds_toArray, List.set_cons_zero, List.set_cons_succ, i64_w, i32_w]
      rfl
    refine pure_ (i := 1) (N := some 14) (v := ?_) (a' := ?_) #[true, true, false, false, false, false, false, false, false, false, false, false, false] rfl rfl (by kernel_rfl) (fun _ _ _ h => h) (Or.inl ⟨by rfl, ?_⟩) ?_ ?_
    rotate_left
    · intro w'
      go_simp
      with_reducible rfl
    rotate_left
    · simp only [Act.put, List.setIfInBounds_toArray, List.set_cons_zero, List.set_cons_succ, i64_w, i32_w]
      rfl
    refine pure_ (i := 2) (N := some 15) (v := ?_) (a' := ?_) #[true, true, true, false, false, false, false, false, false, false, false, false, false] rfl rfl (by kernel_rfl) (fun _ _ _ h => h) (Or.inl ⟨by rfl, ?_⟩) ?_ ?_
    rotate_left
    · intro w'
      go_simp
      with_reducible rfl
    rotate_left
    · simp only [Act.put, List.setIfInBounds_toArray, List.set_cons_zero, List.set_cons_succ, i64_w, i32_w]
      rfl
    refine pure_ (i := 3) (N := some 16) (v := ?_) (a' := ?_) #[true, true, true, true, false, false, false, false, false, false, false, false, false] rfl rfl (by kernel_rfl) (fun _ _ _ h => h) (Or.inl ⟨by rfl, ?_⟩) ?_ ?_
    rotate_left
    · intro w'
      go_simp
      with_reducible rfl
    rotate_left
    · simp only [Act.put, List.setIfInBounds_toArray, List.set_cons_zero, List.set_cons_succ, i64_w, i32_w]
      rfl
    refine take_ (i := 4) (N := some 17) (v := ?_) (a' := ?_) #[true, true, true, true, true, false, false, false, false, false, false, false, false] rfl rfl (by kernel_rfl) (fun _ _ _ h => h) (Or.inl ⟨by rfl, ?_⟩) hHeld ?_ ?_
    rotate_left
    · intro w' s0
      have s6 := cell_blk s0 6
      simp only [List.getElem?_toArray, List.getElem?_cons_zero, List.getElem?_cons_succ] at *
      go_simp
      with_reducible rfl
    rotate_left
    · simp only [Act.put, List.setIfInBounds_toArray, List.set_cons_zero, List.set_cons_succ, i64_w, i32_w]
      rfl
    refine pure_ (i := 8) (N := some 21) (v := ?_) (a' := ?_) #[true, true, true, true, true, false, false, false, true, false, false, false, false] rfl rfl (by kernel_rfl) (fun _ _ _ h => h) (Or.inl ⟨by rfl, ?_⟩) ?_ ?_
    rotate_left
    · intro w'
      go_simp
      with_reducible rfl
    rotate_left
    · simp only [Act.put, List.setIfInBounds_toArray, List.set_cons_zero, List.set_cons_succ, i64_w, i32_w]
      rfl
    refine take_ (i := 9) (N := some 22) (v := ?_) (a' := ?_) #[true, true, true, true, true, false, false, false, true, true, false, false, false] rfl rfl (by kernel_rfl) (fun _ _ _ h => h) (Or.inl ⟨by rfl, ?_⟩) hHeld ?_ ?_
    rotate_left
    · intro w' s0
      have s7 := cell_blk s0 7
      simp only [List.getElem?_toArray, List.getElem?_cons_zero, List.getElem?_cons_succ] at *
      go_simp
      with_reducible rfl
    rotate_left
    · simp only [Act.put, List.setIfInBounds_toArray, List.set_cons_zero, List.set_cons_succ, i64_w, i32_w]
      rfl
    refine one_ (i := 5) (N := some 18) #[true, true, true, true, true, true, false, false, true, true, false, false, false] rfl rfl (by kernel_rfl) (by decide) ?_
    intro K hK0
    have hK := Aside0.mk hK0
    clear hK0
    refine goes_ Tryd.func105 (by kernel_rfl) rfl #[.int .i64 x.f4] (by rfl) rfl rfl (by simp [Act.eval]) ?_
    refine (itoa_walk x.f4 HB.out.2.1 _ (HT.out.below HPd.out.b)).mono ?_
    rintro e w1 ⟨⟨X1, HX1, rfl⟩, hb1⟩
    have HS1 := Aside0.mk (show X1.size = (Lib.itoa x.f4).length by rw [← HX1.out]; exact Lib.size_eq X1)
    have z10 : (9223372036854775807 < 1 + X1.size) = False := eq_false (by have := HS1.out; have := HLN.out; simp only [List.length_append, List.length_cons, List.length_nil] at this; omega)
    have z11 : (9223372036854775807 < 1 + X1.size + 1) = False := eq_false (by have := HS1.out; have := HLN.out; simp only [List.length_append, List.length_cons, List.length_nil] at this; omega)
    refine ⟨_, rfl, ?_⟩
    refine hK.out _ _ ?_ (fun hHeld => ?_)
    · exact (hb1.block _ (lt_of_block hHeld)).trans hHeld
    clear hK K
    refine norm_ (a' := ?_) ?_ ?_
    rotate_left
    · show Act.put _ (some 18) _ = _
      simp only [Act.put, List.setIfInBounds_toArray, List.set_cons_zero, List.set_cons_succ, i64_w, i32_w]
      rfl
    have HP1 := Aside0.mk (HPd.out.keep hb1)
    have HF1 := Aside0.mk (HFd.out.trans (Fr.below hb1))
    clear hb1
    refine pure_ (i := 6) (N := some 19) (v := ?_) (a' := ?_) #[true, true, true, true, true, true, true, false, true, true, false, false, false] rfl rfl (by kernel_rfl) (fun _ _ _ h => h) (Or.inl ⟨by rfl, ?_⟩) ?_ ?_
    rotate_left
    · intro w'
      go_simp
      with_reducible rfl
    rotate_left
    · simp only [Act.put, List.setIfInBounds_toArray, List.set_cons_zero, List.set_cons_succ, i64_w, i32_w]
      rfl
    refine pure_ (i := 7) (N := some 20) (v := ?_) (a' := ?_) #[true, true, true, true, true, true, true, true, true, true, false, false, false] rfl rfl (by kernel_rfl) (fun _ _ _ h => h) (Or.inl ⟨by rfl, ?_⟩) ?_ ?_
    rotate_left
    · intro w'
      go_simp
      with_reducible rfl
    rotate_left
    · simp only [Act.put, List.setIfInBounds_toArray, List.set_cons_zero, List.set_cons_succ, i64_w, i32_w]
      rfl
    refine one_ (i := 10) (N := some 23) #[true, true, true, true, true, true, true, true, true, true, true, false, false] rfl rfl (by kernel_rfl) (by decide) ?_
    intro K hK0
    have hK := Aside0.mk hK0
    clear hK0
    refine goes_ Tryd.func105 (by kernel_rfl) rfl #[.int .i64 x.f5] (by rfl) rfl rfl (by simp [Act.eval]) ?_
    refine (itoa_walk x.f5 HB.out.2.2 _ (HT.out.below HP1.out.b)).mono ?_
    rintro e w2 ⟨⟨X2, HX2, rfl⟩, hb2⟩
    have HS2 := Aside0.mk (show X2.size = (Lib.itoa x.f5).length by rw [← HX2.out]; exact Lib.size_eq X2)
    have z20 : (9223372036854775807 < 1 + X1.size + 1 + X2.size) = False := eq_false (by have := HS1.out; have := HS2.out; have := HLN.out; simp only [List.length_append, List.length_cons, List.length_nil] at this; omega)
    refine ⟨_, rfl, ?_⟩
    refine hK.out _ _ ?_ (fun hHeld => ?_)
    · exact (hb2.block _ (lt_of_block hHeld)).trans hHeld
    clear hK K
    refine norm_ (a' := ?_) ?_ ?_
    rotate_left
    · show Act.put _ (some 23) _ = _
      simp only [Act.put, List.setIfInBounds_toArray, List.set_cons_zero, List.set_cons_succ, i64_w, i32_w]
      rfl
    have HP2 := Aside0.mk (HP1.out.keep hb2)
    have HF2 := Aside0.mk (HF1.out.trans (Fr.below hb2))
    clear hb2
    refine pure_ (i := 11) (N := some 24) (v := ?_) (a' := ?_) #[true, true, true, true, true, true, true, true, true, true, true, true, false] rfl rfl (by kernel_rfl) (fun _ _ _ h => h) (Or.inl ⟨by rfl, ?_⟩) ?_ ?_
    rotate_left
    · intro w'
      go_simp
      with_reducible rfl
    rotate_left
    · simp only [Act.put, List.setIfInBounds_toArray, List.set_cons_zero, List.set_cons_succ, i64_w, i32_w]
      rfl
    refine last_ (i := 12) (N := some 25) #[true, true, true, true, true, true, true, true, true, true, true, true, true] rfl rfl (by kernel_rfl) (by decide) ?_
    intro K hK0
    have hK := Aside0.mk hK0
    clear hK0
    refine goes_ Tryd.func60 (by kernel_rfl) rfl #[.pointer (some ⟨b, 0, none⟩), .string ((⟨#[42]⟩ : ByteArray) ++ X1 ++ (⟨#[44]⟩ : ByteArray) ++ X2)] (by rfl) rfl rfl (by simp [Act.eval]) ?_
    refine (HP2.out.string _ (by have := HLN.out; have := HS1.out; have := HS2.out; simp only [List.length_append, List.length_cons, List.length_nil, ByteArray.size_append] at *; simp only [show (⟨#[35]⟩ : ByteArray).size = 1 from rfl, show (⟨#[39]⟩ : ByteArray).size = 1 from rfl, show (⟨#[40]⟩ : ByteArray).size = 1 from rfl, show (⟨#[58]⟩ : ByteArray).size = 1 from rfl, show (⟨#[42]⟩ : ByteArray).size = 1 from rfl, show (⟨#[44]⟩ : ByteArray).size = 1 from rfl] at *; omega)).mono ?_
    rintro e wz ⟨rfl, hpz, hfz⟩
    have HPz := Aside0.mk hpz
    have HFz := Aside0.mk (HF2.out.trans hfz)
    have HXz := Aside0.mk (hfz _ _ _ (by decide) (by decide) hHeld)
    clear hpz hfz
    refine ⟨_, rfl, ?_⟩
    refine hK.out _ _ ?_
    clear hK K
    refine norm_ (a' := ?_) ?_ ?_
    rotate_left
    · show Act.put _ (some 25) _ = _
      simp only [Act.put, List.setIfInBounds_toArray, List.set_cons_zero, List.set_cons_succ, i64_w, i32_w]
      rfl
    refine done_ (by kernel_rfl) ?_
    go_wp2
    go_end0
    rw [HE.out]
    refine ⟨rfl, ?_, HFz.out⟩
    have := HPz.out
    simp only [ByteArray.data_append, Array.toList_append, HX1.out, HX2.out] at this
    simpa [List.append_assoc] using this
  have q10 : (x.f0 == 10) = false := beq_eq_false_iff_ne.mpr z10
  have q10b : decide (x.f0 = 10) = false := decide_eq_false z10
  have HE := Aside0.mk (show nodeTxt setTxt kid x = (kidsTxt kid [] 0 x.f6 : List UInt8) by unfold nodeTxt; rw [if_neg z1, if_neg z2, if_neg z4, if_neg z5, if_neg z11, if_neg z6, if_neg z3, if_neg z7, if_neg z9, if_neg z10])
  have HLN := Aside0.mk (show bs.length + (kidsTxt kid [] 0 x.f6 : List UInt8).length ≤ 140737488355328 by rw [← HE.out]; exact HLEN.out)
  clear z1 z2 z4 z5 z11 z6 z3 z7 z9 z10
  go_enter Tryd.func90, Tryd.ntmps90
  have s8 := cell_blk HX.out 8
  simp only [List.getElem?_toArray, List.getElem?_cons_zero, List.getElem?_cons_succ] at s8
  go_wp2_with (first | (go_at_call 107; refine (kids_walk w0 b A c ns g HR.out kid (⟨#[]⟩ : ByteArray) A8 c8 x.f6 HK8.out HIN.out HKID.out _ _ HP.out (by have := HLN.out; simp only [List.length_append, List.length_cons, List.length_nil] at this ⊢; omega)).mono ?_; rintro e w3 ⟨rfl, hp3, hf3⟩; have HP3 := Aside0.mk hp3; have HF3 := Aside0.mk (HF.out.trans hf3); have HX3 := Aside0.mk (hf3 _ _ _ (by decide) (by decide) HX.out); have y0 := cell_blk HX3.out 0; have y6 := cell_blk HX3.out 6; have y7 := cell_blk HX3.out 7; simp only [List.getElem?_toArray, List.getElem?_cons_zero, List.getElem?_cons_succ] at y0 y6 y7; clear hp3 hf3))
  go_end0
  rw [HE.out]
  exact ⟨rfl, HP3.out, HF3.out⟩
end Go.Proofs.YtcppmghhijffpaaDoorW.PrintMore
