import Derived.Test.YtcppmghhijffpaaDoorTreePb
/-! (*tree.printer).kids: some nodes printed, with a sign between. -/
namespace Go.Proofs.YtcppmghhijffpaaDoorW.PrintMore
open Go.RowKit Go.Proofs.YtcppmghhijffpaaDoorW.PrintWords Go.Proofs.YtcppmghhijffpaaDoorW.PrintLast Go.Proofs.YtcppmghhijffpaaDoor.X
set_option linter.unusedSimpArgs false
set_option linter.unusedVariables false
/-- What is held of a printer that prints a tree of the world w0. -/
structure PS (w0 : World) (b : Nat) (tv : Value) (g : Int) (bs : List UInt8) (W : World) : Prop where
  p : PB w0.heap.size b tv g (Lib.byteCells bs) W
  b : Below w0.heap.size w0 W
theorem PS.keep {w0 : World} {b : Nat} {tv : Value} {g : Int} {bs : List UInt8} {W W' : World} (h : PS w0 b tv g bs W) (hb : Below W.heap.size W W') : PS w0 b tv g bs W' :=
  ⟨h.p.keep hb, h.b.trans (hb.mono h.b.size)⟩
theorem PS.string {w0 : World} {b : Nat} {tv : Value} {g : Int} {bs : List UInt8} {W : World} (h : PS w0 b tv g bs W) (s : ByteArray) (hl : bs.length + s.size ≤ 140737488355328) :
    Calls Tryd.prog 60 #[.pointer (some ⟨b, 0, none⟩), .string s] W fun e w' => e = .returned (.tuple #[.int .i64 s.size, .nilIface]) ∧ PS w0 b tv g (bs ++ s.data.toList) w' ∧ Fr W w' := by
  refine (pb_string w0.heap.size b tv g (Lib.byteCells bs) s W h.p (by rw [Lib.byteCells_length]; exact hl) h.b.size).mono ?_
  rintro e w' ⟨rfl, h1, h2, h3⟩
  refine ⟨rfl, ⟨?_, h.b.trans h2⟩, h3⟩
  rw [Lib.strCells_eq, ← Lib.byteCells_append] at h1
  exact h1
theorem PS.byte {w0 : World} {b : Nat} {tv : Value} {g : Int} {bs : List UInt8} {W : World} (h : PS w0 b tv g bs W) (c : Int) (u : UInt8) (hu : c = (u.toNat : Int)) (hl : bs.length + 1 ≤ 140737488355328) :
    Calls Tryd.prog 62 #[.pointer (some ⟨b, 0, none⟩), .int .u8 c] W fun e w' => e = .returned .nilIface ∧ PS w0 b tv g (bs ++ [u]) w' ∧ Fr W w' := by
  subst hu
  refine (pb_byte w0.heap.size b tv g (Lib.byteCells bs) _ W h.p (by rw [Lib.byteCells_length]; exact hl) h.b.size).mono ?_
  rintro e w' ⟨rfl, h1, h2, h3⟩
  refine ⟨rfl, ⟨?_, h.b.trans h2⟩, h3⟩
  rw [Lib.byteCells_append]
  exact h1
/-- Printed kids, from number i on. -/
def kidsTxt (kid : Int → List UInt8) (sep : List UInt8) : Nat → List Int → List UInt8
  | _, [] => []
  | i, k :: r => (if 0 < i then sep else []) ++ kid k ++ kidsTxt kid sep (i + 1) r
theorem kidsTxt_next (kid : Int → List UInt8) (sep : List UInt8) (l : List Int) (i : Nat) (hi : i < l.length) : kidsTxt kid sep i (l.drop i) = (if 0 < i then sep else []) ++ kid (l.getD i 0) ++ kidsTxt kid sep (i + 1) (l.drop (i + 1)) := by
  rw [List.drop_eq_getElem_cons hi, kidsTxt, List.getD_eq_getElem?_getD, List.getElem?_eq_getElem hi]
  rfl
/-- Node k is printed as told. -/
def NodeOk (w0 : World) (b : Nat) (tv : Value) (g : Int) (x : S60) (txt : List UInt8) : Prop :=
  ∀ (bs : List UInt8) (cs : List Value) (W : World), PS w0 b tv g bs W → k60.K w0 x cs → bs.length + txt.length ≤ 140737488355328 →
    Calls Tryd.prog 90 #[.pointer (some ⟨b, 0, none⟩), .agg cs.toArray] W fun e w' => e = .returned (.tuple #[]) ∧ PS w0 b tv g (bs ++ txt) w' ∧ Fr W w'
set_option maxHeartbeats 8000000 in
set_option maxRecDepth 100000 in
theorem kids_walk (w0 : World) (b : Nat) (A : Option Addr) (c : Nat) (ns : List S60) (g : Int) (hr : Kd.C k60 w0 A ns.length ns) (kid : Int → List UInt8) (sep : ByteArray) (A8 : Option Addr) (c8 : Nat) (l : List Int) (hl : Kd.C (Kd.int .i64) w0 A8 l.length l)
    (hin : ∀ k ∈ l, 0 ≤ k ∧ k < ns.length) (hkid : ∀ k ∈ l, NodeOk w0 b (.slice A ns.length c) g (rd_T60 ns k) (kid k))
    (bs : List UInt8) (W : World) (hp : PS w0 b (.slice A ns.length c) g bs W) (hlen : bs.length + (kidsTxt kid sep.data.toList 0 l).length ≤ 140737488355328) :
    Calls Tryd.prog 107 #[.pointer (some ⟨b, 0, none⟩), .slice A8 l.length c8, .string sep] W fun e w' => e = .returned (.tuple #[]) ∧ PS w0 b (.slice A ns.length c) g (bs ++ kidsTxt kid sep.data.toList 0 l) w' ∧ Fr W w' := by
  have HR := Aside0.mk hr
  have HL := Aside0.mk hl
  have HIN := Aside0.mk hin
  have HKID := Aside0.mk hkid
  have HLEN := Aside0.mk hlen
  have HP0 := Aside0.mk hp
  have HJ8 := Aside0.mk (show l.length ≤ 9223372036854775807 from hl.2.1)
  clear hr hl hin hkid hlen hp
  go_enter Tryd.func107, Tryd.ntmps107
  go_wp2
  go_loopg [10] l.length (fun k v10 wr => ∃ (i : Nat) (acc : List UInt8), v10 = .int .i64 (i : Int) ∧ i + k = l.length ∧ Aside0 (PS w0 b (.slice A ns.length c) g (bs ++ acc) wr) ∧ Aside0 (Fr W wr) ∧ Aside0 (acc ++ kidsTxt kid sep.data.toList i (l.drop i) = kidsTxt kid sep.data.toList 0 l))
  case atStart => exact ⟨0, [], rfl, by omega, ⟨by rw [List.append_nil]; exact HP0.out⟩, ⟨Fr.refl _⟩, ⟨rfl⟩⟩
  case round =>
    obtain ⟨i, acc, rfl, hik, HP, HF, HA⟩ := hrel
    by_cases hi : i < l.length
    · obtain ⟨ad8, rfl, hcw⟩ := (Kd.reads_of_C (enc := Value.int .i64) (d := (0 : Int)) (h1 := fun _ => rfl) (Kd.C_below HL.out HP.out.b)).2.2 (by omega)
      have hcell := hcw i hi
      clear hcw
      have hlti : decide ((i : Int) < (l.length : Int)) = true := decide_eq_true (by omega)
      have pi0 : (0 ≤ (i : Int)) = True := eq_true (by omega)
      have pi1 : ((i : Int) < (l.length : Int)) = True := eq_true (by omega)
      have HXT := Aside0.mk (kidsTxt_next kid sep.data.toList l i hi)
      have hmem : l.getD i 0 ∈ l := by
        rw [List.getD_eq_getElem?_getD, List.getElem?_eq_getElem hi]
        exact List.getElem_mem hi
      have hr1 := HIN.out _ hmem
      have HN1 := Aside0.mk (HKID.out _ hmem)
      obtain ⟨kn, hkn⟩ := Int.eq_ofNat_of_zero_le hr1.1
      rw [hkn] at hcell HXT hr1 HN1
      obtain ⟨ad, A3, c3, A4, c4, A8', c8', rfl, x0, x1, x2, x3, x4, x5, x6, x7, x8, l3, i3, l4, i4, l8, i8⟩ := at_T60 HR.out (kn : Int) hr1.1 hr1.2
      have HCS := Aside0.mk (k60_mk w0 (rd_T60 ns kn) l3 i3 l4 i4 l8 i8)
      have HHX := Aside0.mk (And.intro x0 (And.intro x1 (And.intro x2 (And.intro x3 (And.intro x4 (And.intro x5 (And.intro x6 (And.intro x7 x8))))))))
      clear x0 x1 x2 x3 x4 x5 x6 x7 x8 l3 i3 l4 i4 l8 i8 hmem hkn
      have q0 : (0 ≤ (kn : Int)) = True := eq_true (by omega)
      have q1n : (kn < ns.length) = True := eq_true (by omega)
      have q1 : ((kn : Int) < (ns.length : Int)) = True := eq_true (by omega)
      have HLB := Aside0.mk (show (bs ++ acc).length + ((if 0 < i then sep.data.toList else []) ++ kid kn).length ≤ 140737488355328 by
        have h1 := HLEN.out
        rw [← HA.out, HXT.out] at h1
        simp only [List.length_append] at h1 ⊢
        omega)
      clear hr1
      obtain ⟨k', rfl⟩ : ∃ k', gk = k' + 1 := ⟨gk - 1, by omega⟩
      by_cases hz : 0 < i
      · have dz : decide ((0 : Int) < (i : Int)) = true := decide_eq_true (by omega)
        have dz2 : decide ((i : Int) > 0) = true := decide_eq_true (by omega)
        have dz3 : (0 < i) = True := eq_true hz
        have HZ := Aside0.mk hz
        clear hz
        go_wp2_with (first | (go_at_call 60; refine (HP.out.string sep (by have := HLB.out; rw [if_pos HZ.out] at this; simp only [List.length_append] at this ⊢; simpa using (show bs.length + acc.length + sep.data.toList.length ≤ 140737488355328 by omega))).mono ?_; rintro e w1 ⟨rfl, hp1, hf1⟩; have HF1 := Aside0.mk (HF.out.trans hf1); clear hf1; have t2 := hp1.p.tree; have x0 := (hp1.b.cell (World.block_lt_of_cell? w0 _ HHX.out.1)).trans HHX.out.1; have x1 := (hp1.b.cell (World.block_lt_of_cell? w0 _ HHX.out.2.1)).trans HHX.out.2.1; have x2 := (hp1.b.cell (World.block_lt_of_cell? w0 _ HHX.out.2.2.1)).trans HHX.out.2.2.1; have x3 := (hp1.b.cell (World.block_lt_of_cell? w0 _ HHX.out.2.2.2.1)).trans HHX.out.2.2.2.1; have x4 := (hp1.b.cell (World.block_lt_of_cell? w0 _ HHX.out.2.2.2.2.1)).trans HHX.out.2.2.2.2.1; have x5 := (hp1.b.cell (World.block_lt_of_cell? w0 _ HHX.out.2.2.2.2.2.1)).trans HHX.out.2.2.2.2.2.1; have x6 := (hp1.b.cell (World.block_lt_of_cell? w0 _ HHX.out.2.2.2.2.2.2.1)).trans HHX.out.2.2.2.2.2.2.1; have x7 := (hp1.b.cell (World.block_lt_of_cell? w0 _ HHX.out.2.2.2.2.2.2.2.1)).trans HHX.out.2.2.2.2.2.2.2.1; have x8 := (hp1.b.cell (World.block_lt_of_cell? w0 _ HHX.out.2.2.2.2.2.2.2.2)).trans HHX.out.2.2.2.2.2.2.2.2; simp only [Int.toNat_natCast] at x0 x1 x2 x3 x4 x5 x6 x7 x8; have HP1 := Aside0.mk hp1; clear hp1) | (go_at_call 90; refine (HN1.out (bs ++ acc ++ sep.data.toList) _ _ HP1.out HCS.out (by have := HLB.out; rw [if_pos HZ.out] at this; simp only [List.length_append] at this ⊢; omega)).mono ?_; rintro e w2 ⟨rfl, hp2, hf2⟩; have HF2 := Aside0.mk (HF1.out.trans hf2); have HP2 := Aside0.mk hp2; clear hp2 hf2))
        go_roundg k'
        case measure => omega
        case rel =>
          refine ⟨i + 1, acc ++ sep.data.toList ++ kid kn, by rw [w64' _ (by omega) (by have := HJ8.out; omega)]; simp, by omega, ⟨by simpa [List.append_assoc] using HP2.out⟩, ⟨HF2.out⟩, ⟨?_⟩⟩
          rw [← HA.out, HXT.out, if_pos HZ.out]
          simp [List.append_assoc]
      · have dz : decide ((0 : Int) < (i : Int)) = false := decide_eq_false (by omega)
        have dz2 : decide ((i : Int) > 0) = false := decide_eq_false (by omega)
        have dz3 : (0 < i) = False := eq_false hz
        have HZ := Aside0.mk hz
        clear hz
        have t2 := HP.out.p.tree
        have x0 := (HP.out.b.cell (World.block_lt_of_cell? w0 _ HHX.out.1)).trans HHX.out.1
        have x1 := (HP.out.b.cell (World.block_lt_of_cell? w0 _ HHX.out.2.1)).trans HHX.out.2.1
        have x2 := (HP.out.b.cell (World.block_lt_of_cell? w0 _ HHX.out.2.2.1)).trans HHX.out.2.2.1
        have x3 := (HP.out.b.cell (World.block_lt_of_cell? w0 _ HHX.out.2.2.2.1)).trans HHX.out.2.2.2.1
        have x4 := (HP.out.b.cell (World.block_lt_of_cell? w0 _ HHX.out.2.2.2.2.1)).trans HHX.out.2.2.2.2.1
        have x5 := (HP.out.b.cell (World.block_lt_of_cell? w0 _ HHX.out.2.2.2.2.2.1)).trans HHX.out.2.2.2.2.2.1
        have x6 := (HP.out.b.cell (World.block_lt_of_cell? w0 _ HHX.out.2.2.2.2.2.2.1)).trans HHX.out.2.2.2.2.2.2.1
        have x7 := (HP.out.b.cell (World.block_lt_of_cell? w0 _ HHX.out.2.2.2.2.2.2.2.1)).trans HHX.out.2.2.2.2.2.2.2.1
        have x8 := (HP.out.b.cell (World.block_lt_of_cell? w0 _ HHX.out.2.2.2.2.2.2.2.2)).trans HHX.out.2.2.2.2.2.2.2.2
        simp only [Int.toNat_natCast] at x0 x1 x2 x3 x4 x5 x6 x7 x8
        go_wp2_with (go_at_call 90; refine (HN1.out (bs ++ acc) _ _ HP.out HCS.out (by have := HLB.out; rw [if_neg HZ.out] at this; simp only [List.length_append, List.nil_append] at this ⊢; omega)).mono ?_; rintro e w2 ⟨rfl, hp2, hf2⟩; have HF2 := Aside0.mk (HF.out.trans hf2); have HP2 := Aside0.mk hp2; clear hp2 hf2)
        go_roundg k'
        case measure => omega
        case rel =>
          refine ⟨i + 1, acc ++ kid kn, by rw [w64' _ (by omega) (by have := HJ8.out; omega)]; simp, by omega, ⟨by simpa [List.append_assoc] using HP2.out⟩, ⟨HF2.out⟩, ⟨?_⟩⟩
          rw [← HA.out, HXT.out, if_neg HZ.out]
          simp [List.append_assoc]
    · have hlti : decide ((i : Int) < (l.length : Int)) = false := decide_eq_false (by omega)
      have HE := Aside0.mk (show acc = kidsTxt kid sep.data.toList 0 l by
        have := HA.out
        rw [List.drop_eq_nil_of_le (by omega), kidsTxt, List.append_nil] at this
        exact this)
      go_wp2
      go_end0
      rw [← HE.out]
      exact ⟨rfl, HP.out, HF.out⟩
end Go.Proofs.YtcppmghhijffpaaDoorW.PrintMore
