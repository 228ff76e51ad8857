import Derived.Test.YtcppmghhijffpaaDoorNum
import Derived.Lib.RuneCountTail
import Derived.Lib.OthersKept
import Derived.Lib.Walk
import Derived.Laws.RangeString
import Derived.LoopTactic
import Derived.Laws.Strings
import Derived.Deep.OwnRows
import Derived.Deep.AppendLies
import Derived.Deep.QuietTactic
/-! redactor/cell.Of: a text's cells. -/
namespace Go.Proofs.YtcppmghhijffpaaDoorW.PrintMore
open Go.RowKit Go.Proofs.YtcppmghhijffpaaDoorW.PrintWords Go.Proofs.YtcppmghhijffpaaDoorW.PrintLast
theorem info24_of : (Tryd.prog.info? 24).map (fun i => (i.zero, i.size, i.bytes)) = some (some (.int .i32 0), 1, 4) := by kernel_rfl
/-- The cell that stands at a place of a text. -/
def cellAt (s : ByteArray) (pos : Nat) : Int := if (Utf8.decode s pos).1 = 65533 then (if (Utf8.decode s pos).2 = 1 then Go.bits .xor .i32 (-1) (wrap32 (bt s pos)) else 65533) else ((Utf8.decode s pos).1 : Int)
def ofFrom (s : ByteArray) : Nat → Nat → List Int
  | 0, _ => []
  | f + 1, pos => if pos < s.size then cellAt s pos :: ofFrom s f (pos + (Utf8.decode s pos).2) else []
def ofAll (s : ByteArray) : List Int := ofFrom s s.size 0
theorem width_pos (s : ByteArray) (pos : Nat) (h : pos < s.size) : 1 ≤ (Utf8.decode s pos).2 := by
  by_cases ha : (s[pos]'h).toNat < 128
  · rw [decode_ascii s pos h ha]
    exact Nat.le_refl _
  · exact (decode_high s pos h (by omega)).2
theorem ofFrom_end (s : ByteArray) (fuel pos : Nat) (h : ¬ pos < s.size) : ofFrom s fuel pos = [] := by
  cases fuel with
  | zero => rfl
  | succ f => simp [ofFrom, h]
theorem decodeGo_cut (s : ByteArray) (pos : Nat) (h : pos < s.size) : Lib.decodeGo (s.extract pos s.size) = Utf8.decode s pos := by
  unfold Lib.decodeGo
  rw [if_neg (by rw [Lib.tail_size]; omega), Lib.tail_decode, Nat.add_zero]
theorem escape_walk (b : Int) (w : World) : Calls Tryd.prog 37 #[.int .u8 b] w fun e w' => e = .returned (.int .i32 (Go.bits .xor .i32 (-1) (wrap32 b))) ∧ w = w' := by
  go_enter Tryd.func37, Tryd.ntmps37
  go_wp2
  go_ret
  exact ⟨by first | rfl | (simp; done), rfl⟩
set_option maxHeartbeats 8000000 in
set_option maxRecDepth 1000000 in
theorem of_walk (s : ByteArray) (hs : s.size < 35184372088832) (w : World) (ht : Tabs2 w) :
    Calls Tryd.prog 31 #[.string s] w fun e w' => ∃ v0_ : Value, e = .returned v0_ ∧ Kd.R (Kd.int .i32) 24 w' w.heap.size (fun _ => True) v0_ (ofAll s) ∧ Below w.heap.size w w' := by
  have HT := Aside0.mk ht
  clear ht
  go_enter Tryd.func31, Tryd.ntmps31
  go_wp2
  go_loopw [3] (fun u3 wr => ∃ (pos fuel : Nat) (acc : List Int), Aside0 (Kd.R (Kd.int .i32) 24 wr w.heap.size (fun k => k ≠ w.heap.size) u3 acc) ∧ Aside0 (wr.heap[w.heap.size]? = some (.stringIter s pos)) ∧ Aside0 (Below w.heap.size w wr) ∧ Aside0 (acc ++ ofFrom s fuel pos = ofAll s) ∧ Aside0 (s.size ≤ pos + fuel) ∧ Aside0 (acc.length ≤ pos)) (fun _ wr => s.size - wr.iterPos w.heap.size)
  case atStart => exact ⟨0, s.size, [], ⟨Kd.R_nil _ _ _ _ _⟩, ⟨World.iter_heap w s 0⟩, ⟨(Below.refl _ _).alloc (Nat.le_refl _) _⟩, ⟨rfl⟩, ⟨by omega⟩, ⟨by simp⟩⟩
  case round =>
    obtain ⟨pos, fuel, acc, HR, HI, HB, HA, HF, HL⟩ := hrel
    have hsz : w.heap.size < wr.heap.size := (Array.getElem?_eq_some_iff.1 HI.out).1
    by_cases hp : pos < s.size
    · have hnx : ∀ ty, (Instr.next (.pointer (some ⟨w.heap.size, 0, none⟩)) true ty).run Tryd.prog wr = _ := fun ty => Lib.run_next_any_at wr w.heap.size s pos ty HI.out hp
      have HW := Aside0.mk (width_pos s pos hp)
      have HR2 := Aside0.mk (Kd.R_step HR.out (w1 := wr.iterAt w.heap.size s (pos + (Utf8.decode s pos).2)) (fun k hk _ => Lib.iterAt_other wr w.heap.size k s _ hk))
      have HI2 := Aside0.mk (Lib.iterAt_heap wr w.heap.size s pos (pos + (Utf8.decode s pos).2) HI.out)
      have HB2 := Aside0.mk (Lib.below_iterAt HB.out (k := w.heap.size) (Nat.le_refl _) s (pos + (Utf8.decode s pos).2))
      have HMU := Aside0.mk (show wr.iterPos w.heap.size = pos by simp [World.iterPos, HI.out])
      clear HR HI HB
      generalize wr.iterAt w.heap.size s (pos + (Utf8.decode s pos).2) = W1 at hnx HR2 HI2 HB2
      obtain ⟨f, rfl⟩ : ∃ f, fuel = f + 1 := ⟨fuel - 1, by have := HF.out; omega⟩
      have HS := Aside0.mk (show ofFrom s (f + 1) pos = cellAt s pos :: ofFrom s f (pos + (Utf8.decode s pos).2) by simp [ofFrom, hp])
      have HD := Aside0.mk (decodeGo_cut s pos hp)
      have HSZ := Aside0.mk (show w.heap.size < W1.heap.size from (Array.getElem?_eq_some_iff.1 HI2.out).1)
      have ebt : bt s (pos : Int) = ((s[pos]'hp).toNat : Int) := (bt_at s (pos : Int) (by simpa using hp)).symm
      by_cases hr : (Utf8.decode s pos).1 = 65533
      · rw [hr] at hnx
        by_cases hn : (Utf8.decode s pos).2 = 1
        · have hcell : cellAt s pos = Go.bits .xor .i32 (-1) (wrap32 ((s[pos]'hp).toNat : Int)) := by
            unfold cellAt
            rw [if_pos hr, if_pos hn, ebt]
          go_wp2_with (first | (go_at_call 64; refine (Tryd.utf8_DecodeRuneInString _ _ (HT.out.below HB2.out).2).mono ?_; rintro e w2 ⟨rfl, hb2⟩; have HR3 := Aside0.mk (Kd.R_below HR2.out hb2); have HB3 := Aside0.mk (below_step HB2.out hb2); have HI3 := Aside0.mk ((hb2.block _ HSZ.out).trans HI2.out); have HSZ2 := Aside0.mk (Nat.lt_of_lt_of_le HSZ.out hb2.size); clear hb2 HR2 HB2 HI2 HSZ; have HR2 := HR3; have HB2 := HB3; have HI2 := HI3; have HSZ := HSZ2; clear HR3 HB3 HI3 HSZ2; rw [HD.out, hr]; (try rw [hn])) | (go_at_call 37; refine (escape_walk _ _).mono ?_; rintro e w2 ⟨rfl, rfl⟩) | (at_builtin; refine Kd.R_append (Kd.int .i32) (w0 := w) w.heap.size rfl (.tmp 31) (.tmp 33) 23 24 (.int .i32 0) 4 rfl Tryd.underlying23 info24_of rfl (by decide) (by omega) u3 acc (Go.bits .xor .i32 (-1) (wrap32 ((s[pos]'hp).toNat : Int))) [.int .i32 (Go.bits .xor .i32 (-1) (wrap32 ((s[pos]'hp).toNat : Int)))] (fun k => k ≠ w.heap.size) (fun _ => False) rfl rfl rfl (fun _ hk => hk.elim) (fun k hk => by have := HSZ.out; omega) HR2.out HB2.out (by have := HSZ.out; omega) (by have := HL.out; omega) ?_; intro v1 w1 ho hb hg hat; rw [← hcell] at ho))
          go_roundw
          case rel =>
            refine ⟨pos + (Utf8.decode s pos).2, f, acc ++ [cellAt s pos], ⟨ho⟩, ⟨?_⟩, ⟨hb⟩, ⟨?_⟩, ⟨?_⟩, ⟨?_⟩⟩
            · rw [hg.block _ HSZ.out (fun e => HR2.out.1 _ e.symm rfl)]
              exact HI2.out
            · rw [← HA.out, HS.out]
              simp
            · have := HF.out
              have := HW.out
              omega
            · have := HL.out
              have := HW.out
              simp
              omega
          case measure =>
            have e1 : w1.iterPos w.heap.size = pos + (Utf8.decode s pos).2 := by
              unfold World.iterPos
              rw [hg.block _ HSZ.out (fun e => HR2.out.1 _ e.symm rfl), HI2.out]
            rw [e1, HMU.out]
            have := HW.out
            omega
        · have hcell : cellAt s pos = 65533 := by
            unfold cellAt
            rw [if_pos hr, if_neg hn]
          have q1 : (((Utf8.decode s pos).2 : Int) == 1) = false := beq_eq_false_iff_ne.mpr (by omega)
          have q2 : decide (((Utf8.decode s pos).2 : Int) = 1) = false := decide_eq_false (by omega)
          go_wp2_with (first | (go_at_call 64; refine (Tryd.utf8_DecodeRuneInString _ _ (HT.out.below HB2.out).2).mono ?_; rintro e w2 ⟨rfl, hb2⟩; have HR3 := Aside0.mk (Kd.R_below HR2.out hb2); have HB3 := Aside0.mk (below_step HB2.out hb2); have HI3 := Aside0.mk ((hb2.block _ HSZ.out).trans HI2.out); have HSZ2 := Aside0.mk (Nat.lt_of_lt_of_le HSZ.out hb2.size); clear hb2 HR2 HB2 HI2 HSZ; have HR2 := HR3; have HB2 := HB3; have HI2 := HI3; have HSZ := HSZ2; clear HR3 HB3 HI3 HSZ2; rw [HD.out, hr]; (try rw [hn])) | (at_builtin; refine Kd.R_append (Kd.int .i32) (w0 := w) w.heap.size rfl (.tmp 31) (.tmp 33) 23 24 (.int .i32 0) 4 rfl Tryd.underlying23 info24_of rfl (by decide) (by omega) u3 acc 65533 [.int .i32 65533] (fun k => k ≠ w.heap.size) (fun _ => False) rfl rfl rfl (fun _ hk => hk.elim) (fun k hk => by have := HSZ.out; omega) HR2.out HB2.out (by have := HSZ.out; omega) (by have := HL.out; omega) ?_; intro v1 w1 ho hb hg hat; rw [← hcell] at ho))
          go_roundw
          case rel =>
            refine ⟨pos + (Utf8.decode s pos).2, f, acc ++ [cellAt s pos], ⟨ho⟩, ⟨?_⟩, ⟨hb⟩, ⟨?_⟩, ⟨?_⟩, ⟨?_⟩⟩
            · rw [hg.block _ HSZ.out (fun e => HR2.out.1 _ e.symm rfl)]
              exact HI2.out
            · rw [← HA.out, HS.out]
              simp
            · have := HF.out
              have := HW.out
              omega
            · have := HL.out
              have := HW.out
              simp
              omega
          case measure =>
            have e1 : w1.iterPos w.heap.size = pos + (Utf8.decode s pos).2 := by
              unfold World.iterPos
              rw [hg.block _ HSZ.out (fun e => HR2.out.1 _ e.symm rfl), HI2.out]
            rw [e1, HMU.out]
            have := HW.out
            omega
      · have hcell : cellAt s pos = ((Utf8.decode s pos).1 : Int) := by
          unfold cellAt
          rw [if_neg hr]
        have q1 : (((Utf8.decode s pos).1 : Int) == 65533) = false := beq_eq_false_iff_ne.mpr (by omega)
        have q2 : decide (((Utf8.decode s pos).1 : Int) = 65533) = false := decide_eq_false (by omega)
        go_wp2_with (first | (at_builtin; refine Kd.R_append (Kd.int .i32) (w0 := w) w.heap.size rfl (.tmp 31) (.tmp 33) 23 24 (.int .i32 0) 4 rfl Tryd.underlying23 info24_of rfl (by decide) (by omega) u3 acc ((Utf8.decode s pos).1 : Int) [.int .i32 ((Utf8.decode s pos).1 : Int)] (fun k => k ≠ w.heap.size) (fun _ => False) rfl rfl rfl (fun _ hk => hk.elim) (fun k hk => by have := HSZ.out; omega) HR2.out HB2.out (by have := HSZ.out; omega) (by have := HL.out; omega) ?_; intro v1 w1 ho hb hg hat; rw [← hcell] at ho))
        go_roundw
        case rel =>
          refine ⟨pos + (Utf8.decode s pos).2, f, acc ++ [cellAt s pos], ⟨ho⟩, ⟨?_⟩, ⟨hb⟩, ⟨?_⟩, ⟨?_⟩, ⟨?_⟩⟩
          · rw [hg.block _ HSZ.out (fun e => HR2.out.1 _ e.symm rfl)]
            exact HI2.out
          · rw [← HA.out, HS.out]
            simp
          · have := HF.out
            have := HW.out
            omega
          · have := HL.out
            have := HW.out
            simp
            omega
        case measure =>
          have e1 : w1.iterPos w.heap.size = pos + (Utf8.decode s pos).2 := by
            unfold World.iterPos
            rw [hg.block _ HSZ.out (fun e => HR2.out.1 _ e.symm rfl), HI2.out]
          rw [e1, HMU.out]
          have := HW.out
          omega
    · have hnx : ∀ ty, (Instr.next (.pointer (some ⟨w.heap.size, 0, none⟩)) true ty).run Tryd.prog wr = _ := fun ty => Lib.run_next_end_at wr w.heap.size s pos ty HI.out hp
      go_wp2
      go_ret
      have hA := HA.out
      rw [ofFrom_end s fuel pos hp, List.append_nil] at hA
      subst hA
      exact ⟨_, rfl, Kd.R_mono HR.out (fun _ _ => trivial), HB.out⟩
end Go.Proofs.YtcppmghhijffpaaDoorW.PrintMore
