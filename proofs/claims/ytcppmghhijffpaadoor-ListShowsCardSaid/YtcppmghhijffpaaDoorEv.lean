import Derived.Test.YtcppmghhijffpaaDoorWWords
import Derived.Laws.BitsLemmas
/-! Words for what comes to an answer from some number of rounds on; small facts on wraps and reads. -/
namespace Go.Proofs.YtcppmghhijffpaaDoor.Tie
open Go.RowKit Go.Proofs.YtcppmghhijffpaaDoorW.PrintWords

theorem Ev_succ {α : Type} {g : Nat → Option α} {r : α} (h : Ev (fun k => g (k + 1)) r) : Ev g r := by
  obtain ⟨K, h⟩ := h
  refine ⟨K + 1, fun n hn => ?_⟩
  obtain ⟨m, rfl⟩ : ∃ m, n = m + 1 := ⟨n - 1, by omega⟩
  exact h m (by omega)
theorem Ev_yes {α : Type} {c : Prop} [Decidable c] {g f : Nat → Option α} {r : α} (hc : c) (h : Ev g r) : Ev (fun k => if c then g k else f k) r := by
  simp only [if_pos hc]
  exact h
theorem Ev_no {α : Type} {c : Prop} [Decidable c] {g f : Nat → Option α} {r : α} (hc : ¬ c) (h : Ev f r) : Ev (fun k => if c then g k else f k) r := by
  simp only [if_neg hc]
  exact h
/-- A part that has no rounds of its own. -/
theorem Ev_let {α β : Type} {x : Option α} {a : α} {f : Nat → α → Option β} {r : β} (hx : x = some a) (h : Ev (fun n => f n a) r) : Ev (fun n => x.bind (f n)) r := by
  subst hx
  exact h
theorem Ev_done {α : Type} {a r : α} (h : a = r) : Ev (fun _ => some a) r := by
  subst h
  exact Ev.now _

theorem w64 {n : Int} (h0 : -9223372036854775808 ≤ n) (h1 : n < 9223372036854775808) : wrap64 n = n := by
  unfold wrap64
  omega
theorem w32 {n : Int} (h0 : -2147483648 ≤ n) (h1 : n < 2147483648) : wrap32 n = n := by
  unfold wrap32
  omega
theorem rd_zero (a : Int) (l : List Int) : rd (a :: l) 0 = a := rfl
theorem rd_one (a b : Int) (l : List Int) : rd (a :: b :: l) 1 = b := rfl
theorem rd_at (l : List Int) (i : Nat) (h : i < l.length) : rd l (i : Int) = l[i] := by
  unfold rd
  simp [List.getD_eq_getElem?_getD, List.getElem?_eq_getElem h]
theorem rd_mid (p : List Int) (c : Int) (s : List Int) : rd (p ++ c :: s) (p.length : Int) = c := by
  unfold rd
  simp [List.getD_eq_getElem?_getD]
theorem xor_all (x : Int) (h0 : -2147483648 ≤ x) (h1 : x < 2147483648) : Go.bits .xor .i32 (-1) x = -1 - x := by
  have e : BitVec.ofInt 32 (-1) = BitVec.allOnes 32 := by decide
  show IntKind.i32.wrap ((BitVec.ofInt 32 (-1) ^^^ BitVec.ofInt 32 x).toNat : Int) = _
  rw [e, BitVec.allOnes_xor, BitVec.toNat_not, BitVec.toNat_ofInt, IntKind.wrap_i32]
  omega
theorem and_1023 (x : Int) (h0 : 0 ≤ x) (h1 : x < 2147483648) : Go.bits .and .i32 x 1023 = x % 1024 :=
  bits_mask .i32 31 (by decide) wraps_i32 10 (by decide) x h0 h1
theorem or_8 (a b : Int) (h0 : 0 ≤ a) (h1 : a < 256) (h2 : 0 ≤ b) (h3 : b < 256) : Go.bits .or .i32 (a * 256) b = a * 256 + b :=
  bits_join .i32 31 (by decide) wraps_i32 8 (a * 256) b (by omega) (by omega) (by omega) h2 (by omega) (by omega)
end Go.Proofs.YtcppmghhijffpaaDoor.Tie
