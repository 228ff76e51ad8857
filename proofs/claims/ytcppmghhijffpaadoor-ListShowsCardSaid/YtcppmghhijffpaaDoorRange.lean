import Derived.RangeFuncFrom
import Derived.RangeFuncBox
import Derived.Test.YtcppmghhijffpaaDoorWWords
import Derived.WalkKit
/-! A range over a function that hands over rows of numbers in new memory: the body is told what the row holds. -/
namespace Go.Proofs.YtcppmghhijffpaaDoor.Range
open Go.RowKit Go.Proofs.YtcppmghhijffpaaDoorW.PrintWords
/-- A word on what has come and on the blocks below a bound. -/
structure Firm (J : List (List Int) → Nat → World → Prop) : Prop where
  below : ∀ pre b A B, J pre b A → Below b A B → J pre b B
  up : ∀ pre b b' A, J pre b A → b ≤ b' → J pre b' A
/-- The iterator hands over these rows, in order, each in memory that is new. -/
def RowsSeq (P : Program) (F : Fence) (n gf : Nat) (lb : Array Value) (e n₀ : Nat) (ss : List (List Int)) (w : World) : Prop :=
  ∀ (l : Nat) (J : List (List Int) → Nat → World → Prop) (W : World), Below w.heap.size w W → Firm J →
    (∀ pre v x b W1, J pre b W1 → b ≤ W1.heap.size → Kd.R (Kd.int .i32) e W1 b (fun _ => True) v x → pre ++ [x] <+: ss →
      YieldAt F (n - 1) P l #[v] W1 fun e' W' => e' = .returned (.bool true) ∧ J (pre ++ [x]) W'.heap.size W' ∧ Below n₀ W1 W') →
    J [] W.heap.size W →
    CallsIn F n P gf (#[.func (.yield l) #[] #[]] ++ lb) W fun e' W' => (∃ v, e' = .returned v) ∧ J ss W'.heap.size W'
/-- A body's round that goes on. -/
def onPost (n₀ : Nat) (I : List (List Int) → Nat → World → Prop) (xs : List (List Int)) (W : World) : Exit → Act → World → Prop
  | .normal, _, W' => KeepsOthers W W' ∧ Below n₀ W W' ∧ I xs W'.heap.size W'
  | _, _, _ => False
theorem size_putObj (W : World) (l : Nat) (o : Obj) : (W.putObj l o).heap.size = W.heap.size := Nat.le_antisymm (by simp [World.putObj]) (grownBy_putObj' W l o).size
theorem range_rows {P : Program} {F : Fence} {n : Nat} {g : Operand} {p : Tmp} {assign body : Code} {Q : Exit → Act → World → Prop} {a : Act} {w : World}
    (hro : F.round = none) (h1 : 1 ≤ n) {gf : Nat} {lb : Array Value} (hg : a.eval g = .func (.func gf) #[] lb) (hFg : F.fn gf) (eg : ∀ args w, (callFunc gf args).run P w = .ok (.enter gf args) w)
    {e n₀ : Nat} {ss : List (List Int)} (hn₀ : n₀ ≤ w.heap.size) (hseq : RowsSeq P F (n - 1) gf lb e n₀ ss w)
    (I : List (List Int) → Nat → World → Prop) (hI : Firm I)
    (hI2 : ∀ pre b W l o o', I pre b W → w.heap.size ≤ l → W.heap[l]? = some o → o.isCells = false → I pre b (W.putObj l o')) (h0 : I [] w.heap.size w) (a₁ : Value → Act)
    (hassign : ∀ (l : Nat) (v : Value) (W : World) (K : Act → World → Prop), K (a₁ v) W →
      assign.wpIn (F.inRound l) (n - 1 - 1) P (Exit.then K (fun _ _ _ => False)) { tmps := (#[p].zip #[v]).foldl (fun t (p, v) => t.setIfInBounds p v) a.tmps, defers := [] } W)
    (hbody : ∀ (l : Nat) (pre : List (List Int)) (v : Value) (x : List Int) (b : Nat) (W : World), I pre b W → b ≤ W.heap.size → Kd.R (Kd.int .i32) e W b (fun _ => True) v x → pre ++ [x] <+: ss →
      body.wpIn (F.inRound l) (n - 1 - 1) P (onPost n₀ I (pre ++ [x]) W) (a₁ v) W)
    (hdone : ∀ (D : Nat) (b : Nat) (W : World), w.heap.size ≤ D → I ss b W → W.heap[D]? = some (.deferred (some [])) → Q .normal { a with defers := { target := .collected D, args := #[] } :: a.defers } W) :
    (Code.rangeFunc g #[p] assign body).wpIn F n P Q a w := by
  refine wpIn_rangeFunc ?_
  intro fn hfn
  rw [hro]
  obtain ⟨rec, hrec⟩ : ∃ rec : LoopState → Option Code → Loop, rec = fun st pe => { state := st, pending := pe, fn, tmps := a.tmps, params := #[p], assign, body, defers := w.heap.size } := ⟨_, rfl⟩
  obtain ⟨W1, hW1⟩ : ∃ W1, (w.alloc (.deferred (some []))).alloc (.loop (rec .ready none)) = W1 := ⟨_, rfl⟩
  have hL1 : W1.heap[w.heap.size + 1]? = some (.loop (rec .ready none)) := by
    rw [← hW1]
    have := World.alloc_heap_new (w.alloc (.deferred (some []))) (.loop (rec .ready none))
    rwa [World.size_alloc] at this
  have hK1 : W1.heap[w.heap.size]? = some (.deferred (some [])) := by
    rw [← hW1]
    exact (Below.heap_alloc _ _ _ (by simp)).trans (World.alloc_heap_new w _)
  have hb1 : Below w.heap.size w W1 := by
    rw [← hW1]
    exact ((Below.refl _ w).alloc (Nat.le_refl _) _).alloc (by simp) _
  have hs1 : w.heap.size + 1 < W1.heap.size := (Array.getElem?_eq_some_iff.1 hL1).1
  have hI1 : I [] W1.heap.size W1 := hI.up _ _ _ _ (hI.below _ _ _ _ h0 hb1) (by omega)
  refine ⟨w.heap.size + 1, [{ target := .collected w.heap.size, args := #[] }], W1, { target := .fn (.func gf) lb, args := #[.func (.yield (w.heap.size + 1)) #[] #[]] }, W1, gf,
    #[.func (.yield (w.heap.size + 1)) #[] #[]] ++ lb, W1, ?_, ?_, ?_, ?_, fun _ => h1, ?_⟩
  · rw [← hW1, hrec]
    exact run_enterLoop_outer _ _ _ _ _
  · simp only [resolve, hg]
    simp [go_sem]
  · intro f' hf'
    simp [Target.leads] at hf'
    subst hf'
    exact hFg
  · simp [invoke, go_sem, eg]
  · refine (hseq (w.heap.size + 1)
      (fun pre b W => I pre b W ∧ W.heap[w.heap.size + 1]? = some (.loop (rec .ready none)) ∧ W.heap[w.heap.size]? = some (.deferred (some [])) ∧ w.heap.size + 1 < b)
      W1 hb1
      ⟨fun pre b A B hs hb => ⟨hI.below pre b A B hs.1 hb, (hb.block _ hs.2.2.2).trans hs.2.1, (hb.block _ (Nat.lt_of_succ_lt hs.2.2.2)).trans hs.2.2.1, hs.2.2.2⟩, fun pre b b' A hs hb => ⟨hI.up pre b b' A hs.1 hb, hs.2.1, hs.2.2.1, Nat.lt_of_lt_of_le hs.2.2.2 hb⟩⟩
      ?_ ⟨hI1, hL1, hK1, hs1⟩).mono ?_
    · rintro pre v x b W ⟨hi, hl, hk, hlb⟩ hbW hR hpre
      have hlt : w.heap.size + 1 < W.heap.size := (Array.getElem?_eq_some_iff.1 hl).1
      have hy := run_yield (P := P) (args := #[v]) hl (by rw [hrec]; rfl)
      rw [hrec] at hy
      refine ⟨fn, _, assign, body, hy, roundIn_of_wpIn hfn (hassign _ v W _ ⟨_, run_beginRound hl (by rw [hrec]), ?_⟩)⟩
      obtain ⟨W2, hW2⟩ : ∃ W2, W.putObj (w.heap.size + 1) (.loop { rec .ready none with state := .busy }) = W2 := ⟨_, rfl⟩
      have hl2 : W2.heap[w.heap.size + 1]? = some (.loop { rec .ready none with state := .busy }) := by
        rw [← hW2]
        exact World.putObj_heap_same hlt
      have hk2 : W2.heap[w.heap.size]? = some (.deferred (some [])) := by
        rw [← hW2]
        exact (World.putObj_heap_other (by omega)).trans hk
      have hw2 : Below n₀ W W2 := by
        rw [← hW2]
        exact belowK_b (w := w) hn₀ _ _ _ _ (Nat.le_succ _) hl rfl rfl
      have hz2 : W2.heap.size = W.heap.size := by
        rw [← hW2]
        exact size_putObj _ _ _
      have hi2 : I pre b W2 := by
        rw [← hW2]
        exact hI2 pre b W _ _ _ hi (Nat.le_succ _) hl rfl
      have hR2 : Kd.R (Kd.int .i32) e W2 b (fun _ => True) v x := by
        rw [← hW2]
        exact Kd.R_mono (Kd.R_move (Kd.R_bound hR) (fun k hk' => World.putObj_heap_other (by have := hk'.2.1; omega))) (fun _ _ => trivial)
      rw [hW2]
      refine wpIn_mono (hbody _ pre v x b W2 hi2 (by omega) hR2 hpre) ?_
      rintro ex a3 W3 hp
      cases ex with
      | normal =>
        obtain ⟨hk3, hkp3, hi3⟩ := hp
        have hl3 := hk3.same _ _ hl2 rfl
        have hr : (Instr.endRound (w.heap.size + 1) none).run P W3 = .ok (.bool true) (W3.putObj (w.heap.size + 1) (.loop (rec .ready none))) := by
          have := run_endRound (P := P) none hl3
          rw [hrec] at this ⊢
          exact this
        have hlt3 := (Array.getElem?_eq_some_iff.1 hl3).1
        refine ⟨_, _, hr, rfl, ⟨?_, ?_, ?_, ?_⟩, (hw2.trans hkp3).trans (belowK_b (w := w) hn₀ _ _ _ _ (Nat.le_succ _) hl3 rfl rfl)⟩
        · rw [size_putObj]
          exact hI2 _ _ _ _ _ _ hi3 (Nat.le_succ _) hl3 rfl
        · exact World.putObj_heap_same hlt3
        · exact (World.putObj_heap_other (by omega)).trans (hk3.same _ _ hk2 rfl)
        · rw [size_putObj]
          exact hlt3
      | ret => exact hp.elim
      | exit id => exact hp.elim
      | goto t => exact hp.elim
      | panic ch => exact hp.elim
      | outgrown => exact hp.elim
    · rintro ex W2 ⟨⟨v, rfl⟩, hi, hl, hk, _⟩
      refine ⟨none, _, by have := run_endLoop (P := P) hl (by rw [hrec]; simp); rw [hrec] at this; exact this, ?_⟩
      exact hdone _ W2.heap.size _ (Nat.le_refl _) (hI2 _ _ _ _ _ _ hi (Nat.le_succ _) hl rfl) ((World.putObj_heap_other (by omega)).trans hk)
end Go.Proofs.YtcppmghhijffpaaDoor.Range
