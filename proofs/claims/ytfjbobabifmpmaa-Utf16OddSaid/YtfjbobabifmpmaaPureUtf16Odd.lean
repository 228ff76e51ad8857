/- A byte that is left over behind whole units is decoded by utf16.Decode as an escape, the last one; all ahead of it is as without it; for every input. -/
import Derived.Test.YtfjbobabifmpmaaUtfTie
import Derived.Test.YtfjbobabifmpmaaUtfTieB
import Derived.Test.YtfjbobabifmpmaaUtfTieS
import Derived.Test.YtfjbobabifmpmaaX6
import Derived.Test.YtfjbobabifmpmaaX7
namespace Go.Proofs.Ytfjbobabifmpmaa.Pure
open Go.RowKit Go.Proofs.Ytfjbobabifmpmaa.X Go.Proofs.YtfjbobabifmpmaaW.PrintWords Go.Proofs.Ytfjbobabifmpmaa.Pl Go.Proofs.Ytfjbobabifmpmaa.Tie

theorem Utf16Odd : redactorlaw03_Utf16Odd.Pure := by
  intro l0 a1 a2 _ _ h0 h1
  refine Ev.rounds ?_
  have b0 : ∀ a ∈ l0, isByte a := fun x hx => byte_of (h0 x hx)
  have b1 : isByte a1 := byte_of h1
  obtain ⟨t, e1, e2, e3⟩ := bytes_ev l0 b0
  unfold redactorlaw03_Utf16Odd.f
  refine Ev.bind e1 ?_
  have hw : wrap64 ((wrap64 ((t.length : Int) / 2)) * 2) = ((t.length / 2 * 2 : Nat) : Int) := by
    rw [w64 (n := (t.length : Int) / 2) (by omega) (by omega), w64 (by omega) (by omega)]
    omega
  rw [hw]
  refine Ev_yes (by omega) (Ev_yes (by omega) (Ev_let rfl ?_))
  rw [Int.toNat_natCast]
  have ht : (t.take (t.length / 2 * 2)).length = 2 * (t.length / 2) := by
    rw [List.length_take]
    omega
  have hy : ∀ a ∈ t.take (t.length / 2 * 2), isByte a := fun a ha => e2 a (List.mem_of_mem_take ha)
  generalize t.take (t.length / 2 * 2) = y at ht hy
  have hz : ∀ a ∈ y ++ [a1], isByte a := by
    intro a ha
    rcases List.mem_append.1 ha with ha | ha
    · exact hy a ha
    · simp only [List.mem_singleton] at ha
      subst ha
      exact b1
  refine Ev.bind (dec_ev a2 y hy (by omega)) (Ev_yes (by omega) (Ev.bind (dec_ev a2 (y ++ [a1]) hz (by simp; omega)) ?_))
  have hd := (dec_back a2 y.length y (Nat.le_refl _) hy).2.2
  rw [dec_odd a2 a1 _ y ht, w64 (by omega) (by omega)]
  generalize dec a2 y = d at hd
  refine Ev_yes (by simp) (Ev.bind known_ev (Ev_yes rfl (Ev_yes (by omega) (Ev_yes (by simp; omega) ?_))))
  rw [Int.toNat_natCast, List.take_left]
  refine Ev.bind (same_ev d d (by omega)) ?_
  rw [decide_eq_true rfl]
  refine Ev_yes rfl (Ev_yes (by simp; omega) (Ev_let rfl (Ev_done ?_)))
  unfold isByte at b1
  rw [rd_mid, w32 (n := a1) (by omega) (by omega), w32 (by omega) (by omega)]
  simp

end Go.Proofs.Ytfjbobabifmpmaa.Pure
