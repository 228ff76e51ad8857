import Derived.Test.YtfjbobabifmpmaaEv
import Derived.Test.YtfjbobabifmpmaaUtfPl
import Derived.Test.YtfjbobabifmpmaaX1
/-! What the statements' own Bytes comes to: few bytes. -/
namespace Go.Proofs.Ytfjbobabifmpmaa.Tie
open Go.RowKit Go.Proofs.Ytfjbobabifmpmaa.X Go.Proofs.YtfjbobabifmpmaaW.PrintWords Go.Proofs.Ytfjbobabifmpmaa.Pl

instance (a : Int) : Decidable (isByte a) := inferInstanceAs (Decidable (_ ∧ _))
theorem bytes_ev0 (l : List Int) (hl : ∀ x ∈ l, isByte x) : ∀ (n i : Nat) (acc : List Int), 61 - i ≤ n → i ≤ 60 → i ≤ l.length → acc.length = i → (∀ a ∈ acc, isByte a) →
    ∃ r, Ev (fun k => redactorlaw03_Bytes.l0 k l ([0, 65, 215, 216, 219, 220, 223, 224, 255, 254, 61, 10] : List Int) acc (i : Int)) r ∧ (∀ a ∈ r, isByte a) ∧ r.length ≤ 60 := by
  intro n
  induction n with
  | zero => intro i acc h1 h2; omega
  | succ n ih =>
    intro i acc hn hi hil ha hb
    by_cases h : i < l.length ∧ i < 60
    · have hx := hl l[i] (List.getElem_mem h.1)
      unfold isByte at hx
      have hin : ∀ j : Nat, j < 12 → isByte (rd ([0, 65, 215, 216, 219, 220, 223, 224, 255, 254, 61, 10] : List Int) (j : Int)) := by decide
      obtain ⟨j, hj⟩ := Int.eq_ofNat_of_zero_le (show 0 ≤ Int.tmod (wrap64 (rd l (i : Int))) 12 by
        rw [rd_at l i h.1, w64 (by omega) (by omega), Int.tmod_eq_emod_of_nonneg hx.1]
        omega)
      have hj' : j < 12 := by
        have : Int.tmod (wrap64 (rd l (i : Int))) 12 < 12 := by
          rw [rd_at l i h.1, w64 (by omega) (by omega), Int.tmod_eq_emod_of_nonneg hx.1]
          omega
        omega
      obtain ⟨r, h1, h2, h3⟩ := ih (i + 1) (acc ++ [rd ([0, 65, 215, 216, 219, 220, 223, 224, 255, 254, 61, 10] : List Int) (j : Int)]) (by omega) (by omega) (by omega) (by simp; omega) (by
        intro a hm
        rcases List.mem_append.1 hm with hm | hm
        · exact hb a hm
        · simp only [List.mem_singleton] at hm
          subst hm
          exact hin j hj')
      refine ⟨r, ?_, h2, h3⟩
      refine Ev_succ ?_
      simp only [redactorlaw03_Bytes.l0]
      refine Ev_yes (by omega) (Ev_yes (by omega) (Ev_yes (by omega) (Ev_no (by simp) ?_)))
      rw [show ((([0, 65, 215, 216, 219, 220, 223, 224, 255, 254, 61, 10] : List Int).length : Nat) : Int) = 12 from rfl, hj]
      refine Ev_yes (by omega) (Ev_yes (by omega) (Ev_yes (by omega) ?_))
      rw [w64 (by omega) (by omega)]
      exact h1
    · refine ⟨acc, ?_, hb, by omega⟩
      refine Ev_succ ?_
      simp only [redactorlaw03_Bytes.l0]
      by_cases h' : i < l.length
      · exact Ev_yes (by omega) (Ev_no (by omega) (Ev_done rfl))
      · exact Ev_no (by omega) (Ev_done rfl)
theorem bytes_ev (l : List Int) (hl : ∀ x ∈ l, isByte x) : ∃ r, Ev (fun k => redactorlaw03_Bytes.f k l) r ∧ (∀ a ∈ r, isByte a) ∧ r.length ≤ 60 := by
  unfold redactorlaw03_Bytes.f
  exact bytes_ev0 l hl 61 0 [] (by omega) (by omega) (by omega) rfl (by simp)
/-- A byte's range, as the statement tells it. -/
theorem byte_of {x : Int} (h : (Lit.int .u8 x).wf = true) : isByte x := by
  simp [Lit.wf] at h
  have e1 : IntKind.u8.min = 0 := rfl
  have e2 : IntKind.u8.max = 255 := rfl
  unfold isByte
  omega
end Go.Proofs.Ytfjbobabifmpmaa.Tie
