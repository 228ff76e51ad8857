/- utf16.Decode of any bytes, in either order, is what the reference's Decode tells; for every input of the statement's guards. -/
import Derived.Test.YtfjbobabifmpmaaUtfTie
import Derived.Test.YtfjbobabifmpmaaUtfTieB
import Derived.Test.YtfjbobabifmpmaaUtfTieS
import Derived.Test.YtfjbobabifmpmaaUtfTieR
import Derived.Test.YtfjbobabifmpmaaX11
namespace Go.Proofs.Ytfjbobabifmpmaa.Pure
open Go.RowKit Go.Proofs.Ytfjbobabifmpmaa.X Go.Proofs.YtfjbobabifmpmaaW.PrintWords Go.Proofs.Ytfjbobabifmpmaa.Pl Go.Proofs.Ytfjbobabifmpmaa.Tie

theorem Utf16Decodes : redactorlaw03_Utf16Decodes.Pure := by
  intro l0 l1 a2 _ _ h0 _ _ h1
  refine Ev.rounds ?_
  have b0 : ∀ a ∈ l0, isByte a := fun x hx => byte_of (h0 x hx)
  have b1 : ∀ a ∈ l1, isByte a := fun x hx => byte_of (h1 x hx)
  unfold redactorlaw03_Utf16Decodes.f
  by_cases hl : (l0.length : Int) > 300
  · refine Ev_yes hl (Ev_succ ?_)
    simp only [redactorlaw03_Utf16Decodes.j0]
    exact Ev_yes (by trivial) (Ev.bind known_ev (Ev_done rfl))
  · refine Ev_no hl (Ev.bind known_ev (Ev_succ ?_))
    simp only [redactorlaw03_Utf16Decodes.j0]
    obtain ⟨r, e1, e2, e3⟩ := bytes_ev l1 b1
    have n0 := (dec_back a2 l0.length l0 (Nat.le_refl _) b0).2.2
    have n1 := (dec_back a2 r.length r (Nat.le_refl _) e2).2.2
    refine Ev_no (by simp) (Ev.bind (dec_ev a2 l0 b0 (by omega)) (Ev.bind (ref_dec_ev a2 l0 b0 (by omega)) (Ev.bind (same_ev _ _ (by omega)) ?_)))
    rw [decide_eq_true rfl]
    refine Ev_yes rfl (Ev.bind e1 (Ev.bind (dec_ev a2 r e2 (by omega)) (Ev.bind e1 (Ev.bind (ref_dec_ev a2 r e2 (by omega)) (Ev.bind (same_ev _ _ (by omega)) (Ev_done ?_))))))
    exact decide_eq_true rfl

end Go.Proofs.Ytfjbobabifmpmaa.Pure
