/- Whatever bytes there are, decoded by utf16.Decode and encoded by utf16.Encode in one order, they are as they were; for every input of the statement's guards. -/
import Derived.Test.YtfjbobabifmpmaaUtfTie
import Derived.Test.YtfjbobabifmpmaaUtfTieB
import Derived.Test.YtfjbobabifmpmaaX15
namespace Go.Proofs.Ytfjbobabifmpmaa.Pure
open Go.RowKit Go.Proofs.Ytfjbobabifmpmaa.X Go.Proofs.YtfjbobabifmpmaaW.PrintWords Go.Proofs.Ytfjbobabifmpmaa.Pl Go.Proofs.Ytfjbobabifmpmaa.Tie

theorem back_ev (big : Bool) (l : List Int) (hb : ∀ a ∈ l, isByte a) (hl : l.length < 1000) : Ev (fun k => utf16_Encode.f k (dec big l) big) (l, 0) := by
  obtain ⟨h1, h2, h3⟩ := dec_back big l.length l (Nat.le_refl _) hb
  have := enc_ev big (dec big l) (by omega)
  unfold encR at this
  rw [if_pos h2, h1] at this
  exact this

theorem Utf16Back : redactorlaw03_Utf16Back.Pure := by
  intro l0 l1 a2 _ _ h0 _ _ h1
  refine Ev.rounds ?_
  have b0 : ∀ a ∈ l0, isByte a := fun x hx => byte_of (h0 x hx)
  have b1 : ∀ a ∈ l1, isByte a := fun x hx => byte_of (h1 x hx)
  unfold redactorlaw03_Utf16Back.f
  by_cases hl : (l0.length : Int) > 300
  · refine Ev_yes hl (Ev_succ ?_)
    simp only [redactorlaw03_Utf16Back.j0]
    exact Ev_yes (by trivial) (Ev.bind known_ev (Ev_done rfl))
  · refine Ev_no hl (Ev.bind known_ev (Ev_succ ?_))
    simp only [redactorlaw03_Utf16Back.j0]
    obtain ⟨r, e1, e2, e3⟩ := bytes_ev l1 b1
    refine Ev_no (by simp) (Ev.bind e1 (Ev.bind (dec_ev a2 l0 b0 (by omega)) (Ev.bind (back_ev a2 l0 b0 (by omega)) (Ev.bind (dec_ev a2 r e2 (by omega)) (Ev.bind (back_ev a2 r e2 (by omega)) ?_)))))
    exact Ev_yes rfl (Ev_yes rfl (Ev_yes rfl (Ev_done (by simp))))

end Go.Proofs.Ytfjbobabifmpmaa.Pure
