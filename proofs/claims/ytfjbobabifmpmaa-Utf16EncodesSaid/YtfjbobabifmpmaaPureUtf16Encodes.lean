/- utf16.Encode and utf16.Canonical of any cells are what the reference's tell; for every input of the statement's guards. -/
import Derived.Test.YtfjbobabifmpmaaUtfTie
import Derived.Test.YtfjbobabifmpmaaUtfTieB
import Derived.Test.YtfjbobabifmpmaaUtfTieE
import Derived.Test.YtfjbobabifmpmaaUtfTieC
import Derived.Test.YtfjbobabifmpmaaX13
import Derived.Test.YtfjbobabifmpmaaX15
namespace Go.Proofs.Ytfjbobabifmpmaa.Pure
open Go.RowKit Go.Proofs.Ytfjbobabifmpmaa.X Go.Proofs.YtfjbobabifmpmaaW.PrintWords Go.Proofs.Ytfjbobabifmpmaa.Pl Go.Proofs.Ytfjbobabifmpmaa.Tie

theorem tells_ev (l : List Int) (big : Bool) (hl : l.length ≤ 200) : Ev (fun k => redactorlaw03_tells.f k l big) true := by
  unfold redactorlaw03_tells.f
  refine Ev.bind (enc_ev big l (by omega)) (Ev.bind (ref_enc_ev big l (by omega)) (Ev_yes rfl (Ev_yes ?_ (Ev.bind (canon_ev l (by omega)) (Ev.bind (ref_canon_ev l (by omega)) (Ev_done (by simp)))))))
  unfold encR
  split
  · exact w64 (by simp) (by simp)
  · exact w64 (by simp) (by simp)

theorem Utf16Encodes : redactorlaw03_Utf16Encodes.Pure := by
  intro l0 l1 a2 _ _ h0 _ hn h1
  refine Ev.rounds ?_
  unfold redactorlaw03_Utf16Encodes.f
  by_cases hl : (l0.length : Int) > 200
  · refine Ev_yes hl (Ev_succ ?_)
    simp only [redactorlaw03_Utf16Encodes.j0]
    exact Ev_yes (by trivial) (Ev.bind known_ev (Ev_done rfl))
  · refine Ev_no hl (Ev.bind known_ev (Ev_succ ?_))
    simp only [redactorlaw03_Utf16Encodes.j0]
    refine Ev_no (by simp) (Ev.bind (tells_ev l0 a2 (by omega)) (Ev_yes rfl (Ev.bind (cells_ev l1 (fun x hx => byte_of (h1 x hx)) (by omega)) (Ev.bind (tells_ev _ a2 ?_) (Ev_done rfl)))))
    have := cellsOf_length l1
    omega

end Go.Proofs.Ytfjbobabifmpmaa.Pure
