/- Bytes that are cut behind any unit are, decoded by utf16.Decode and encoded by utf16.Encode part by part, what they were; for every input. -/
import Derived.Test.YtfjbobabifmpmaaUtfTie
import Derived.Test.YtfjbobabifmpmaaUtfTieB
import Derived.Test.YtfjbobabifmpmaaX17
namespace Go.Proofs.Ytfjbobabifmpmaa.Pure
open Go.RowKit Go.Proofs.Ytfjbobabifmpmaa.X Go.Proofs.YtfjbobabifmpmaaW.PrintWords Go.Proofs.Ytfjbobabifmpmaa.Pl Go.Proofs.Ytfjbobabifmpmaa.Tie

theorem cut_back_ev (big : Bool) (l : List Int) (hb : ∀ a ∈ l, isByte a) (hl : l.length < 1000) : Ev (fun k => utf16_Encode.f k (dec big l) big) (l, 0) := by
  obtain ⟨h1, h2, h3⟩ := dec_back big l.length l (Nat.le_refl _) hb
  have := enc_ev big (dec big l) (by omega)
  unfold encR at this
  rw [if_pos h2, h1] at this
  exact this
theorem nums_append (a b : List Int) : strOfNums a ++ strOfNums b = strOfNums (a ++ b) := by
  apply ByteArray.ext
  simp [strOfNums]
theorem nums_size (a : List Int) : (strOfNums a).size = a.length := by
  simp [strOfNums, ByteArray.size]

theorem Utf16Cut : redactorlaw03_Utf16Cut.Pure := by
  intro l0 a1 a2 _ _ h0 h1
  refine Ev.rounds ?_
  have b0 : ∀ a ∈ l0, isByte a := fun x hx => byte_of (h0 x hx)
  have b1 : isByte a1 := byte_of h1
  unfold isByte at b1
  obtain ⟨t, e1, e2, e3⟩ := bytes_ev l0 b0
  unfold redactorlaw03_Utf16Cut.f
  refine Ev.bind e1 ?_
  rw [w64 (n := a1) (by omega) (by omega), w64 (n := (t.length : Int) / 2) (by omega) (by omega), w64 (n := (t.length : Int) / 2 + 1) (by omega) (by omega), Int.tmod_eq_emod_of_nonneg b1.1]
  have m0 := Int.emod_nonneg a1 (show ((t.length : Int) / 2 + 1) ≠ 0 by omega)
  have m1 := Int.emod_lt_of_pos a1 (show 0 < ((t.length : Int) / 2 + 1) by omega)
  generalize a1 % ((t.length : Int) / 2 + 1) = m at m0 m1
  rw [w64 (n := m * 2) (by omega) (by omega)]
  obtain ⟨q, rfl⟩ := Int.eq_ofNat_of_zero_le m0
  refine Ev_no (by omega) (Ev_yes (by omega) (Ev_yes (by omega) ?_))
  rw [show ((q : Int) * 2).toNat = q * 2 from by omega]
  have c1 : ∀ a ∈ t.take (q * 2), isByte a := fun a ha => e2 a (List.mem_of_mem_take ha)
  have c2 : ∀ a ∈ t.drop (q * 2), isByte a := fun a ha => e2 a (List.mem_of_mem_drop ha)
  have d1 : (t.take (q * 2)).length ≤ 60 := by rw [List.length_take]; omega
  have d2 : (t.drop (q * 2)).length ≤ 60 := by rw [List.length_drop]; omega
  refine Ev.bind (dec_ev a2 _ c1 (by omega)) (Ev.bind (cut_back_ev a2 _ c1 (by omega)) (Ev.bind (dec_ev a2 _ c2 (by omega)) (Ev.bind (cut_back_ev a2 _ c2 (by omega)) (Ev.bind known_ev ?_))))
  refine Ev_yes rfl (Ev_yes rfl (Ev_yes rfl (Ev_yes (by rw [nums_size, nums_size]; show (t.take (q * 2)).length + (t.drop (q * 2)).length ≤ _; omega) (Ev_done ?_))))
  rw [nums_append, List.take_append_drop]
  simp

end Go.Proofs.Ytfjbobabifmpmaa.Pure
