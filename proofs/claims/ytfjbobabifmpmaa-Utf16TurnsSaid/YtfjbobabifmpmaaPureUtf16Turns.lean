/- Bytes of whole units, each turned round, are in the other order the same scalars: of utf16.Encode, Decode and Canonical; for every input. -/
import Derived.Test.YtfjbobabifmpmaaUtfTie
import Derived.Test.YtfjbobabifmpmaaUtfTieB
import Derived.Test.YtfjbobabifmpmaaUtfTieS
import Derived.Test.YtfjbobabifmpmaaUtfTieE
import Derived.Test.YtfjbobabifmpmaaX16
namespace Go.Proofs.Ytfjbobabifmpmaa.Pure
open Go.RowKit Go.Proofs.Ytfjbobabifmpmaa.X Go.Proofs.YtfjbobabifmpmaaW.PrintWords Go.Proofs.Ytfjbobabifmpmaa.Pl Go.Proofs.Ytfjbobabifmpmaa.Tie

theorem set_mid (p : List Int) (a x : Int) (s : List Int) : (p ++ a :: s).set p.length x = p ++ x :: s := by
  induction p with
  | nil => rfl
  | cons b p ih => simp [ih]
theorem set_two (p : List Int) (a b : Int) (r : List Int) : ((p ++ a :: b :: r).set p.length b).set (p.length + 1) a = p ++ b :: a :: r := by
  rw [set_mid]
  simp

theorem canon_scalars (l : List Int) (h : ∀ c ∈ l, isScalar c) : canon l = true := by
  unfold canon
  rw [decide_eq_true (dec_enc false l h), decide_eq_true (dec_enc true l h), decide_eq_true]
  · rfl
  · intro c hc
    have := h c hc
    unfold isScalar at this
    unfold isRight
    omega

theorem turns_loop (big : Bool) (l : List Int) (hl : ∀ c ∈ l, isScalar c) (hn : l.length ≤ 60) : ∀ (n : Nat) (s p : List Int), s.length = 2 * n → p.length + s.length < 1000 → p ++ turn s = enc (!big) l →
    Ev (fun k => redactorlaw03_Utf16Turns.l1 k big l (p ++ s) (p.length : Int)) true := by
  intro n
  induction n with
  | zero =>
    intro s p hs hp e
    obtain rfl : s = [] := List.eq_nil_of_length_eq_zero hs
    refine Ev_succ ?_
    simp only [redactorlaw03_Utf16Turns.l1]
    rw [w64 (by omega) (by omega)]
    refine Ev_no (by simp; omega) (Ev.bind known_ev (Ev_yes rfl ?_))
    rw [show p ++ [] = enc (!big) l from by rw [← e]; rfl]
    obtain ⟨_, t2, t3, t4⟩ := turn_enc (!big) l hl
    refine Ev.bind (dec_ev (!big) _ t4 (by omega)) ?_
    rw [dec_enc (!big) l hl]
    refine Ev.bind (same_ev l l (by omega)) ?_
    rw [decide_eq_true rfl]
    refine Ev_yes rfl (Ev.bind (canon_ev l (by omega)) (Ev_done (canon_scalars l hl)))
  | succ n ih =>
    intro s p hs hp e
    match s with
    | [] => simp at hs
    | [a] => simp at hs; omega
    | a :: b :: r =>
      simp only [List.length_cons] at hs hp
      have hlen : (p ++ a :: b :: r).length = p.length + r.length + 2 := by simp; omega
      refine Ev_succ ?_
      simp only [redactorlaw03_Utf16Turns.l1]
      rw [w64 (n := (p.length : Int) + 1) (by omega) (by omega), w64 (n := (p.length : Int) + 2) (by omega) (by omega), rd_mid, show rd (p ++ a :: b :: r) ((p.length : Int) + 1) = b from rd_off p (a :: b :: r) 1, Int.toNat_natCast, show ((p.length : Int) + 1).toNat = p.length + 1 from by omega, set_two]
      refine Ev_yes (by rw [hlen]; omega) (Ev_yes (by omega) (Ev_yes (by rw [hlen]; omega) (Ev_yes (by omega) ?_)))
      have := ih r (p ++ [b, a]) (by omega) (by simp; omega) (by rw [List.append_assoc]; exact e)
      rw [List.append_assoc] at this
      simpa using this

theorem turns_end (big : Bool) (x0 : List Int) (i : Int) (l : List Int) (hl : ∀ c ∈ l, isScalar c) (hn : l.length ≤ 60) : Ev (fun k => redactorlaw03_Utf16Turns.j1 k x0 big l i false) true := by
  refine Ev_succ ?_
  simp only [redactorlaw03_Utf16Turns.j1]
  refine Ev_no (by simp) (Ev.bind (enc_ev big l (by omega)) ?_)
  obtain ⟨t1, t2, t3, _⟩ := turn_enc big l hl
  unfold encR
  rw [if_pos (by
    intro c hc
    have := hl c hc
    unfold isScalar at this
    unfold isRight
    omega)]
  refine Ev_yes rfl (Ev_yes (by show ((enc big l).length : Int) % 2 = 0; omega) ?_)
  rw [w64 (n := 4 * (l.length : Int)) (by omega) (by omega), decide_eq_false (show ¬ (((enc big l, (0 : Int)).1.length : Int) > 4 * (l.length : Int)) by show ¬ ((enc big l).length : Int) > 4 * (l.length : Int); omega)]
  refine Ev_succ ?_
  simp only [redactorlaw03_Utf16Turns.j2]
  refine Ev_no (by simp) ?_
  have := turns_loop big l hl hn ((enc big l).length / 2) (enc big l) [] (by omega) (by simp; omega) t1
  simpa using this

theorem Utf16Turns : redactorlaw03_Utf16Turns.Pure := by
  intro l0 big _ hn h0
  refine Ev.rounds ?_
  have e1 : IntKind.u32.min = 0 := rfl
  have e2 : IntKind.u32.max = 4294967295 := rfl
  have hr : ∀ x ∈ l0, 0 ≤ x ∧ x < 4294967296 := by
    intro x hx
    have := h0 x hx
    simp only [Lit.wf, Bool.and_eq_true, decide_eq_true_eq, e1, e2] at this
    omega
  have key : ∀ (s p acc : List Int), (∀ x ∈ s, 0 ≤ x ∧ x < 4294967296) → (∀ c ∈ acc, isScalar c) → acc.length ≤ p.length → p.length ≤ 60 → p.length + s.length < 9223372036854775807 →
      Ev (fun k => redactorlaw03_Utf16Turns.l0 k (p ++ s) big acc (p.length : Int)) true := by
    intro s
    induction s with
    | nil =>
      intro p acc _ ha h1 h2 _
      refine Ev_succ ?_
      simp only [redactorlaw03_Utf16Turns.l0]
      exact Ev_no (by simp) (turns_end big _ _ acc ha (by omega))
    | cons c s ih =>
      intro p acc hs ha h1 h2 hp
      have hlen : (p ++ c :: s).length = p.length + s.length + 1 := by simp; omega
      simp only [List.length_cons] at hp
      have hc := hs c (by simp)
      refine Ev_succ ?_
      simp only [redactorlaw03_Utf16Turns.l0]
      refine Ev_yes (by rw [hlen]; omega) ?_
      by_cases h60 : (p.length : Int) < 60
      · rw [decide_eq_true h60]
        refine Ev_succ ?_
        simp only [redactorlaw03_Utf16Turns.j1]
        rw [rd_mid, Int.tmod_eq_emod_of_nonneg hc.1, w32 (n := c % 1114112) (by omega) (by omega), w64 (n := (p.length : Int) + 1) (by omega) (by omega)]
        refine Ev_yes (by trivial) (Ev_yes (by omega) (Ev_yes (by rw [hlen]; omega) (Ev_let (ref_right_tie _) ?_)))
        have next : ∀ acc', (∀ c ∈ acc', isScalar c) → acc'.length ≤ p.length + 1 → Ev (fun k => redactorlaw03_Utf16Turns.l0 k (p ++ c :: s) big acc' ((p.length : Int) + 1)) true := by
          intro acc' ha' hn'
          have := ih (p ++ [c]) acc' (fun x hx => hs x (by simp [hx])) ha' (by simp; omega) (by simp; omega) (by simp; omega)
          rw [List.append_assoc] at this
          simpa using this
        by_cases hR : isRight (c % 1114112)
        · rw [decide_eq_true hR]
          refine Ev_yes rfl (Ev_yes (by omega) (next _ ?_ (by simp; omega)))
          intro d hd
          rcases List.mem_append.1 hd with hd | hd
          · exact ha d hd
          · simp only [List.mem_singleton] at hd
            subst hd
            unfold isRight at hR
            unfold isScalar
            omega
        · rw [decide_eq_false hR]
          exact Ev_no (by simp) (next acc ha (by omega))
      · rw [decide_eq_false h60]
        exact turns_end big _ _ acc ha (by omega)
  unfold redactorlaw03_Utf16Turns.f
  have := key l0 [] [] hr (by simp) (by simp) (by simp) (by simp; omega)
  simpa using this

end Go.Proofs.Ytfjbobabifmpmaa.Pure
