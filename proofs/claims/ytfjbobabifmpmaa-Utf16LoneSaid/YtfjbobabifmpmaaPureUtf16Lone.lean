/- Half a pair is decoded by utf16.Decode as two escapes, whatever stands behind it but the other half; for every input. -/
import Derived.Test.YtfjbobabifmpmaaUtfTie
import Derived.Test.YtfjbobabifmpmaaUtfTieB
import Derived.Test.YtfjbobabifmpmaaX6
import Derived.Test.YtfjbobabifmpmaaX8
namespace Go.Proofs.Ytfjbobabifmpmaa.Pure
open Go.RowKit Go.Proofs.Ytfjbobabifmpmaa.X Go.Proofs.YtfjbobabifmpmaaW.PrintWords Go.Proofs.Ytfjbobabifmpmaa.Pl Go.Proofs.Ytfjbobabifmpmaa.Tie

theorem dec_some (big : Bool) (a b : Int) (r : List Int) : ∃ c l, dec big (a :: b :: r) = c :: l := by
  by_cases h : bmp (unit big a b)
  · exact ⟨_, _, dec_bmp big a b r h⟩
  · by_cases h2 : ∃ c d r', r = c :: d :: r' ∧ pair (unit big a b) (unit big c d)
    · obtain ⟨c, d, r', rfl, hp⟩ := h2
      exact ⟨_, _, dec_pair big a b c d r' h hp⟩
    · exact ⟨_, _, dec_lone big a b r h (fun c d r' e hp => h2 ⟨c, d, r', e, hp⟩)⟩

theorem esc_tie (a : Int) (h : isByte a) : redactorref01_Escape.f a = some (-1 - a) := by
  unfold isByte at h
  unfold redactorref01_Escape.f
  rw [w32 (n := a) (by omega) (by omega), w32 (by omega) (by omega)]

theorem lone_end (big : Bool) (p q x y : Int) (hp : isByte p) (hq : isByte q) (hx : isByte x) (hy : isByte y) (h1 : ¬ bmp (unit big p q)) (h2 : ¬ pair (unit big p q) (unit big x y)) :
    Ev (fun k => redactorlaw03_Utf16Lone.j2 k big [p, q, x, y]) true := by
  refine Ev_succ ?_
  simp only [redactorlaw03_Utf16Lone.j2]
  have hb : ∀ a ∈ [p, q, x, y], isByte a := by
    intro a ha
    simp only [List.mem_cons, List.not_mem_nil, or_false] at ha
    rcases ha with rfl | rfl | rfl | rfl
    · exact hp
    · exact hq
    · exact hx
    · exact hy
  refine Ev.bind (dec_ev big [p, q, x, y] hb (by simp)) (Ev.bind known_ev (Ev_yes rfl ?_))
  rw [dec_lone big p q [x, y] h1 (by
    intro c d r' e
    simp only [List.cons.injEq] at e
    obtain ⟨rfl, rfl, _⟩ := e
    exact h2)]
  obtain ⟨c, l, e⟩ := dec_some big x y []
  rw [e]
  refine Ev_yes (by simp; omega) (Ev_yes (by simp; omega) (Ev_yes (by simp) (Ev_let (esc_tie p hp) (Ev_yes rfl (Ev_yes (by simp; omega) (Ev_yes (by simp) (Ev_let (esc_tie q hq) (Ev_done ?_))))))))
  simp [rd_one]

theorem Utf16Lone : redactorlaw03_Utf16Lone.Pure := by
  intro a0 a1 a2 h0 h1
  refine Ev.rounds ?_
  have e1 : IntKind.u16.min = 0 := rfl
  have e2 : IntKind.u16.max = 65535 := rfl
  simp only [Lit.wf, Bool.and_eq_true, decide_eq_true_eq, e1, e2] at h0 h1
  have hu : wrap32 (55296 + (wrap32 (Int.tmod a0 2048))) = 55296 + a0 % 2048 := by
    rw [Int.tmod_eq_emod_of_nonneg h0.1, w32 (n := a0 % 2048) (by omega) (by omega), w32 (by omega) (by omega)]
  have hv : wrap32 a1 = a1 := w32 (by omega) (by omega)
  unfold redactorlaw03_Utf16Lone.f
  rw [hu, hv]
  have hlo : 55296 ≤ 55296 + a0 % 2048 := by omega
  have hhi : 55296 + a0 % 2048 < 57344 := by omega
  generalize 55296 + a0 % 2048 = u at hlo hhi
  have fin : ∀ v : Int, 0 ≤ v → v < 65536 → ¬ pair u v → Ev (fun k => redactorlaw03_Utf16Lone.j1 k a2 u v) true := by
    intro v hv0 hv1 hp
    refine Ev_succ ?_
    simp only [redactorlaw03_Utf16Lone.j1]
    have d1 : (wrap32 (Int.tdiv u 256)) % 256 = u / 256 := by
      rw [Int.tdiv_eq_ediv_of_nonneg (by omega), w32 (by omega) (by omega)]
      omega
    have d2 : (Int.tmod u 256) % 256 = u % 256 := by
      rw [Int.tmod_eq_emod_of_nonneg (by omega)]
      omega
    have d3 : (wrap32 (Int.tdiv v 256)) % 256 = v / 256 := by
      rw [Int.tdiv_eq_ediv_of_nonneg (by omega), w32 (by omega) (by omega)]
      omega
    have d4 : (Int.tmod v 256) % 256 = v % 256 := by
      rw [Int.tmod_eq_emod_of_nonneg (by omega)]
      omega
    rw [d1, d2, d3, d4]
    cases a2 with
    | true =>
      refine Ev_yes rfl (lone_end true _ _ _ _ (by unfold isByte; omega) (by unfold isByte; omega) (by unfold isByte; omega) (by unfold isByte; omega) ?_ ?_)
      · unfold bmp unit
        simp
        omega
      · unfold pair at *
        unfold unit
        simp only [if_true]
        omega
    | false =>
      refine Ev_no (by simp) (lone_end false _ _ _ _ (by unfold isByte; omega) (by unfold isByte; omega) (by unfold isByte; omega) (by unfold isByte; omega) ?_ ?_)
      · unfold bmp unit
        simp
        omega
      · unfold pair at *
        unfold unit
        simp only [Bool.false_eq_true, if_false]
        omega
  have no : ¬ pair u a1 → Ev (fun k => redactorlaw03_Utf16Lone.j0 k a2 u a1 false) true := by
    intro hp
    refine Ev_succ ?_
    simp only [redactorlaw03_Utf16Lone.j0]
    exact Ev_no (by simp) (fin a1 (by omega) (by omega) hp)
  by_cases c1 : u < 56320
  · refine Ev_yes c1 ?_
    by_cases c2 : a1 ≥ 56320
    · refine Ev_yes c2 ?_
      by_cases c3 : a1 ≤ 57343
      · rw [decide_eq_true c3]
        refine Ev_succ ?_
        simp only [redactorlaw03_Utf16Lone.j0]
        exact Ev_yes (by trivial) (fin 120 (by omega) (by omega) (by unfold pair; omega))
      · rw [decide_eq_false c3]
        exact no (by unfold pair; omega)
    · exact Ev_no c2 (no (by unfold pair; omega))
  · exact Ev_no c1 (no (by unfold pair; omega))

end Go.Proofs.Ytfjbobabifmpmaa.Pure
