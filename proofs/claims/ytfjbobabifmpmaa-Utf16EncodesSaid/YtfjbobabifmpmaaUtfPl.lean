/-! Plain laws of UTF-16 on lists of numbers: no program in sight. -/
namespace Go.Proofs.Ytfjbobabifmpmaa.Pl

def unit (big : Bool) (a b : Int) : Int := if big = true then a * 256 + b else b * 256 + a
def bmp (u : Int) : Prop := u < 55296 ∨ 57344 ≤ u
def pair (u v : Int) : Prop := u < 56320 ∧ 56320 ≤ v ∧ v < 57344
instance (u : Int) : Decidable (bmp u) := inferInstanceAs (Decidable (_ ∨ _))
instance (u v : Int) : Decidable (pair u v) := inferInstanceAs (Decidable (_ ∧ _))
def join (u v : Int) : Int := 65536 + (u - 55296) * 1024 + (v - 56320)

/-- What the chapter says of bytes: place by place. -/
def dec (big : Bool) (l : List Int) : List Int :=
  match l with
  | [] => []
  | [a] => [-1 - a]
  | [a, b] => if bmp (unit big a b) then [unit big a b] else [-1 - a, -1 - b]
  | [a, b, c] => if bmp (unit big a b) then [unit big a b, -1 - c] else [-1 - a, -1 - b, -1 - c]
  | a :: b :: c :: d :: r =>
    if bmp (unit big a b) then unit big a b :: dec big (c :: d :: r)
    else if pair (unit big a b) (unit big c d) then join (unit big a b) (unit big c d) :: dec big r
    else (-1 - a) :: (-1 - b) :: dec big (c :: d :: r)
  termination_by l.length

theorem dec_nil (big : Bool) : dec big [] = [] := by rw [dec]
theorem dec_one (big : Bool) (a : Int) : dec big [a] = [-1 - a] := by rw [dec]
theorem dec_bmp (big : Bool) (a b : Int) (r : List Int) (h : bmp (unit big a b)) : dec big (a :: b :: r) = unit big a b :: dec big r := by
  match r with
  | [] => rw [dec_nil, dec, if_pos h]
  | [c] => rw [dec_one, dec, if_pos h]
  | c :: d :: r => rw [dec, if_pos h]
theorem dec_pair (big : Bool) (a b c d : Int) (r : List Int) (h : ¬ bmp (unit big a b)) (h2 : pair (unit big a b) (unit big c d)) :
    dec big (a :: b :: c :: d :: r) = join (unit big a b) (unit big c d) :: dec big r := by
  rw [dec, if_neg h, if_pos h2]
theorem dec_lone (big : Bool) (a b : Int) (r : List Int) (h : ¬ bmp (unit big a b)) (h2 : ∀ c d r', r = c :: d :: r' → ¬ pair (unit big a b) (unit big c d)) :
    dec big (a :: b :: r) = (-1 - a) :: (-1 - b) :: dec big r := by
  match r with
  | [] => rw [dec_nil, dec, if_neg h]
  | [c] => rw [dec_one, dec, if_neg h]
  | c :: d :: r => rw [dec, if_neg h, if_neg (h2 c d r rfl)]

def isByte (a : Int) : Prop := 0 ≤ a ∧ a < 256
def isRight (c : Int) : Prop := -256 ≤ c ∧ c ≤ 1114111 ∧ ¬ (55296 ≤ c ∧ c ≤ 57343)
def put (big : Bool) (u : Int) : List Int := if big = true then [u / 256 % 256, u % 256] else [u % 256, u / 256 % 256]
def encOne (big : Bool) (c : Int) : List Int :=
  if c < 0 then [-1 - c] else if c < 65536 then put big c else put big (55296 + (c - 65536) / 1024) ++ put big (56320 + (c - 65536) % 1024)
def enc (big : Bool) (l : List Int) : List Int := l.flatMap (encOne big)

theorem unit_range (big : Bool) (a b : Int) (ha : isByte a) (hb : isByte b) : 0 ≤ unit big a b ∧ unit big a b < 65536 := by
  unfold isByte at *
  unfold unit
  split <;> omega
theorem put_unit (big : Bool) (a b : Int) (ha : isByte a) (hb : isByte b) : put big (unit big a b) = [a, b] := by
  unfold isByte at *
  unfold put unit
  cases big
  · simp only [Bool.false_eq_true, if_false]
    rw [show (b * 256 + a) % 256 = a from by omega, show (b * 256 + a) / 256 % 256 = b from by omega]
  · simp only [if_true]
    rw [show (a * 256 + b) % 256 = b from by omega, show (a * 256 + b) / 256 % 256 = a from by omega]
theorem put_two (big : Bool) (u : Int) (h0 : 0 ≤ u) (h1 : u < 65536) : ∃ x y, put big u = [x, y] ∧ isByte x ∧ isByte y ∧ unit big x y = u ∧ put (!big) u = [y, x] := by
  unfold put unit isByte
  cases big
  · exact ⟨u % 256, u / 256 % 256, by simp, by omega, by omega, by simp; omega, by simp⟩
  · exact ⟨u / 256 % 256, u % 256, by simp, by omega, by omega, by simp; omega, by simp⟩

theorem enc_nil (big : Bool) : enc big [] = [] := rfl
theorem enc_cons (big : Bool) (c : Int) (l : List Int) : enc big (c :: l) = encOne big c ++ enc big l := by simp [enc]
theorem enc_append (big : Bool) (l m : List Int) : enc big (l ++ m) = enc big l ++ enc big m := by simp [enc]
theorem encOne_esc (big : Bool) (a : Int) (h : isByte a) : encOne big (-1 - a) = [a] := by
  unfold isByte at h
  unfold encOne
  rw [if_pos (by omega), show -1 - (-1 - a) = a from by omega]

theorem right_esc (a : Int) (h : isByte a) : isRight (-1 - a) := by
  unfold isByte isRight at *
  omega
theorem right_bmp (u : Int) (h : bmp u) (h0 : 0 ≤ u) (h1 : u < 65536) : isRight u := by
  unfold bmp isRight at *
  omega

/-- Of bytes: there and back; and cells are what comes out. -/
theorem dec_back (big : Bool) : ∀ (n : Nat) (l : List Int), l.length ≤ n → (∀ a ∈ l, isByte a) → enc big (dec big l) = l ∧ (∀ c ∈ dec big l, isRight c) ∧ (dec big l).length ≤ l.length := by
  intro n
  induction n with
  | zero =>
    intro l hl _
    have : l = [] := List.eq_nil_of_length_eq_zero (by omega)
    subst this
    rw [dec_nil]
    exact ⟨rfl, by simp, by simp⟩
  | succ n ih =>
    intro l hl hb
    match l with
    | [] => rw [dec_nil]; exact ⟨rfl, by simp, by simp⟩
    | [a] =>
      have ha := hb a (by simp)
      rw [dec_one]
      refine ⟨by rw [enc_cons, encOne_esc big a ha]; rfl, ?_, by simp⟩
      intro c hc
      simp only [List.mem_singleton] at hc
      subst hc
      exact right_esc a ha
    | a :: b :: r =>
      have ha := hb a (by simp)
      have hb' := hb b (by simp)
      have hr : ∀ x ∈ r, isByte x := fun x hx => hb x (by simp [hx])
      have hu := unit_range big a b ha hb'
      by_cases h : bmp (unit big a b)
      · obtain ⟨i1, i2, i3⟩ := ih r (by simp at hl; omega) hr
        rw [dec_bmp big a b r h]
        refine ⟨?_, ?_, by simp; omega⟩
        · rw [enc_cons, i1, encOne, if_neg (by omega), if_pos hu.2, put_unit big a b ha hb']
          rfl
        · intro c hc
          rcases List.mem_cons.1 hc with rfl | hc
          · exact right_bmp _ h hu.1 hu.2
          · exact i2 c hc
      · by_cases h2 : ∃ c d r', r = c :: d :: r' ∧ pair (unit big a b) (unit big c d)
        · obtain ⟨c, d, r', rfl, hp⟩ := h2
          have hc := hb c (by simp)
          have hd := hb d (by simp)
          have hv := unit_range big c d hc hd
          obtain ⟨i1, i2, i3⟩ := ih r' (by simp at hl; omega) (fun x hx => hb x (by simp [hx]))
          rw [dec_pair big a b c d r' h hp]
          unfold bmp at h
          unfold pair at hp
          refine ⟨?_, ?_, by simp; omega⟩
          · rw [enc_cons, i1, encOne, if_neg (by unfold join; omega), if_neg (by unfold join; omega)]
            rw [show 55296 + (join (unit big a b) (unit big c d) - 65536) / 1024 = unit big a b from by unfold join; omega]
            rw [show 56320 + (join (unit big a b) (unit big c d) - 65536) % 1024 = unit big c d from by unfold join; omega]
            rw [put_unit big a b ha hb', put_unit big c d hc hd]
            rfl
          · intro e he
            rcases List.mem_cons.1 he with rfl | he
            · unfold isRight join
              omega
            · exact i2 e he
        · have h3 : ∀ c d r', r = c :: d :: r' → ¬ pair (unit big a b) (unit big c d) := fun c d r' e hp => h2 ⟨c, d, r', e, hp⟩
          obtain ⟨i1, i2, i3⟩ := ih r (by simp at hl; omega) hr
          rw [dec_lone big a b r h h3]
          refine ⟨?_, ?_, by simp; omega⟩
          · rw [enc_cons, enc_cons, i1, encOne_esc big a ha, encOne_esc big b hb']
            rfl
          · intro e he
            rcases List.mem_cons.1 he with rfl | he
            · exact right_esc a ha
            · rcases List.mem_cons.1 he with rfl | he
              · exact right_esc b hb'
              · exact i2 e he

/-- A byte that is left over. -/
theorem dec_odd (big : Bool) (z : Int) : ∀ (n : Nat) (l : List Int), l.length = 2 * n → dec big (l ++ [z]) = dec big l ++ [-1 - z] := by
  intro n
  induction n using Nat.strongRecOn with
  | _ n ih =>
    intro l hl
    match l with
    | [] => rw [dec_nil]; exact dec_one big z
    | [a] => simp at hl; omega
    | a :: b :: r =>
      have hr : r.length = 2 * (n - 1) := by simp at hl; omega
      have hn : n - 1 < n := by simp at hl; omega
      have i1 := ih (n - 1) hn r hr
      show dec big (a :: b :: (r ++ [z])) = _
      by_cases h : bmp (unit big a b)
      · rw [dec_bmp big a b _ h, dec_bmp big a b r h, i1]
        rfl
      · by_cases h2 : ∃ c d r', r = c :: d :: r' ∧ pair (unit big a b) (unit big c d)
        · obtain ⟨c, d, r', rfl, hp⟩ := h2
          show dec big (a :: b :: c :: d :: (r' ++ [z])) = _
          rw [dec_pair big a b c d _ h hp, dec_pair big a b c d r' h hp, ih (n - 2) (by simp at hl; omega) r' (by simp at hl; omega)]
          rfl
        · have h3 : ∀ c d r', r = c :: d :: r' → ¬ pair (unit big a b) (unit big c d) := fun c d r' e hp => h2 ⟨c, d, r', e, hp⟩
          rw [dec_lone big a b r h h3, dec_lone big a b (r ++ [z]) h ?_, i1]
          · rfl
          · intro c d r' e
            match r with
            | [] => simp at e
            | [c'] => simp at hr; omega
            | c' :: d' :: r'' =>
              simp only [List.cons_append, List.cons.injEq] at e
              obtain ⟨rfl, rfl, _⟩ := e
              exact h3 _ _ r'' rfl

def isScalar (c : Int) : Prop := 0 ≤ c ∧ c ≤ 1114111 ∧ ¬ (55296 ≤ c ∧ c ≤ 57343)

/-- Of scalars: there and back; each unit turned round, in the other order. -/
theorem dec_enc (big : Bool) : ∀ (l : List Int), (∀ c ∈ l, isScalar c) → dec big (enc big l) = l := by
  intro l
  induction l with
  | nil => intro _; exact dec_nil big
  | cons c l ih =>
    intro h
    have hc := h c (by simp)
    have hl := ih (fun x hx => h x (by simp [hx]))
    unfold isScalar at hc
    rw [enc_cons, encOne, if_neg (by omega)]
    by_cases h1 : c < 65536
    · rw [if_pos h1]
      obtain ⟨x, y, e, _, _, eu, _⟩ := put_two big c (by omega) h1
      rw [e]
      show dec big (x :: y :: enc big l) = _
      rw [dec_bmp big x y _ (by rw [eu]; unfold bmp; omega), eu, hl]
    · rw [if_neg h1]
      obtain ⟨x, y, e, _, _, eu, _⟩ := put_two big (55296 + (c - 65536) / 1024) (by omega) (by omega)
      obtain ⟨z, w, e', _, _, ev, _⟩ := put_two big (56320 + (c - 65536) % 1024) (by omega) (by omega)
      rw [e, e']
      show dec big (x :: y :: z :: w :: enc big l) = _
      rw [dec_pair big x y z w _ (by rw [eu]; unfold bmp; omega) (by rw [eu, ev]; unfold pair; omega), eu, ev, hl]
      congr 1
      unfold join
      omega

def turn : List Int → List Int
  | a :: b :: r => b :: a :: turn r
  | l => l
theorem turn_enc (big : Bool) : ∀ (l : List Int), (∀ c ∈ l, isScalar c) → turn (enc big l) = enc (!big) l ∧ (enc big l).length % 2 = 0 ∧ (enc big l).length ≤ 4 * l.length ∧ ∀ a ∈ enc big l, isByte a := by
  intro l
  induction l with
  | nil => intro _; exact ⟨rfl, rfl, Nat.le_refl _, by simp [enc]⟩
  | cons c l ih =>
    intro h
    have hc := h c (by simp)
    obtain ⟨i1, i2, i3, i4⟩ := ih (fun x hx => h x (by simp [hx]))
    unfold isScalar at hc
    rw [enc_cons, enc_cons]
    unfold encOne
    rw [if_neg (show ¬ c < 0 by omega), if_neg (show ¬ c < 0 by omega)]
    by_cases h1 : c < 65536
    · rw [if_pos h1, if_pos h1]
      obtain ⟨x, y, e, bx, b_y, eu, et⟩ := put_two big c (by omega) h1
      rw [e, et]
      refine ⟨?_, by simp; omega, by simp; omega, ?_⟩
      · show turn (x :: y :: enc big l) = _
        rw [turn, i1]
        rfl
      · intro a ha
        simp only [List.cons_append, List.nil_append, List.mem_cons] at ha
        rcases ha with rfl | rfl | ha
        · exact bx
        · exact b_y
        · exact i4 a ha
    · rw [if_neg h1, if_neg h1]
      obtain ⟨x, y, e, bx, b_y, eu, et⟩ := put_two big (55296 + (c - 65536) / 1024) (by omega) (by omega)
      obtain ⟨z, w, e', bz, bw, ev, et'⟩ := put_two big (56320 + (c - 65536) % 1024) (by omega) (by omega)
      rw [e, e', et, et']
      refine ⟨?_, by simp; omega, by simp; omega, ?_⟩
      · show turn (x :: y :: z :: w :: enc big l) = _
        rw [turn, turn, i1]
        rfl
      · intro a ha
        simp only [List.cons_append, List.nil_append, List.mem_cons] at ha
        rcases ha with rfl | rfl | rfl | rfl | ha
        · exact bx
        · exact b_y
        · exact bz
        · exact bw
        · exact i4 a ha
end Go.Proofs.Ytfjbobabifmpmaa.Pl
