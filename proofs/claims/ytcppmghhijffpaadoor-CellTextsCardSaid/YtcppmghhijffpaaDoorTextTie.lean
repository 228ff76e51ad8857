import Derived.Test.YtcppmghhijffpaaDoorUni
import Derived.Test.YtcppmghhijffpaaDoorX22
import Derived.Test.YtcppmghhijffpaaDoorX21
import Derived.Test.YtcppmghhijffpaaDoorX5
import Derived.Test.YtcppmghhijffpaaDoorX11
import Derived.KernelRfl
/-! The reference's Text comes to the same text. -/
namespace Go.Proofs.YtcppmghhijffpaaDoor.Tie
open Go.RowKit Go.Proofs.YtcppmghhijffpaaDoor.X Go.Proofs.YtcppmghhijffpaaDoorW.PrintWords Go.Proofs.YtcppmghhijffpaaDoorW.PrintMore
theorem rByte_no (c : Int) (h : c < -256 ∨ 0 ≤ c) : redactorref01_Byte.f c = some (0, false) := by
  unfold redactorref01_Byte.f
  by_cases h0 : c ≥ 0
  · rw [if_pos h0]
  · rw [if_neg h0, if_pos (by omega)]
theorem rByte_yes (c : Int) (h0 : -256 ≤ c) (h1 : c < 0) : redactorref01_Byte.f c = some (-1 - c, true) := by
  unfold redactorref01_Byte.f
  rw [if_neg (by omega), if_neg (by omega), w32 (by omega) (by omega)]
  rw [show (-1 - c) % 256 = -1 - c from by omega]
theorem rRight (c : Int) : redactorref01_Right.f c = some (isCell c) := by
  unfold redactorref01_Right.f isCell
  by_cases h1 : c ≥ -256
  · rw [if_pos h1]
    by_cases h3 : c < 55296
    · rw [if_pos h3, decide_eq_true h3, decide_eq_true (show c ≤ 1114111 by omega), decide_eq_true (show -256 ≤ c by omega)]
      rfl
    · rw [if_neg h3, decide_eq_false h3, decide_eq_true (show -256 ≤ c by omega)]
      by_cases h4 : c > 57343
      · rw [if_pos h4, decide_eq_true (show 57343 < c by omega)]
        simp
      · rw [if_neg h4, decide_eq_false (show ¬ 57343 < c by omega)]
        simp
  · rw [if_neg h1, if_neg (by omega), decide_eq_false (show ¬ -256 ≤ c by omega)]
    rfl
/-- The sixteen digits. -/
def hexd : ByteArray := ⟨#[48, 49, 50, 51, 52, 53, 54, 55, 56, 57, 97, 98, 99, 100, 101, 102]⟩
theorem hexd_all : (List.range 16).all (fun i => (hexd.extract i (i + 1)).data.toList == (strOfNums [dch i]).data.toList) = true := by kernel_rfl
theorem bytes_ext {a b : ByteArray} (h : a.data.toList = b.data.toList) : a = b := by
  cases a
  cases b
  congr
  exact Array.ext' h
theorem hexd_at (i : Nat) (h : i < 16) : hexd.extract i (i + 1) = strOfNums [dch i] := by
  have := List.all_eq_true.1 hexd_all i (List.mem_range.2 h)
  exact bytes_ext (eq_of_beq this)
theorem nums_app (a b : List Int) : strOfNums (a ++ b) = strOfNums a ++ strOfNums b := bytes_ext (by simp [strOfNums, ByteArray.data_append])
theorem hex_stop (many : Int) (s : ByteArray) (h : many ≤ s.size) : Ev (fun k => redactorref01_hex.l0 k 0 many s) s := by
  refine Ev_succ ?_
  simp only [redactorref01_hex.l0]
  exact Ev_no (by omega) (Ev_no (by omega) (Ev_done rfl))
theorem hex_step (n : Nat) (many : Int) (s r : ByteArray) (hn : n < 4611686018427387904) (hs : s.size < 4611686018427387904) (h : 0 < n ∨ (s.size : Int) < many)
    (hr : Ev (fun k => redactorref01_hex.l0 k ((n / 16 : Nat) : Int) many (strOfNums [dch (n % 16)] ++ s)) r) : Ev (fun k => redactorref01_hex.l0 k (n : Int) many s) r := by
  have e1 : Int.tmod (n : Int) 16 = ((n % 16 : Nat) : Int) := by rw [Int.tmod_eq_emod_of_nonneg (by omega)]; omega
  have e2 : Int.tdiv (n : Int) 16 = ((n / 16 : Nat) : Int) := by rw [Int.tdiv_eq_ediv_of_nonneg (by omega)]; omega
  have e3 : (⟨#[48, 49, 50, 51, 52, 53, 54, 55, 56, 57, 97, 98, 99, 100, 101, 102]⟩ : ByteArray).extract (((n % 16 : Nat) : Int)).toNat ((((n % 16 : Nat) : Int) + 1)).toNat = strOfNums [dch (n % 16)] := hexd_at (n % 16) (by omega)
  refine Ev_succ ?_
  simp only [redactorref01_hex.l0]
  rw [e1, e2, w64 (n := ((n % 16 : Nat) : Int) + 1) (by omega) (by omega), w64 (n := ((n / 16 : Nat) : Int)) (by omega) (by omega), e3]
  have sz : (strOfNums [dch (n % 16)]).size = 1 := by rw [strOfNums_size]; rfl
  have rest : Ev (fun k => if 0 ≤ ((n % 16 : Nat) : Int) then (if ((n % 16 : Nat) : Int) ≤ ((n % 16 : Nat) : Int) + 1 then (if ((n % 16 : Nat) : Int) + 1 ≤ 16 then (if (strOfNums [dch (n % 16)]).size + s.size ≤ 9223372036854775807 then redactorref01_hex.l0 k ((n / 16 : Nat) : Int) many (strOfNums [dch (n % 16)] ++ s) else none) else none) else none) else none) r :=
    Ev_yes (by omega) (Ev_yes (by omega) (Ev_yes (by omega) (Ev_yes (by omega) hr)))
  by_cases h0 : (n : Int) > 0
  · exact Ev_yes h0 rest
  · exact Ev_no h0 (Ev_yes (by omega) rest)
theorem hex_ev0 (many : Int) : ∀ (f n : Nat) (s : ByteArray), 0 < n → n < 16 ^ (f + 1) → n < 4611686018427387904 → many ≤ s.size + 1 → s.size + f < 4611686018427387904 →
    Ev (fun k => redactorref01_hex.l0 k (n : Int) many s) (strOfNums (digs 16 f n) ++ s) := by
  intro f
  induction f with
  | zero =>
    intro n s h0 h1 h2 h3 h4
    have sz : (strOfNums [dch n]).size = 1 := by rw [strOfNums_size]; rfl
    refine hex_step n many s _ h2 (by omega) (Or.inl h0) ?_
    rw [show n / 16 = 0 from by omega, show n % 16 = n from by omega, digs_small 16 0 n (by omega)]
    exact hex_stop many _ (by rw [ByteArray.size_append]; omega)
  | succ f ih =>
    intro n s h0 h1 h2 h3 h4
    have sz : (strOfNums [dch (n % 16)]).size = 1 := by rw [strOfNums_size]; rfl
    refine hex_step n many s _ h2 (by omega) (Or.inl h0) ?_
    by_cases hn : n < 16
    · rw [show n / 16 = 0 from by omega, show n % 16 = n from by omega, digs_small 16 _ n hn]
      exact hex_stop many _ (by rw [ByteArray.size_append, strOfNums_size]; simp; omega)
    · rw [digs_great 16 f n (by omega), nums_app, ByteArray.append_assoc]
      refine ih (n / 16) _ (by omega) ?_ (by omega) (by rw [ByteArray.size_append]; omega) (by rw [ByteArray.size_append]; omega)
      rw [Nat.pow_succ] at h1
      omega
theorem hex1_ev (n : Nat) (h : n < 4294967296) : Ev (fun k => redactorref01_hex.f k (n : Int) 1) (strOfNums (digs 16 31 n)) := by
  unfold redactorref01_hex.f
  by_cases h0 : 0 < n
  · have := hex_ev0 1 31 n ⟨#[]⟩ h0 (Nat.lt_of_lt_of_le h (by decide)) (by omega) (by decide) (by decide)
    rwa [show strOfNums (digs 16 31 n) ++ (⟨#[]⟩ : ByteArray) = strOfNums (digs 16 31 n) from bytes_ext (by simp [ByteArray.data_append])] at this
  · have : n = 0 := by omega
    subst this
    refine hex_step 0 1 ⟨#[]⟩ _ (by decide) (by decide) (Or.inr (by decide)) ?_
    rw [digs_small 16 31 0 (by decide)]
    have e : strOfNums [dch (0 % 16)] ++ (⟨#[]⟩ : ByteArray) = strOfNums [dch 0] := bytes_ext (by simp [ByteArray.data_append])
    rw [e]
    exact hex_stop 1 _ (by rw [strOfNums_size]; decide)
theorem digs_two (n : Nat) (h : n < 256) : digs 16 31 (n + 256) = [dch 1, dch (n / 16), dch (n % 16)] := by
  rw [digs_great 16 30 (n + 256) (by omega), digs_great 16 29 ((n + 256) / 16) (by omega), digs_small 16 29 ((n + 256) / 16 / 16) (by omega), show (n + 256) / 16 / 16 = 1 from by omega, show (n + 256) / 16 % 16 = n / 16 from by omega, show (n + 256) % 16 = n % 16 from by omega]
  rfl
theorem digs_cut (n : Nat) (h : n < 256) : (strOfNums (digs 16 31 (n + 256))).extract 1 (strOfNums (digs 16 31 (n + 256))).size = strOfNums [dch (n / 16), dch (n % 16)] := by
  rw [digs_two n h, show strOfNums [dch 1, dch (n / 16), dch (n % 16)] = strOfNums [dch 1] ++ strOfNums [dch (n / 16), dch (n % 16)] from by rw [← nums_app]; rfl]
  apply bytes_ext
  rw [ByteArray.data_extract, ByteArray.data_append, ByteArray.size_append, strOfNums_size, strOfNums_size]
  simp [strOfNums]
theorem hex2_ev (n : Nat) (h : n < 256) : Ev (fun k => redactorref01_hex.f k (n : Int) 2) ((strOfNums (digs 16 31 (n + 256))).extract 1 (strOfNums (digs 16 31 (n + 256))).size) := by
  unfold redactorref01_hex.f
  rw [digs_cut n h]
  have e : strOfNums [dch (n % 16)] ++ (⟨#[]⟩ : ByteArray) = strOfNums [dch (n % 16)] := bytes_ext (by simp [ByteArray.data_append])
  have sz : (strOfNums [dch (n % 16)]).size = 1 := by rw [strOfNums_size]; rfl
  refine hex_step n 2 ⟨#[]⟩ _ (by omega) (by decide) (Or.inr (by decide)) ?_
  rw [e]
  refine hex_step (n / 16) 2 _ _ (by omega) (by omega) (Or.inr (by omega)) ?_
  rw [show n / 16 / 16 = 0 from by omega, show n / 16 % 16 = n / 16 from by omega, ← nums_app]
  exact hex_stop 2 _ (by rw [strOfNums_size]; simp)
theorem text_ev0 : ∀ (s p : List Int) (acc : ByteArray), (∀ c ∈ s, -2147483648 ≤ c ∧ c < 2147483648) → acc.size ≤ 64 * p.length → p.length + s.length < 1099511627776 →
    Ev (fun k => redactorref01_Text.l0 k (p ++ s) acc (p.length : Int)) ⟨(acc.data.toList ++ s.flatMap txtL).toArray⟩ := by
  intro s
  induction s with
  | nil =>
    intro p acc _ h1 h2
    refine Ev_succ ?_
    simp only [redactorref01_Text.l0]
    exact Ev_no (by simp) (Ev_done (bytes_ext (by simp)))
  | cons c s ih =>
    intro p acc hw h1 h2
    have hlen : (p ++ c :: s).length = p.length + s.length + 1 := by simp; omega
    simp only [List.length_cons] at h2
    have hc := hw c (by simp)
    have next : ∀ t, t = acc ++ txt c → Ev (fun k => redactorref01_Text.l0 k (p ++ c :: s) t (wrap64 ((p.length : Int) + 1))) ⟨(acc.data.toList ++ (c :: s).flatMap txtL).toArray⟩ := by
      rintro t rfl
      have := txt_size c
      have := ih (p ++ [c]) (acc ++ txt c) (fun x hx => hw x (by simp [hx])) (by rw [ByteArray.size_append, List.length_append]; simp; omega) (by simp; omega)
      rw [List.append_assoc, show [c] ++ s = c :: s from rfl] at this
      rw [w64 (by omega) (by omega), List.flatMap_cons, ← List.append_assoc, show acc.data.toList ++ txtL c = (acc ++ txt c).data.toList from by simp [txtL, ByteArray.data_append]]
      simpa using this
    refine Ev_succ ?_
    simp only [redactorref01_Text.l0]
    rw [rd_mid]
    refine Ev_yes (by rw [hlen]; omega) (Ev_yes (by omega) ?_)
    have htx := txt_size c
    by_cases hesc : -256 ≤ c ∧ c < 0
    · obtain ⟨b, hb⟩ : ∃ b : Nat, -1 - c = (b : Int) := ⟨(-1 - c).toNat, by omega⟩
      have hr : isCell c = true := by
        unfold isCell
        simp
        omega
      have htxt : txt c = (⟨#[92, 120]⟩ : ByteArray) ++ (strOfNums (digs 16 31 (b + 256))).extract 1 (strOfNums (digs 16 31 (b + 256))).size := by
        unfold txt
        rw [if_pos hesc, show (-1 - c).toNat = b from by omega]
      rw [htxt, ByteArray.size_append] at htx
      refine Ev_let (rByte_yes c hesc.1 hesc.2) (Ev_let (rRight c) (Ev_yes hr (Ev_yes rfl (Ev_yes (by omega) ?_))))
      simp only [hb]
      rw [w64 (n := (b : Int)) (by omega) (by omega)]
      refine Ev.bind (hex2_ev b (by omega)) (Ev_yes (by rw [ByteArray.size_append]; show acc.size + 2 + _ ≤ _; omega) (next _ ?_))
      rw [htxt, ByteArray.append_assoc]
    · refine Ev_let (rByte_no c (by omega)) (Ev_let (rRight c) ?_)
      by_cases hr : isCell c = true
      · have h0 : 0 ≤ c := by
          unfold isCell at hr
          simp at hr
          omega
        refine Ev_yes hr (Ev_no (by simp) ?_)
        by_cases h10 : c = 10
        · have htxt : txt c = ⟨#[92, 110]⟩ := by
            unfold txt
            rw [if_neg hesc, if_neg (by simp [hr]), if_pos h10]
          exact Ev_yes h10 (Ev_yes (by omega) (next _ (by rw [htxt])))
        · refine Ev_no h10 ?_
          by_cases h92 : c = 92
          · have htxt : txt c = ⟨#[92, 92]⟩ := by
              unfold txt
              rw [if_neg hesc, if_neg (by simp [hr]), if_neg h10, if_pos h92]
            exact Ev_yes h92 (Ev_yes (by omega) (next _ (by rw [htxt])))
          · refine Ev_no h92 ?_
            have dflt : ¬ (32 ≤ c ∧ c ≤ 126) → Ev (fun k => if acc.size + 3 ≤ 9223372036854775807 then ((redactorref01_hex.f k (wrap64 c) 1).bind fun t401 => (if (acc ++ (⟨#[92, 117, 123]⟩ : ByteArray)).size + t401.size ≤ 9223372036854775807 then (if ((acc ++ (⟨#[92, 117, 123]⟩ : ByteArray)) ++ t401).size + 1 ≤ 9223372036854775807 then (redactorref01_Text.l0 k (p ++ c :: s) (((acc ++ (⟨#[92, 117, 123]⟩ : ByteArray)) ++ t401) ++ (⟨#[125]⟩ : ByteArray)) (wrap64 ((p.length : Int) + 1))) else (none)) else (none))) else (none)) ⟨(acc.data.toList ++ (c :: s).flatMap txtL).toArray⟩ := by
              intro hd
              have htxt : txt c = (⟨#[92, 117, 123]⟩ : ByteArray) ++ strOfNums (digs 16 31 c.toNat) ++ (⟨#[125]⟩ : ByteArray) := by
                unfold txt
                rw [if_neg hesc, if_neg (by simp [hr]), if_neg h10, if_neg h92, if_neg hd]
              rw [htxt, ByteArray.size_append, ByteArray.size_append] at htx
              have z3 : (⟨#[92, 117, 123]⟩ : ByteArray).size = 3 := rfl
              refine Ev_yes (by omega) ?_
              obtain ⟨n, hn⟩ := Int.eq_ofNat_of_zero_le h0
              have hv : Ev (fun k => redactorref01_hex.f k (wrap64 c) 1) (strOfNums (digs 16 31 c.toNat)) := by
                rw [w64 (n := c) (by omega) (by omega), hn]
                exact hex1_ev n (by omega)
              refine Ev.bind hv (Ev_yes (by rw [ByteArray.size_append]; omega) (Ev_yes (by rw [ByteArray.size_append, ByteArray.size_append]; omega) (next _ ?_)))
              rw [htxt, ByteArray.append_assoc, ByteArray.append_assoc, ByteArray.append_assoc]
            by_cases h32 : c ≥ 32
            · refine Ev_yes h32 ?_
              by_cases h126 : c ≤ 126
              · have htxt : txt c = ⟨#[UInt8.ofNat c.toNat]⟩ := by
                  unfold txt
                  rw [if_neg hesc, if_neg (by simp [hr]), if_neg h10, if_neg h92, if_pos ⟨h32, h126⟩]
                refine Ev_yes h126 (Ev_let rfl (Ev_yes (by rw [strOfNums_size]; simp; omega) (next _ ?_)))
                rw [htxt, show c % 256 = c from by omega]
                rfl
              · exact Ev_no h126 (dflt (by omega))
            · exact Ev_no h32 (dflt (by omega))
      · have htxt : txt c = ⟨#[92, 63]⟩ := by
          unfold txt
          rw [if_neg hesc, if_pos (by simpa using hr)]
        exact Ev_no hr (Ev_yes (by omega) (next _ (by rw [htxt])))
theorem rtext_ev (l : List Int) (hw : ∀ c ∈ l, -2147483648 ≤ c ∧ c < 2147483648) (hl : l.length < 1099511627776) : Ev (fun k => redactorref01_Text.f k l) ⟨(l.flatMap txtL).toArray⟩ := by
  unfold redactorref01_Text.f
  have := text_ev0 l [] ⟨#[]⟩ hw (by decide) (by simpa using hl)
  simpa using this
theorem ctext (l : List Int) (hl : l.length < 1099511627776) : cell_Text.f l = some ⟨(l.flatMap txtL).toArray⟩ := by
  unfold cell_Text.f
  rw [if_pos hl]
end Go.Proofs.YtcppmghhijffpaaDoor.Tie
