/- What is told of cells may be seen; letters are themselves: for every input. -/
import Derived.Test.YtcppmghhijffpaaDoorTextTie
import Derived.Test.YtcppmghhijffpaaDoorUtfTieC
import Derived.Test.YtcppmghhijffpaaDoorCellBase
import Derived.KernelRfl
import Derived.Test.YtcppmghhijffpaaDoorX16
namespace Go.Proofs.YtcppmghhijffpaaDoor.Pure
open Go.RowKit Go.Proofs.YtcppmghhijffpaaDoor.X Go.Proofs.YtcppmghhijffpaaDoorW.PrintWords Go.Proofs.YtcppmghhijffpaaDoorW.PrintMore Go.Proofs.YtcppmghhijffpaaDoor.Tie
theorem bytes_of {l : List Int} (h : ∀ x ∈ l, (Lit.int .u8 x).wf = true) : ∀ x ∈ l, 0 ≤ x ∧ x < 256 := by
  intro x hx
  have := h x hx
  simp only [Lit.wf, Bool.and_eq_true, decide_eq_true_eq, show IntKind.u8.min = 0 from rfl, show IntKind.u8.max = 255 from rfl] at this
  omega
theorem cellOf_all : (List.range 256).all (fun k => isCell (cellOf (k : Int))) = true := by kernel_rfl
theorem cellOf_is (k : Int) (h0 : 0 ≤ k) (h1 : k < 256) : isCell (cellOf k) = true := by
  have := List.all_eq_true.1 cellOf_all k.toNat (List.mem_range.2 (by omega))
  rwa [Int.toNat_of_nonneg h0] at this
theorem cell_in {c : Int} (h : isCell c = true) : -256 ≤ c ∧ c ≤ 1114111 := by
  unfold isCell at h
  simp at h
  omega
theorem cellsOf_is (l : List Int) (h : ∀ x ∈ l, 0 ≤ x ∧ x < 256) : ∀ c ∈ cellsOf l, isCell c = true := by
  intro c hc
  unfold cellsOf at hc
  obtain ⟨k, hk, rfl⟩ := List.mem_map.1 hc
  have := h k (List.mem_of_mem_take hk)
  exact cellOf_is k this.1 this.2
theorem cOf (s : ByteArray) (hs : s.size < 35184372088832) : cell_Of.f s = some (ofAll s) := by
  unfold cell_Of.f
  rw [if_pos hs]
theorem dch_in (d : Nat) (h : d < 16) : 32 ≤ dch d ∧ dch d ≤ 126 := by
  unfold dch
  split <;> omega
theorem digs_in : ∀ (f n : Nat), n < 16 ^ (f + 1) → ∀ x ∈ digs 16 f n, 32 ≤ x ∧ x ≤ 126 := by
  intro f
  induction f with
  | zero =>
    intro n h x hx
    simp only [digs, List.mem_singleton] at hx
    subst hx
    exact dch_in n (by omega)
  | succ f ih =>
    intro n h x hx
    by_cases hn : n < 16
    · rw [digs_small 16 _ n hn, List.mem_singleton] at hx
      subst hx
      exact dch_in n hn
    · rw [digs_great 16 f n (by omega), List.mem_append, List.mem_singleton] at hx
      rw [Nat.pow_succ] at h
      rcases hx with hx | rfl
      · exact ih (n / 16) (by omega) x hx
      · exact dch_in _ (by omega)
theorem nums_in (l : List Int) (h : ∀ x ∈ l, 32 ≤ x ∧ x ≤ 126) : ∀ b ∈ (strOfNums l).data.toList, 32 ≤ b.toNat ∧ b.toNat ≤ 126 := by
  intro b hb
  simp only [strOfNums, List.mem_map] at hb
  obtain ⟨x, hx, rfl⟩ := hb
  have := h x hx
  rw [UInt8.toNat_ofNat']
  omega
/-- What a cell is told as may be seen. -/
theorem txt_in (c : Int) (hc : c < 4294967296) : ∀ b ∈ txtL c, 32 ≤ b.toNat ∧ b.toNat ≤ 126 := by
  intro b hb
  unfold txtL txt at hb
  split at hb
  · rename_i h
    rw [ByteArray.data_append, Array.toList_append, List.mem_append] at hb
    rcases hb with hb | hb
    · simp only [List.mem_cons, List.not_mem_nil, or_false] at hb
      rcases hb with rfl | rfl <;> decide
    · obtain ⟨n, hn⟩ : ∃ n : Nat, (-1 - c).toNat = n := ⟨_, rfl⟩
      rw [hn, digs_cut n (by omega)] at hb
      refine nums_in _ ?_ b hb
      intro x hx
      simp only [List.mem_cons, List.not_mem_nil, or_false] at hx
      rcases hx with rfl | rfl
      · exact dch_in _ (by omega)
      · exact dch_in _ (by omega)
  · split at hb
    · simp only [List.mem_cons, List.not_mem_nil, or_false] at hb
      rcases hb with rfl | rfl <;> decide
    · split at hb
      · simp only [List.mem_cons, List.not_mem_nil, or_false] at hb
        rcases hb with rfl | rfl <;> decide
      · split at hb
        · simp only [List.mem_cons, List.not_mem_nil, or_false] at hb
          rcases hb with rfl | rfl <;> decide
        · split at hb
          · rename_i h
            simp only [List.mem_cons, List.not_mem_nil, or_false] at hb
            subst hb
            rw [UInt8.toNat_ofNat']
            omega
          · rw [ByteArray.data_append, Array.toList_append, ByteArray.data_append, Array.toList_append, List.mem_append, List.mem_append] at hb
            rcases hb with (hb | hb) | hb
            · simp only [List.mem_cons, List.not_mem_nil, or_false] at hb
              rcases hb with rfl | rfl | rfl <;> decide
            · exact nums_in _ (digs_in 31 c.toNat (Nat.lt_of_lt_of_le (show c.toNat < 4294967296 by omega) (by decide))) b hb
            · simp only [List.mem_cons, List.not_mem_nil, or_false] at hb
              subst hb
              decide
theorem gb_mem (s : ByteArray) (k : Nat) (h : k < s.size) : ∃ b ∈ s.data.toList, gb s k = b.toNat := by
  have hl : k < s.data.toList.length := by simpa using h
  refine ⟨s.data.toList[k], List.getElem_mem hl, ?_⟩
  unfold gb
  rw [← Lib.getD_get!', List.getD_eq_getElem?_getD, List.getElem?_eq_getElem hl]
  rfl
theorem seen_ev (l1 : List Int) (t : ByteArray) (ht : t.size < 9223372036854775807) (hp : ∀ b ∈ t.data.toList, 32 ≤ b.toNat ∧ b.toNat ≤ 126) (he : Ev (fun k => redactorlaw01_CellSeen.l1 k l1 (⟨#[]⟩ : ByteArray) 0) true) :
    ∀ (f i : Nat), t.size ≤ i + f → Ev (fun k => redactorlaw01_CellSeen.l0 k l1 t (i : Int)) true := by
  intro f
  induction f with
  | zero =>
    intro i h
    refine Ev_succ ?_
    simp only [redactorlaw01_CellSeen.l0]
    exact Ev_no (by omega) he
  | succ f ih =>
    intro i h
    refine Ev_succ ?_
    simp only [redactorlaw01_CellSeen.l0]
    by_cases hi : i < t.size
    · obtain ⟨b, hb, hg⟩ := gb_mem t i hi
      have := hp b hb
      rw [bt_gb t i hi, hg, w64 (by omega) (by omega)]
      exact Ev_yes (by omega) (Ev_yes (by omega) (Ev_no (by omega) (Ev_no (by omega) (ih (i + 1) (by omega)))))
    · exact Ev_no (by omega) he
/-- Letters alone. -/
def Lett (s : ByteArray) : Prop := ∀ b ∈ s.data.toList, 97 ≤ b.toNat ∧ b.toNat ≤ 122
theorem lett_text (s : ByteArray) (h : Lett s) : (⟨((ofAll s).flatMap txtL).toArray⟩ : ByteArray) = s := by
  have hof : ofAll s = s.data.toList.map fun b => (b.toNat : Int) := by
    refine ofAll_ascii s ?_
    intro k hk
    obtain ⟨b, hb, hg⟩ := gb_mem s k hk
    have := h b hb
    omega
  have one : ∀ b : UInt8, 97 ≤ b.toNat → b.toNat ≤ 122 → txtL (b.toNat : Int) = [b] := by
    intro b h0 h1
    unfold txtL txt
    have hc : isCell (b.toNat : Int) = true := by
      unfold isCell
      simp
      omega
    rw [if_neg (by omega), if_neg (by simp [hc]), if_neg (by omega), if_neg (by omega), if_pos (by omega)]
    simp
  have go : ∀ l : List UInt8, (∀ b ∈ l, 97 ≤ b.toNat ∧ b.toNat ≤ 122) → (l.map fun b => (b.toNat : Int)).flatMap txtL = l := by
    intro l
    induction l with
    | nil => intro _; rfl
    | cons b l ih =>
      intro hl
      have := hl b (by simp)
      rw [List.map_cons, List.flatMap_cons, one b this.1 this.2, ih (fun x hx => hl x (by simp [hx]))]
      rfl
  rw [hof, go _ h]
theorem lett_end (s : ByteArray) (h : Lett s) (hs : s.size ≤ 60) : Ev (fun k => (redactorlaw01_known.f k).bind fun t => if t = true then ((cell_Of.f s).bind fun a => ((cell_Text.f a).bind fun b => (some (b.toList == s.toList)))) else (some false)) true := by
  have := ofAll_length s
  refine Ev.bind known_ev (Ev_yes rfl (Ev_let (cOf s (by omega)) (Ev_let (ctext _ (by omega)) (Ev_done ?_))))
  rw [lett_text s h]
  exact beq_self_eq_true _
theorem plain_ev (l : List Int) (hl : ∀ x ∈ l, 0 ≤ x ∧ x < 256) (_hn : l.length < 9223372036854775807) : ∀ (f i : Nat) (s : ByteArray), l.length ≤ i + f → Lett s → s.size = i → i ≤ 40 →
    Ev (fun k => redactorlaw01_CellSeen.l1 k l s (i : Int)) true := by
  intro f
  induction f with
  | zero =>
    intro i s h0 h1 h2 h3
    refine Ev_succ ?_
    simp only [redactorlaw01_CellSeen.l1]
    exact Ev_no (by omega) (lett_end s h1 (by omega))
  | succ f ih =>
    intro i s h0 h1 h2 h3
    refine Ev_succ ?_
    simp only [redactorlaw01_CellSeen.l1]
    by_cases hi : i < l.length
    · refine Ev_yes (by omega) ?_
      by_cases h40 : (i : Int) < 40
      · have hx := hl _ (List.getElem_mem hi)
        rw [rd_at l i hi, Int.tmod_eq_emod_of_nonneg hx.1, w64 (by omega) (by omega)]
        have hsz : (strOfNums [(97 + l[i] % 26) % 256]).size = 1 := by rw [strOfNums_size]; rfl
        refine Ev_yes h40 (Ev_yes (by omega) (Ev_let rfl (Ev_yes (by omega) (ih (i + 1) _ (by omega) ?_ (by rw [ByteArray.size_append]; omega) (by omega)))))
        intro b hb
        rw [ByteArray.data_append, Array.toList_append, List.mem_append] at hb
        rcases hb with hb | hb
        · exact h1 b hb
        · simp only [strOfNums, List.map_cons, List.map_nil, List.mem_singleton] at hb
          subst hb
          rw [UInt8.toNat_ofNat']
          omega
      · exact Ev_no h40 (lett_end s h1 (by omega))
    · exact Ev_no (by omega) (lett_end s h1 (by omega))
theorem CellSeen : redactorlaw01_CellSeen.Pure := by
  intro l0 l1 _ n0 h0 _ n1 h1
  refine Ev.rounds ?_
  have e0 := cellsOf_length l0
  unfold redactorlaw01_CellSeen.f
  refine Ev.bind (cells_ev l0 (bytes_of h0) (by omega)) (Ev_let (ctext _ (by omega)) ?_)
  have hp : ∀ b ∈ (cellsOf l0).flatMap txtL, 32 ≤ b.toNat ∧ b.toNat ≤ 126 := by
    intro b hb
    obtain ⟨c, hc, hb⟩ := List.mem_flatMap.1 hb
    have := cell_in (cellsOf_is l0 (bytes_of h0) c hc)
    exact txt_in c (by omega) b hb
  have hlen : ∀ l : List Int, (l.flatMap txtL).length ≤ 64 * l.length := by
    intro l
    induction l with
    | nil => simp
    | cons c l ih =>
      have : (txtL c).length ≤ 64 := by
        have := txt_size c
        unfold txtL
        rw [Array.length_toList]
        exact this
      rw [List.flatMap_cons, List.length_append, List.length_cons]
      omega
  have hsz : (⟨((cellsOf l0).flatMap txtL).toArray⟩ : ByteArray).size = ((cellsOf l0).flatMap txtL).length := by
    show ((cellsOf l0).flatMap txtL).toArray.size = _
    simp
  have := hlen (cellsOf l0)
  refine seen_ev l1 _ (by omega) hp ?_ _ 0 (by rw [Nat.zero_add]; exact Nat.le_refl _)
  exact plain_ev l1 (bytes_of h1) (by omega) l1.length 0 ⟨#[]⟩ (by omega) (by intro b hb; simp at hb) rfl (by omega)
end Go.Proofs.YtcppmghhijffpaaDoor.Pure
