/- Within and Common, the program's and the document's, are the plain ones. -/
import Derived.Test.YtpnoliognpmkmaaDoorP22
import Derived.Test.YtpnoliognpmkmaaDoorP23
import Derived.Test.YtpnoliognpmkmaaDoorP24
import Derived.Test.YtpnoliognpmkmaaDoorClsG
import Derived.Test.YtpnoliognpmkmaaDoorClsI
namespace Go.Proofs.YtpnoliognpmkmaaDoor
open Go.RowKit P Cls Go.Proofs.YtpnoliognpmkmaaDoorW.PrintWords
set_option linter.unusedVariables false

theorem tl (s : ByteArray) : s.toList = s.data.toList := ByteArray.toList_eq s
theorem hp_eq (a b : ByteArray) : strings_HasPrefix.f a b = some (decide (b.data.toList <+: a.data.toList)) := by
  unfold strings_HasPrefix.f stringslite_HasPrefix.f
  by_cases h : (a.size : Int) ≥ (b.size : Int)
  · rw [if_pos h, if_pos (by omega), if_pos (by omega)]
    simp only [Option.bind_some]
    congr 1
    rw [Bool.eq_iff_iff, beq_iff_eq, decide_eq_true_eq, tl, tl, Lib.extract_from_zero]
    rw [List.prefix_iff_eq_take, ← size_data]
    exact ⟨fun e => e.symm, fun e => e.symm⟩
  · rw [if_neg h]
    simp only [Option.bind_some]
    rw [decide_eq_false]
    intro hp
    have := hp.length_le
    rw [← size_data, ← size_data] at this
    omega
theorem app46 (b : ByteArray) : (b ++ (⟨#[46]⟩ : ByteArray)).data.toList = b.data.toList ++ [46] := by
  rw [ByteArray.data_append]
  simp
theorem within_eq (k : Nat) (a b : ByteArray) (ha : a.size ≤ 1000) (hb : b.size ≤ 1000) (hk : 2000 ≤ k) : classification_Within.f k a b = some (wi a.data.toList b.data.toList) := by
  unfold classification_Within.f
  rw [is_eq k a ha hk, is_eq k b hb hk, hp_eq, app46, tl, tl, wi_prog]
  simp only [Option.bind_some]
  rw [if_pos (show b.size + 1 ≤ 9223372036854775807 by omega)]
  generalize a.data.toList = s
  generalize b.data.toList = t
  by_cases h1 : s = [] <;> by_cases h2 : t = [] <;> by_cases h3 : isB s = true <;> by_cases h4 : isB t = true <;> by_cases h5 : s = t <;> simp [h1, h2, h3, h4, h5]
theorem rw_l0 (a : ByteArray) (l : List ByteArray) (hl : l.length ≤ 1000) : ∀ (c k i : Nat), i + c = l.length → c < k → priceofficeref06_Within.l0 k a l l.length i = some (decide (a.data.toList ∈ tls (l.drop i))) := by
  intro c
  induction c with
  | zero =>
    intro k i h hk
    obtain ⟨k, rfl⟩ : ∃ q, k = q + 1 := ⟨k - 1, by omega⟩
    simp only [priceofficeref06_Within.l0]
    rw [if_neg (by omega), List.drop_eq_nil_of_le (by omega)]
    rfl
  | succ c ih =>
    intro k i h hk
    obtain ⟨k, rfl⟩ : ∃ q, k = q + 1 := ⟨k - 1, by omega⟩
    simp only [priceofficeref06_Within.l0]
    have hi : i < l.length := by omega
    rw [if_pos (by omega), if_pos (by omega), if_pos (by omega), rdOf_get _ hi, List.drop_eq_getElem_cons hi]
    by_cases e : a = l[i]
    · rw [if_pos (by rw [e]), decide_eq_true]
      rw [mem_tls, ← e]
      exact List.mem_cons_self
    · rw [if_neg (fun h => e ((toList_iff _ _).1 h).symm), w64 (x := (i : Int) + 1) (by omega) (by omega), show (i : Int) + 1 = ((i + 1 : Nat) : Int) by omega, ih k (i + 1) (by omega) (by omega)]
      congr 1
      rw [decide_eq_decide, mem_tls, mem_tls, List.mem_cons]
      exact ⟨Or.inr, fun h => h.resolve_left e⟩
theorem tls_bs (l : List (List UInt8)) : tls (l.map bs) = l := by
  unfold tls
  rw [List.map_map]
  conv => rhs; rw [← List.map_id l]
  exact List.map_congr_left fun x _ => rfl
theorem rwithin_eq (k : Nat) (a b : ByteArray) (ha : a.size ≤ 1000) (hb : b.size ≤ 1000) (hk : 2010 ≤ k) : priceofficeref06_Within.f k a b = some (wi a.data.toList b.data.toList) := by
  unfold priceofficeref06_Within.f
  rw [rlevel_eq k a ha (by omega), wi_doc]
  simp only [Option.bind_some]
  obtain ⟨k, rfl⟩ : ∃ q, k = q + 1 := ⟨k - 1, by omega⟩
  have hp := pl_len a.data.toList
  by_cases h1 : lev a.data.toList < 0
  · rw [if_pos h1, if_pos h1]
  · rw [if_neg h1, if_neg h1]
    simp only [priceofficeref06_Within.j0]
    rw [rpath_eq k a ha (by omega)]
    simp only [Option.bind_some]
    rw [show (0 : Int) = ((0 : Nat) : Int) from rfl, rw_l0 b _ (by rw [List.length_map]; omega) _ k 0 (Nat.zero_add _) (by rw [List.length_map]; omega), List.drop_zero]
    rw [tl, tl]
    by_cases h2 : b.data.toList = []
    · simp [h2]
    · by_cases h3 : b.data.toList = a.data.toList
      · simp [h3]
      · rw [if_neg h2, if_neg (by simpa using h3), if_neg (by simp [h2, h3])]
        rw [tls_bs]
theorem common_eq (k : Nat) (a b : ByteArray) (ha : a.size ≤ 1000) (hb : b.size ≤ 1000) (hk : 2000 ≤ k) : classification_Common.f k a b = some (bs (com a.data.toList b.data.toList)) := by
  unfold classification_Common.f
  rw [path_eq k a ha hk]
  simp only [Option.bind_some]
  have hz : ∀ c ∈ pl a.data.toList, c.length ≤ 1000 := fun c hc => by
    rcases code_or a.data.toList with ⟨q, hq, e⟩ | h
    · rw [e] at hc
      obtain ⟨p, h1, ⟨r, rfl⟩, rfl⟩ := (mem_pl hq).1 hc
      have h2 := fmt_append p r h1
      have h3 : a.data.toList.length ≤ 1000 := by rw [← size_data]; exact ha
      rw [e, h2, List.length_append] at h3
      omega
    · rw [pl_no h] at hc; exact absurd hc (by simp)
  have hw : ∀ c ∈ pl a.data.toList, classification_Within.f k b (bs c) = some (wi b.data.toList c) := fun c hc => within_eq k b (bs c) hb (by rw [bs_size]; exact hz c hc) hk
  rw [if_pos ⟨by rw [List.length_map]; have := pl_len a.data.toList; omega, fun c hc => by
    obtain ⟨x, hx, rfl⟩ := List.mem_map.1 hc
    rw [hw x hx]
    rfl⟩, com_prog, ← List.map_reverse]
  have hl : ∀ l : List (List UInt8), (∀ c ∈ l, classification_Within.f k b (bs c) = some (wi b.data.toList c)) → classification_Common.l0 k b (l.map bs) = some (bs ((l.find? (wi b.data.toList)).getD [])) := by
    intro l
    induction l with
    | nil => intro _; rfl
    | cons c l ih =>
      intro h
      simp only [List.map_cons, classification_Common.l0]
      rw [h c (by simp), List.find?_cons]
      simp only [Option.bind_some]
      cases e : wi b.data.toList c
      · simp only [Bool.false_eq_true, if_false]
        exact ih fun x hx => h x (List.mem_cons_of_mem _ hx)
      · simp
  exact hl _ fun c hc => hw c (List.mem_reverse.1 hc)
theorem rcom_l0 (b : ByteArray) (hb : b.size ≤ 1000) (l : List (List UInt8)) (hl : l.length ≤ 1000) (hz : ∀ c ∈ l, c.length ≤ 1000) : ∀ (c k i : Nat) (out : List UInt8), i + c = l.length → c + 2010 < k →
    priceofficeref06_Common.l0 k b (bs out) (l.map bs) l.length i = some (bs ((((l.drop i).filter (wi b.data.toList)).getLast?).getD out)) := by
  intro c
  induction c with
  | zero =>
    intro k i out h hk
    obtain ⟨k, rfl⟩ : ∃ q, k = q + 1 := ⟨k - 1, by omega⟩
    simp only [priceofficeref06_Common.l0]
    rw [if_neg (by omega), List.drop_eq_nil_of_le (by omega)]
    rfl
  | succ c ih =>
    intro k i out h hk
    obtain ⟨k, rfl⟩ : ∃ q, k = q + 1 := ⟨k - 1, by omega⟩
    simp only [priceofficeref06_Common.l0]
    have hi : i < l.length := by omega
    rw [if_pos (by omega), if_pos (by omega), if_pos (by rw [List.length_map]; omega), rdOf_get _ (by rw [List.length_map]; exact hi), List.getElem_map, rwithin_eq k b _ hb (by rw [bs_size]; exact hz _ (List.getElem_mem hi)) (by omega)]
    simp only [Option.bind_some]
    rw [w64 (x := (i : Int) + 1) (by omega) (by omega), show (i : Int) + 1 = ((i + 1 : Nat) : Int) by omega, ih k (i + 1) _ (by omega) (by omega), ih k (i + 1) _ (by omega) (by omega), List.drop_eq_getElem_cons hi, List.filter_cons, bs_data]
    by_cases e : wi b.data.toList l[i] = true
    · rw [if_pos e, if_pos e, List.getLast?_cons]
      congr 2
    · rw [if_neg e, if_neg e]
theorem rcommon_eq (k : Nat) (a b : ByteArray) (ha : a.size ≤ 1000) (hb : b.size ≤ 1000) (hk : 2100 ≤ k) : priceofficeref06_Common.f k a b = some (bs (com a.data.toList b.data.toList)) := by
  unfold priceofficeref06_Common.f
  rw [rpath_eq k a ha (by omega)]
  simp only [Option.bind_some]
  have hz : ∀ c ∈ pl a.data.toList, c.length ≤ 1000 := fun c hc => by
    rcases code_or a.data.toList with ⟨q, hq, e⟩ | h
    · rw [e] at hc
      obtain ⟨p, h1, ⟨r, rfl⟩, rfl⟩ := (mem_pl hq).1 hc
      have h2 := fmt_append p r h1
      have h3 : a.data.toList.length ≤ 1000 := by rw [← size_data]; exact ha
      rw [e, h2, List.length_append] at h3
      omega
    · rw [pl_no h] at hc; exact absurd hc (by simp)
  have hp := pl_len a.data.toList
  rw [List.length_map]
  have := rcom_l0 b hb (pl a.data.toList) (by omega) hz (pl a.data.toList).length k 0 [] (by omega) (by omega)
  rw [List.drop_zero] at this
  exact this
end Go.Proofs.YtpnoliognpmkmaaDoor
