/- Compare of the document; Contains and Validate, the program's and the document's. -/
import Derived.Test.YtpnoliognpmkmaaDoorP14
import Derived.Test.YtpnoliognpmkmaaDoorP17
import Derived.Test.YtpnoliognpmkmaaDoorP18
import Derived.Test.YtpnoliognpmkmaaDoorClsC
import Derived.Test.YtpnoliognpmkmaaDoorClsE
import Derived.Test.YtpnoliognpmkmaaDoorClsF
namespace Go.Proofs.YtpnoliognpmkmaaDoor
open Go.RowKit P Cls Go.Proofs.YtpnoliognpmkmaaDoorW.PrintWords
set_option linter.unusedVariables false

theorem ris_eq (k : Nat) (s : ByteArray) (hs : s.size ≤ 1000) (hk : 2000 ≤ k) : priceofficeref06_Is.f k s = some (isB s.data.toList) := by
  unfold priceofficeref06_Is.f
  rw [rparse_eq k s hs hk]
  rfl
theorem rank_eq (k : Nat) (s : ByteArray) (hs : s.size ≤ 1000) (hk : 2000 ≤ k) : priceofficeref06_rank.f k s = some (kl s.data.toList) := by
  unfold priceofficeref06_rank.f kl
  rw [ByteArray.toList_eq]
  split
  · rfl
  · rw [ris_eq k s hs hk]
    simp only [Option.bind_some]
    split <;> rfl
theorem less_bytes : ∀ a b : List UInt8, (if Op.bytesLess a b = true then (-1 : Int) else if Op.bytesLess b a = true then 1 else 0) = Lib.compareBytes a b
  | [], [] => rfl
  | [], _ :: _ => rfl
  | _ :: _, [] => rfl
  | x :: a, y :: b => by
    have ih := less_bytes a b
    simp only [Op.bytesLess, Lib.compareBytes, Bool.or_eq_true, Bool.and_eq_true, decide_eq_true_eq, beq_iff_eq]
    by_cases h1 : x < y
    · rw [if_pos (Or.inl h1), if_pos h1]
    · rw [if_neg h1]
      by_cases h2 : y < x
      · rw [if_neg, if_pos (Or.inl h2), if_pos h2]
        rintro (h | ⟨h, _⟩)
        · exact h1 h
        · subst h
          exact h1 h2
      · have e : x = y := by
          apply UInt8.toNat_inj.1
          rw [UInt8.lt_iff_toNat_lt] at h1 h2
          omega
        subst e
        rw [if_neg h1, ← ih]
        simp [h1]
theorem rcmp_l0 (x y : List Int) (hx : x.length ≤ 1000) (hy : y.length ≤ 1000) : ∀ (c k i : Nat), i + c = x.length → 2 * c + 1 < k → i ≤ y.length →
    priceofficeref06_Compare.l0 k x y i = some (lexi (x.drop i) (y.drop i)) := by
  intro c
  induction c with
  | zero =>
    intro k i h hk hi
    obtain ⟨k, rfl⟩ : ∃ q, k = q + 2 := ⟨k - 2, by omega⟩
    rw [priceofficeref06_Compare.l0, if_neg (by omega), priceofficeref06_Compare.j1, if_neg (by decide), List.drop_eq_nil_of_le (show x.length ≤ i by omega)]
    unfold priceofficeref06_order.f
    by_cases hl : x.length < y.length
    · rw [if_pos (by omega), List.drop_eq_getElem_cons (show i < y.length by omega)]
      rfl
    · rw [if_neg (by omega), if_neg (by omega), List.drop_eq_nil_of_le (show y.length ≤ i by omega)]
      rfl
  | succ c ih =>
    intro k i h hk hi
    obtain ⟨k, rfl⟩ : ∃ q, k = q + 2 := ⟨k - 2, by omega⟩
    have hix : i < x.length := by omega
    rw [priceofficeref06_Compare.l0, if_pos (by omega), priceofficeref06_Compare.j1]
    by_cases hl : i < y.length
    · rw [if_pos (by simpa using hl), if_pos (by omega), if_pos (by omega), if_pos (by omega), rd_get hix, rd_get hl, List.drop_eq_getElem_cons hix, List.drop_eq_getElem_cons hl]
      simp only [lexi]
      unfold priceofficeref06_order.f
      by_cases he : x[i] = y[i]
      · rw [if_pos he, w64 (x := (i : Int) + 1) (by omega) (by omega), show (i : Int) + 1 = ((i + 1 : Nat) : Int) by omega, ih k (i + 1) (by omega) (by omega) (by omega), if_neg (by omega), if_neg (by omega)]
      · rw [if_neg he]
        by_cases h1 : x[i] < y[i]
        · rw [if_pos h1, if_pos h1]; rfl
        · rw [if_neg h1, if_neg h1, if_pos (by omega), if_pos (by omega)]; rfl
    · rw [if_neg (by simpa using hl), List.drop_eq_getElem_cons hix, List.drop_eq_nil_of_le (show y.length ≤ i by omega)]
      unfold priceofficeref06_order.f
      rw [if_neg (by omega), if_pos (by omega)]
      rfl
theorem rcompare_eq (k : Nat) (a b : ByteArray) (ha : a.size ≤ 1000) (hb : b.size ≤ 1000) (hk : 2000 ≤ k) : priceofficeref06_Compare.f k a b = some (cmpS a.data.toList b.data.toList) := by
  unfold priceofficeref06_Compare.f
  rw [rank_eq k a ha hk, rank_eq k b hb hk, rparse_eq k a ha hk, rparse_eq k b hb hk]
  simp only [Option.bind_some]
  have hla := pr_len a.data.toList
  have hlb := pr_len b.data.toList
  unfold priceofficeref06_order.f
  by_cases h : kl a.data.toList = kl b.data.toList
  · rw [if_neg (by omega), if_neg (by omega)]
    simp only [Option.bind_some, if_true]
    by_cases h1 : kl a.data.toList = 1
    · rw [if_pos h1, show (0 : Int) = ((0 : Nat) : Int) from rfl, rcmp_l0 _ _ (by omega) (by omega) _ k 0 (Nat.zero_add _) (by omega) (by omega)]
      unfold cmpS keyOf
      rw [if_pos h1, if_pos (h ▸ h1), h]
      simp [lexi]
    · rw [if_neg h1]
      have e := less_bytes a.data.toList b.data.toList
      rw [← ByteArray.toList_eq, ← ByteArray.toList_eq] at e
      unfold cmpS keyOf
      rw [if_neg (show ¬ kl a.data.toList = 1 from h1), if_neg (show ¬ kl b.data.toList = 1 from h ▸ h1), h]
      simp only [lexi, Int.lt_irrefl, if_false]
      rw [← bytes_lexi, ← ByteArray.toList_eq, ← ByteArray.toList_eq, ← e]
      split
      · rfl
      · split <;> rfl
  · by_cases h1 : kl a.data.toList < kl b.data.toList
    · rw [if_pos h1]
      simp only [Option.bind_some]
      rw [if_neg (by decide)]
      unfold cmpS keyOf
      simp only [lexi]
      rw [if_pos h1]
    · rw [if_neg h1, if_pos (by omega)]
      simp only [Option.bind_some]
      rw [if_neg (by decide)]
      unfold cmpS keyOf
      simp only [lexi]
      rw [if_neg h1, if_pos (by omega)]
/-! Contains -/
def tls (l : List ByteArray) : List (List UInt8) := l.map fun s => s.data.toList
theorem mem_tls (l : List ByteArray) (s : ByteArray) : s.data.toList ∈ tls l ↔ s ∈ l := by
  unfold tls
  rw [List.mem_map]
  exact ⟨fun ⟨a, h, e⟩ => data_inj e ▸ h, fun h => ⟨s, h, rfl⟩⟩
theorem index_l0 (l : List ByteArray) (s : ByteArray) (hl : l.length ≤ 100000) : ∀ (c k i : Nat), i + c = l.length → c < k →
    ∃ t, slices_Index_string_string.l0 k l s l.length i = some t ∧ (t ≥ 0 ↔ s ∈ l.drop i) := by
  intro c
  induction c with
  | zero =>
    intro k i h hk
    obtain ⟨k, rfl⟩ : ∃ q, k = q + 1 := ⟨k - 1, by omega⟩
    simp only [slices_Index_string_string.l0]
    rw [if_neg (by omega), List.drop_eq_nil_of_le (by omega)]
    exact ⟨-1, rfl, by simp⟩
  | succ c ih =>
    intro k i h hk
    obtain ⟨k, rfl⟩ : ∃ q, k = q + 1 := ⟨k - 1, by omega⟩
    simp only [slices_Index_string_string.l0]
    have hi : i < l.length := by omega
    rw [if_pos (by omega), if_pos (by omega), if_pos (by omega), rdOf_get _ hi, List.drop_eq_getElem_cons hi]
    by_cases e : s = l[i]
    · rw [if_pos (by rw [e])]
      exact ⟨i, rfl, fun _ => by rw [e]; exact List.mem_cons_self, fun _ => by omega⟩
    · rw [if_neg (fun h => e ((toList_iff _ _).1 h)), w64 (x := (i : Int) + 1) (by omega) (by omega), show (i : Int) + 1 = ((i + 1 : Nat) : Int) by omega]
      obtain ⟨t, h1, h2⟩ := ih k (i + 1) (by omega) (by omega)
      exact ⟨t, h1, by rw [h2, List.mem_cons]; exact ⟨Or.inr, fun h => h.resolve_left e⟩⟩
theorem contains_eq (k : Nat) (l : List ByteArray) (s : ByteArray) (hl : l.length ≤ 100000) (hk : l.length < k) : slices_Contains_string_string.f k l s = some (decide (s.data.toList ∈ tls l)) := by
  unfold slices_Contains_string_string.f slices_Index_string_string.f
  obtain ⟨t, h1, h2⟩ := index_l0 l s hl l.length k 0 (by omega) hk
  rw [show (0 : Int) = ((0 : Nat) : Int) from rfl, h1]
  simp only [Option.bind_some]
  congr 1
  rw [decide_eq_decide, mem_tls]
  simpa using h2
theorem has_l0 (l : List ByteArray) (s : ByteArray) (hl : l.length ≤ 100000) : ∀ (c k i : Nat), i + c = l.length → c < k → priceofficeref06_has.l0 k s l l.length i = some (decide (s.data.toList ∈ tls (l.drop i))) := by
  intro c
  induction c with
  | zero =>
    intro k i h hk
    obtain ⟨k, rfl⟩ : ∃ q, k = q + 1 := ⟨k - 1, by omega⟩
    simp only [priceofficeref06_has.l0]
    rw [if_neg (by omega), List.drop_eq_nil_of_le (by omega)]
    rfl
  | succ c ih =>
    intro k i h hk
    obtain ⟨k, rfl⟩ : ∃ q, k = q + 1 := ⟨k - 1, by omega⟩
    simp only [priceofficeref06_has.l0]
    have hi : i < l.length := by omega
    rw [if_pos (by omega), if_pos (by omega), if_pos (by omega), rdOf_get _ hi, List.drop_eq_getElem_cons hi]
    by_cases e : s = l[i]
    · rw [if_pos (by rw [e]), decide_eq_true]
      rw [mem_tls, e]
      exact List.mem_cons_self
    · rw [if_neg (fun h => e ((toList_iff _ _).1 h).symm), w64 (x := (i : Int) + 1) (by omega) (by omega), show (i : Int) + 1 = ((i + 1 : Nat) : Int) by omega, ih k (i + 1) (by omega) (by omega)]
      congr 1
      rw [decide_eq_decide, mem_tls, mem_tls, List.mem_cons]
      exact ⟨Or.inr, fun h => h.resolve_left e⟩
theorem has_eq (k : Nat) (l : List ByteArray) (s : ByteArray) (hl : l.length ≤ 100000) (hk : l.length < k) : priceofficeref06_has.f k l s = some (decide (s.data.toList ∈ tls l)) := by
  unfold priceofficeref06_has.f
  rw [show (0 : Int) = ((0 : Nat) : Int) from rfl, has_l0 l s hl l.length k 0 (by omega) hk, List.drop_zero]
/-! Validate -/
def valI (l : List (List UInt8)) : Nat → Nat → Int
  | 0, _ => 0
  | c + 1, i => if isB (l.getD i []) = true then (if 0 < i ∧ cmpS (l.getD (i - 1) []) (l.getD i []) ≥ 0 then 62 else if (par (l.getD i [])).1 = [] ∨ (par (l.getD i [])).1 ∈ l.take i then valI l c (i + 1) else 63) else 60
def val (l : List (List UInt8)) : Int := if l.length < 1 ∨ 200 < l.length then 61 else valI l l.length 0
theorem tls_getD (l : List ByteArray) (i : Nat) (h : i < l.length) : (tls l).getD i [] = l[i].data.toList := by
  simp [tls, List.getD_eq_getElem?_getD, h]
theorem tls_take (l : List ByteArray) (i : Nat) : tls (l.take i) = (tls l).take i := by simp [tls, List.map_take]
theorem tls_length (l : List ByteArray) : (tls l).length = l.length := by simp [tls]
theorem par_snd (s : List UInt8) : (par s).2 = isB s := by
  unfold par
  split
  · rename_i h; rw [h]
  · rename_i h; simp at h; rw [h]
theorem val_l0 (nm : ByteArray) (l : List ByteArray) (hl : l.length ≤ 200) (hz : ∀ s ∈ l, s.size ≤ 1000) : ∀ (c k i : Nat), i + c = l.length → 2 * c + 2300 ≤ k →
    classification_Validate.l0 k l l.length i nm l = some (valI (tls l) c i) := by
  intro c
  induction c with
  | zero =>
    intro k i h hk
    obtain ⟨k, rfl⟩ : ∃ q, k = q + 1 := ⟨k - 1, by omega⟩
    rw [classification_Validate.l0, if_neg (by omega)]
    rfl
  | succ c ih =>
    intro k i h hk
    obtain ⟨k, rfl⟩ : ∃ q, k = q + 2 := ⟨k - 2, by omega⟩
    have hi : i < l.length := by omega
    have hzi := hz _ (List.getElem_mem hi)
    rw [classification_Validate.l0, if_pos (by omega), if_pos (by omega), if_pos (by omega), rdOf_get _ hi, parent_eq (k + 1) _ hzi (by omega)]
    simp only [Option.bind_some, par_snd, valI, tls_getD l i hi]
    by_cases hb : isB l[i].data.toList = true
    · rw [if_pos hb, if_pos hb]
      have tail : classification_Validate.j2 (k + 1) i (bs (par l[i].data.toList).1) l l.length i false nm l = some (if (par l[i].data.toList).1 = [] ∨ (par l[i].data.toList).1 ∈ (tls l).take i then valI (tls l) c (i + 1) else 63) := by
        rw [classification_Validate.j2, if_neg (by decide)]
        have nxt : classification_Validate.l0 k l l.length (wrap64 ((i : Int) + 1)) nm l = some (valI (tls l) c (i + 1)) := by
          rw [w64 (x := (i : Int) + 1) (by omega) (by omega), show (i : Int) + 1 = ((i + 1 : Nat) : Int) by omega]
          exact ih k (i + 1) (by omega) (by omega)
        rw [bs_toList, nxt]
        by_cases hp : (par l[i].data.toList).1 = []
        · rw [if_pos hp, if_pos (Or.inl hp)]
        · rw [if_neg hp, if_pos (by omega), if_pos (by omega), show ((i : Nat) : Int).toNat = i from rfl, contains_eq k _ _ (by rw [List.length_take]; omega) (by rw [List.length_take]; omega), bs_data, tls_take]
          simp only [Option.bind_some, decide_eq_true_eq]
          by_cases hm : (par l[i].data.toList).1 ∈ (tls l).take i
          · rw [if_pos hm, if_pos (Or.inr hm)]
          · rw [if_neg hm, if_neg (by rintro (h | h); exact hp h; exact hm h)]
      by_cases h0 : 0 < i
      · rw [if_pos (by omega), w64 (x := (i : Int) - 1) (by omega) (by omega), if_pos (by omega), if_pos (by omega), show (i : Int) - 1 = ((i - 1 : Nat) : Int) by omega, rdOf_get _ (show i - 1 < l.length by omega), compare_eq (k + 1) _ _ (hz _ (List.getElem_mem _)) hzi (by omega)]
        simp only [Option.bind_some, tls_getD l (i - 1) (show i - 1 < l.length by omega)]
        by_cases hc : cmpS (l[i - 1]'(by omega)).data.toList l[i].data.toList ≥ 0
        · rw [if_pos ⟨h0, hc⟩, decide_eq_true hc, classification_Validate.j2, if_pos rfl]
        · rw [if_neg (fun h => hc h.2), decide_eq_false hc, tail]
      · rw [if_neg (by omega), if_neg (fun h => h0 h.1), tail]
    · rw [if_neg hb, if_neg hb]
theorem validate_eq (k : Nat) (nm : ByteArray) (l : List ByteArray) (hz : ∀ s ∈ l, s.size ≤ 1000) (hk : 3000 ≤ k) : classification_Validate.f k nm l = some (val (tls l)) := by
  obtain ⟨k, rfl⟩ : ∃ q, k = q + 1 := ⟨k - 1, by omega⟩
  unfold classification_Validate.f val
  rw [tls_length]
  by_cases h1 : (l.length : Int) < 1
  · rw [if_pos h1, if_pos (Or.inl (by omega)), classification_Validate.j0, if_pos rfl]
  · rw [if_neg h1, classification_Validate.j0]
    by_cases h2 : (l.length : Int) > 200
    · rw [if_pos (by simpa using h2), if_pos (Or.inr (by omega))]
    · rw [if_neg (by simpa using h2), if_neg (by omega), show (0 : Int) = ((0 : Nat) : Int) from rfl, val_l0 nm l (by omega) hz l.length k 0 (by omega) (by omega)]
theorem rval_l0 (nm : ByteArray) (l : List ByteArray) (hl : l.length ≤ 200) (hz : ∀ s ∈ l, s.size ≤ 1000) : ∀ (c k i : Nat), i + c = l.length → 2 * c + 2300 ≤ k →
    priceofficeref06_Validate.l0 k l l.length i nm l = some (valI (tls l) c i) := by
  intro c
  induction c with
  | zero =>
    intro k i h hk
    obtain ⟨k, rfl⟩ : ∃ q, k = q + 1 := ⟨k - 1, by omega⟩
    rw [priceofficeref06_Validate.l0, if_neg (by omega)]
    rfl
  | succ c ih =>
    intro k i h hk
    obtain ⟨k, rfl⟩ : ∃ q, k = q + 2 := ⟨k - 2, by omega⟩
    have hi : i < l.length := by omega
    have hzi := hz _ (List.getElem_mem hi)
    rw [priceofficeref06_Validate.l0, if_pos (by omega), if_pos (by omega), if_pos (by omega), rdOf_get _ hi, ris_eq (k + 1) _ hzi (by omega)]
    simp only [Option.bind_some, valI, tls_getD l i hi]
    by_cases hb : isB l[i].data.toList = true
    · rw [if_pos hb, if_pos hb]
      have tail : priceofficeref06_Validate.j2 (k + 1) i l[i] l l.length i false nm l = some (if (par l[i].data.toList).1 = [] ∨ (par l[i].data.toList).1 ∈ (tls l).take i then valI (tls l) c (i + 1) else 63) := by
        rw [priceofficeref06_Validate.j2, if_neg (by decide), rparent_eq k _ hzi (by omega)]
        simp only [Option.bind_some]
        have nxt : priceofficeref06_Validate.l0 k l l.length (wrap64 ((i : Int) + 1)) nm l = some (valI (tls l) c (i + 1)) := by
          rw [w64 (x := (i : Int) + 1) (by omega) (by omega), show (i : Int) + 1 = ((i + 1 : Nat) : Int) by omega]
          exact ih k (i + 1) (by omega) (by omega)
        rw [bs_toList, nxt]
        by_cases hp : (par l[i].data.toList).1 = []
        · rw [if_pos hp, if_pos (Or.inl hp)]
        · rw [if_neg hp, if_pos (by omega), if_pos (by omega), show ((i : Nat) : Int).toNat = i from rfl, has_eq k _ _ (by rw [List.length_take]; omega) (by rw [List.length_take]; omega), bs_data, tls_take]
          simp only [Option.bind_some, decide_eq_true_eq]
          by_cases hm : (par l[i].data.toList).1 ∈ (tls l).take i
          · rw [if_pos hm, if_pos (Or.inr hm)]
          · rw [if_neg hm, if_neg (by rintro (h | h); exact hp h; exact hm h)]
      by_cases h0 : 0 < i
      · rw [if_pos (by omega), w64 (x := (i : Int) - 1) (by omega) (by omega), if_pos (by omega), if_pos (by omega), show (i : Int) - 1 = ((i - 1 : Nat) : Int) by omega, rdOf_get _ (show i - 1 < l.length by omega), rcompare_eq (k + 1) _ _ (hz _ (List.getElem_mem _)) hzi (by omega)]
        simp only [Option.bind_some, tls_getD l (i - 1) (show i - 1 < l.length by omega)]
        by_cases hc : cmpS (l[i - 1]'(by omega)).data.toList l[i].data.toList ≥ 0
        · rw [if_pos ⟨h0, hc⟩, decide_eq_true hc, priceofficeref06_Validate.j2, if_pos rfl]
        · rw [if_neg (fun h => hc h.2), decide_eq_false hc, tail]
      · rw [if_neg (by omega), if_neg (fun h => h0 h.1), tail]
    · rw [if_neg hb, if_neg hb]
theorem rvalidate_eq (k : Nat) (nm : ByteArray) (l : List ByteArray) (hz : ∀ s ∈ l, s.size ≤ 1000) (hk : 3000 ≤ k) : priceofficeref06_Validate.f k nm l = some (val (tls l)) := by
  obtain ⟨k, rfl⟩ : ∃ q, k = q + 1 := ⟨k - 1, by omega⟩
  unfold priceofficeref06_Validate.f val
  rw [tls_length]
  by_cases h1 : (l.length : Int) < 1
  · rw [if_pos h1, if_pos (Or.inl (by omega)), priceofficeref06_Validate.j0, if_pos rfl]
  · rw [if_neg h1, priceofficeref06_Validate.j0]
    by_cases h2 : (l.length : Int) > 200
    · rw [if_pos (by simpa using h2), if_pos (Or.inr (by omega))]
    · rw [if_neg (by simpa using h2), if_neg (by omega), show (0 : Int) = ((0 : Nat) : Int) from rfl, rval_l0 nm l (by omega) hz l.length k 0 (by omega) (by omega)]
end Go.Proofs.YtpnoliognpmkmaaDoor
