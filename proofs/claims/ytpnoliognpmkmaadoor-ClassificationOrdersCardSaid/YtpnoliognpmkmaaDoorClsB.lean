/- The printed functions of the program that read and write codes, as the plain ones. -/
import Derived.Test.YtpnoliognpmkmaaDoorP1
import Derived.Test.YtpnoliognpmkmaaDoorClsA
namespace Go.Proofs.YtpnoliognpmkmaaDoor
open Go.RowKit P Cls Go.Proofs.YtpnoliognpmkmaaDoorW.PrintWords
set_option linter.unusedVariables false

theorem w64 {x : Int} (h0 : -9223372036854775808 ≤ x) (h1 : x ≤ 9223372036854775807) : wrap64 x = x := by unfold wrap64; omega
def bs (l : List UInt8) : ByteArray := ⟨l.toArray⟩
theorem bs_data (l : List UInt8) : (bs l).data.toList = l := rfl
theorem bs_toList (l : List UInt8) : (bs l).toList = l := ByteArray.toList_eq _
theorem bs_of (s : ByteArray) : bs s.data.toList = s := rfl
theorem bs_size (l : List UInt8) : (bs l).size = l.length := by simp [bs, ByteArray.size]
theorem size_data (s : ByteArray) : s.size = s.data.toList.length := by show s.data.size = _; rw [Array.length_toList]
theorem data_inj {a b : ByteArray} (h : a.data.toList = b.data.toList) : a = b := by
  obtain ⟨⟨a⟩⟩ := a
  obtain ⟨⟨b⟩⟩ := b
  simp at h
  rw [h]
theorem bs_append (a b : List UInt8) : bs a ++ bs b = bs (a ++ b) := by
  apply data_inj
  simp [bs]
theorem toList_iff (a b : ByteArray) : a.toList = b.toList ↔ a = b := by
  rw [ByteArray.toList_eq, ByteArray.toList_eq]
  exact ⟨data_inj, fun h => by rw [h]⟩
theorem rd_get {l : List Int} {i : Nat} (h : i < l.length) : rd l (i : Int) = l[i] := by
  unfold rd
  simp [List.getD_eq_getElem?_getD, h]

/-! Format -/
theorem foldl_min_le (l : List Int) : ∀ a : Int, (l.foldl min a ≤ a) ∧ (∀ x ∈ l, l.foldl min a ≤ x) ∧ (l.foldl min a = a ∨ l.foldl min a ∈ l) := by
  induction l with
  | nil => intro a; simp
  | cons y l ih =>
    intro a
    obtain ⟨h1, h2, h3⟩ := ih (min a y)
    simp only [List.foldl_cons, List.mem_cons, forall_eq_or_imp]
    refine ⟨by omega, ⟨by omega, h2⟩, ?_⟩
    rcases h3 with h | h
    · rw [h]
      by_cases c : a ≤ y
      · left; omega
      · right; left; omega
    · right; right; exact h
theorem foldl_max_ge (l : List Int) : ∀ a : Int, (a ≤ l.foldl max a) ∧ (∀ x ∈ l, x ≤ l.foldl max a) ∧ (l.foldl max a = a ∨ l.foldl max a ∈ l) := by
  induction l with
  | nil => intro a; simp
  | cons y l ih =>
    intro a
    obtain ⟨h1, h2, h3⟩ := ih (max a y)
    simp only [List.foldl_cons, List.mem_cons, forall_eq_or_imp]
    refine ⟨by omega, ⟨by omega, h2⟩, ?_⟩
    rcases h3 with h | h
    · rw [h]
      by_cases c : y ≤ a
      · left; omega
      · right; left; omega
    · right; right; exact h
theorem minOf_spec {l : List Int} (h : 0 < l.length) : Lib.minOf l ∈ l ∧ ∀ x ∈ l, Lib.minOf l ≤ x := by
  cases l with
  | nil => simp at h
  | cons a l =>
    obtain ⟨h1, h2, h3⟩ := foldl_min_le (a :: l) a
    unfold Lib.minOf
    simp only [List.headD_cons]
    refine ⟨?_, h2⟩
    rcases h3 with h | h
    · rw [h]; simp
    · exact h
theorem maxOf_spec {l : List Int} (h : 0 < l.length) : Lib.maxOf l ∈ l ∧ ∀ x ∈ l, x ≤ Lib.maxOf l := by
  cases l with
  | nil => simp at h
  | cons a l =>
    obtain ⟨h1, h2, h3⟩ := foldl_max_ge (a :: l) a
    unfold Lib.maxOf
    simp only [List.headD_cons]
    refine ⟨?_, h2⟩
    rcases h3 with h | h
    · rw [h]; simp
    · exact h
/-- what Format answers -/
def fm (ps : List Int) : ByteArray × Int := if good ps then (bs (fmt ps), 0) else (bs [], 64)
theorem itoa_f {n : Int} (h : okP n) : strconv_Itoa.f n = some (bs (tx1 n)) := by
  unfold strconv_Itoa.f
  have := h.1
  have := h.2
  rw [if_pos ⟨by omega, by omega⟩]
  simp only [itoaB, itoa_tx1 n h]
  rfl
theorem tx2_len (n : Int) : (tx2 n).length = 2 := rfl
theorem tx1_len (n : Int) : 1 ≤ (tx1 n).length ∧ (tx1 n).length ≤ 2 := by
  unfold tx1
  split <;> simp [tx2_len]
theorem fmtTail_len : ∀ q : List Int, (fmtTail q).length ≤ 3 * q.length
  | [] => by simp [fmtTail]
  | n :: r => by
    have := fmtTail_len r
    have := (tx1_len n).2
    simp only [fmtTail, List.length_cons, List.length_append]
    omega
theorem fmt_len (q : List Int) : (fmt q).length ≤ 3 * q.length := by
  cases q with
  | nil => simp [fmt]
  | cons n r =>
    have := fmtTail_len r
    simp only [fmt, List.length_cons, List.length_append, tx2_len]
    omega
theorem format_l0 : ∀ (c : Nat) (k : Nat) (acc : List UInt8) (l : List Int) (i : Nat), i + c = l.length → c < k → acc.length ≤ 1000 → l.length ≤ 100 → (∀ n ∈ l, okP n) → acc.length + 3 * c ≤ 1000 →
    classification_Format.l0 k (bs acc) l l.length i = some (bs (acc ++ fmtTail (l.drop i)), 0) := by
  intro c
  induction c with
  | zero =>
    intro k acc l i h hk _ _ _ _
    obtain ⟨k, rfl⟩ : ∃ q, k = q + 1 := ⟨k - 1, by omega⟩
    simp only [classification_Format.l0]
    rw [if_neg (by omega), List.drop_eq_nil_of_le (by omega)]
    simp [fmtTail]
  | succ c ih =>
    intro k acc l i h hk ha hl ho hb
    obtain ⟨k, rfl⟩ : ∃ q, k = q + 1 := ⟨k - 1, by omega⟩
    simp only [classification_Format.l0]
    have hi : i < l.length := by omega
    have hok := ho l[i] (List.getElem_mem hi)
    rw [if_pos (by omega), if_pos (by omega), if_pos (by omega), rd_get hi, itoa_f hok]
    simp only [Option.bind_some]
    have hs := (tx1_len l[i]).2
    rw [if_pos (by rw [bs_size]; omega), show ((⟨#[46]⟩ : ByteArray) ++ bs (tx1 l[i])) = bs (46 :: tx1 l[i]) from bs_append [46] _, if_pos (by rw [bs_size, bs_size, List.length_cons]; omega), bs_append, w64 (x := (i : Int) + 1) (by omega) (by omega)]
    rw [show ((i : Int) + 1) = ((i + 1 : Nat) : Int) by omega, ih k _ l (i + 1) (by omega) (by omega) (by simp; omega) hl ho (by simp; omega)]
    rw [List.drop_eq_getElem_cons hi]
    simp [fmtTail]
theorem format_eq (k : Nat) (hk : 110 ≤ k) (ps : List Int) : classification_Format.f k ps = some (fm ps) := by
  obtain ⟨k, rfl⟩ : ∃ q, k = q + 2 := ⟨k - 2, by omega⟩
  unfold classification_Format.f fm
  by_cases h1 : (ps.length : Int) < 1
  · rw [if_pos h1, if_neg (fun h => by have := h.1; omega)]
    rfl
  rw [if_neg h1]
  by_cases h5 : (ps.length : Int) > 5
  · rw [if_pos h5, if_neg (fun h => by have := h.2.1; omega)]
    rfl
  rw [if_neg h5]
  have hl : 0 < ps.length := by omega
  have hmn := minOf_spec hl
  have hmx := maxOf_spec hl
  unfold slices_Min_int_int.f slices_Max_int_int.f
  rw [if_pos ⟨hl, by omega⟩]
  simp only [Option.bind_some]
  by_cases hm : Lib.minOf ps < 1
  · rw [if_pos hm, if_neg (fun h => by have := (h.2.2 _ hmn.1).1; omega)]
    rfl
  rw [if_neg hm, if_pos (show 0 < ps.length ∧ ps.length ≤ 9223372036854775807 from ⟨hl, by omega⟩)]
  simp only [Option.bind_some, classification_Format.j0]
  by_cases hx : Lib.maxOf ps > 99
  · rw [if_pos (by simpa using hx), if_neg (fun h => by have := (h.2.2 _ hmx.1).2; omega)]
    rfl
  rw [if_neg (by simpa using hx)]
  have hg : good ps := ⟨by omega, by omega, fun n hn => ⟨by have := hmn.2 n hn; omega, by have := hmx.2 n hn; omega⟩⟩
  rw [if_pos hg, if_pos (by omega)]
  cases ps with
  | nil => simp at hl
  | cons n r =>
    have hn := hg.2.2 n (by simp)
    have hr : ∀ x ∈ r, okP x := fun x hx => hg.2.2 x (by simp [hx])
    have hlen : r.length ≤ 4 := by have := hg.2.1; simp at this; omega
    have e0 : rd (n :: r) 0 = n := rfl
    rw [e0, itoa_f hn]
    simp only [Option.bind_some]
    have hj : ∀ acc : List UInt8, acc.length ≤ 100 → classification_Format.j1 (k + 1) (n :: r) (bs acc) = some (bs (acc ++ fmtTail r), 0) := by
      intro acc hacc
      simp only [classification_Format.j1]
      rw [if_pos (by simp only [List.length_cons]; omega), show (n :: r).drop 1 = r from rfl]
      have := format_l0 r.length k acc r 0 (by omega) (by omega) (by omega) (by omega) hr (by omega)
      simpa using this
    have hs := (tx1_len n).2
    split
    · rename_i hlt
      rw [if_pos (by rw [bs_size]; omega), show ((⟨#[48]⟩ : ByteArray) ++ bs (tx1 n)) = bs (48 :: tx1 n) from bs_append [48] _, hj _ (by simp; omega)]
      have e : (48 : UInt8) :: tx1 n = tx2 n := by
        have := hn.1
        unfold tx1 tx2
        rw [if_pos hlt, show n / 10 = 0 by omega, show n % 10 = n by omega]
        rfl
      rw [e]
      rfl
    · rename_i hlt
      rw [hj _ (by omega)]
      have e : tx1 n = tx2 n := by unfold tx1; rw [if_neg hlt]
      rw [e]
      rfl

/-! Parse -/
theorem split_f (s : ByteArray) (hs : s.size ≤ 100000) : ∃ ws : List ByteArray, strings_Split.f s (⟨#[46]⟩ : ByteArray) = some ws ∧ ws.map (·.data.toList) = Lib.split s.data.toList [46] ∧ ws.length ≤ s.size + 1 := by
  unfold strings_Split.f
  rw [if_pos ⟨by omega, by decide⟩]
  refine ⟨_, rfl, ?_, ?_⟩
  · unfold splitL Lib.split
    rw [Lib.splitB_data]
  · unfold splitL
    have := Lib.splitB_all (⟨#[46]⟩ : ByteArray) (by decide) 0 _ s rfl
    have := Lib.countB_le (⟨#[46]⟩ : ByteArray) (by decide) _ s (Nat.le_refl _)
    omega
theorem split_sizes {s : ByteArray} {ws : List ByteArray} (h : ws.map (·.data.toList) = Lib.split s.data.toList [46]) (hs : s.size ≤ 100000) : ∀ x ∈ ws, x.size ≤ 281474976710656 := by
  have hk : ∀ (k : Nat) (l : List UInt8), ∀ w ∈ Lib.splitK [46] 0 k l, w.length ≤ l.length := by
    intro k
    induction k with
    | zero => intro l w hw; simp only [Lib.splitK, List.mem_singleton] at hw; rw [hw]; exact Nat.le_refl _
    | succ k ih =>
      intro l w hw
      simp only [Lib.splitK] at hw
      split at hw
      · simp only [List.mem_singleton] at hw; rw [hw]; exact Nat.le_refl _
      · rcases List.mem_cons.1 hw with e | e
        · rw [e]; simp only [List.length_take]; omega
        · have := ih _ w e
          simp only [List.length_drop] at this
          omega
  intro x hx
  have hm : x.data.toList ∈ Lib.split s.data.toList [46] := by rw [← h]; exact List.mem_map_of_mem hx
  have := hk _ _ _ hm
  rw [size_data] at hs ⊢
  omega
theorem parse_l0 (s : ByteArray) (ws : List ByteArray) (hz : ∀ x ∈ ws, x.size ≤ 281474976710656) (hw : ws.length ≤ 100001) : ∀ (c k i : Nat) (acc : List Int), i + c = ws.length → c + 120 ≤ k → acc.length = i →
    classification_Parse.l0 k s acc ws ws.length i = (let ps := acc ++ (ws.drop i).map (fun x => numL x.data.toList); if good ps ∧ fmt ps = s.data.toList then some (ps, 0) else some ([], 60)) := by
  intro c
  induction c with
  | zero =>
    intro k i acc h hk ha
    obtain ⟨k, rfl⟩ : ∃ q, k = q + 1 := ⟨k - 1, by omega⟩
    simp only [classification_Parse.l0]
    rw [if_neg (by omega), format_eq k (by omega), List.drop_eq_nil_of_le (by omega)]
    simp only [Option.bind_some, List.map_nil, List.append_nil, fm]
    by_cases hg : good acc
    · rw [if_pos hg]
      simp only [if_true, ByteArray.toList_eq, bs_data]
      by_cases e : fmt acc = s.data.toList
      · rw [if_pos e, if_pos ⟨hg, e⟩]
      · rw [if_neg e, if_neg (fun h => e h.2)]
    · rw [if_neg hg, if_neg (show ¬ (good acc ∧ fmt acc = s.data.toList) from fun h => hg h.1), if_neg (show ¬ ((bs [], (64 : Int)).2 = 0) by decide)]
  | succ c ih =>
    intro k i acc h hk ha
    obtain ⟨k, rfl⟩ : ∃ q, k = q + 1 := ⟨k - 1, by omega⟩
    simp only [classification_Parse.l0]
    have hi : i < ws.length := by omega
    have e : rdOf ByteArray.empty ws (i : Int) = ws[i] := by unfold rdOf; simp [List.getD_eq_getElem?_getD, hi]
    rw [if_pos (by omega), if_pos (by omega), if_pos (by omega), e]
    unfold strconv_Atoi.f
    rw [if_pos (hz _ (List.getElem_mem hi))]
    simp only [Option.bind_some]
    rw [if_pos (by omega), w64 (x := (i : Int) + 1) (by omega) (by omega), show ((i : Int) + 1) = ((i + 1 : Nat) : Int) by omega, ih k (i + 1) _ (by omega) (by omega) (by simp; omega), List.drop_eq_getElem_cons hi]
    simp only [List.append_assoc, List.map_cons, List.singleton_append]
    rfl
theorem parse_eq (k : Nat) (s : ByteArray) (hs : s.size ≤ 1000) (hk : 2000 ≤ k) : classification_Parse.f k s = some (pr s.data.toList) := by
  unfold classification_Parse.f
  obtain ⟨ws, e1, e2, e3⟩ := split_f s (by omega)
  rw [e1]
  simp only [Option.bind_some]
  have := parse_l0 s ws (split_sizes e2 (by omega)) (by omega) ws.length k 0 [] (by omega) (by omega) rfl
  rw [show ((0 : Nat) : Int) = 0 from rfl] at this
  rw [this, pr_split, ← e2]
  simp only [List.nil_append, List.drop_zero, List.map_map]
  have e : List.map (numL ∘ fun x : ByteArray => x.data.toList) ws = List.map (fun x => numL x.data.toList) ws := rfl
  rw [e]
  split <;> rfl
def isB (s : List UInt8) : Bool := (pr s).2 == 0
theorem is_eq (k : Nat) (s : ByteArray) (hs : s.size ≤ 1000) (hk : 2000 ≤ k) : classification_is.f k s = some (isB s.data.toList) := by
  unfold classification_is.f
  rw [parse_eq k s hs hk]
  rfl
/-- class -/
def kl (s : List UInt8) : Int := if s = [] then 0 else if isB s = true then 1 else 2
theorem class_eq (k : Nat) (s : ByteArray) (hs : s.size ≤ 1000) (hk : 2000 ≤ k) : classification_class.f k s = some (kl s.data.toList) := by
  unfold classification_class.f kl
  rw [ByteArray.toList_eq]
  split
  · rfl
  · rw [is_eq k s hs hk]
    simp only [Option.bind_some]
    split <;> rfl
theorem in_eq (k : Nat) (s : ByteArray) (hs : s.size ≤ 1000) (hk : 2000 ≤ k) : classification_CompareIn.f k s = some (kl s.data.toList, (pr s.data.toList).1) := by
  unfold classification_CompareIn.f
  rw [parse_eq k s hs hk]
  simp only [Option.bind_some]
  rw [class_eq k s hs hk]
  rfl
end Go.Proofs.YtpnoliognpmkmaaDoor
