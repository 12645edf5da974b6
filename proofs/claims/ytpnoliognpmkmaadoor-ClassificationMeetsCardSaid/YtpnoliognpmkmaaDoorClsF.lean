/- Path and Parent, the program's and the document's. -/
import Derived.Test.YtpnoliognpmkmaaDoorP9
import Derived.Test.YtpnoliognpmkmaaDoorP11
import Derived.Test.YtpnoliognpmkmaaDoorClsC
import Derived.Test.YtpnoliognpmkmaaDoorClsD
import Derived.Test.YtpnoliognpmkmaaDoorClsE
namespace Go.Proofs.YtpnoliognpmkmaaDoor
open Go.RowKit P Cls Go.Proofs.YtpnoliognpmkmaaDoorW.PrintWords
set_option linter.unusedVariables false

theorem take_snoc {α : Type} (l : List α) (i : Nat) (h : i < l.length) : l.take (i + 1) = l.take i ++ [l[i]] := by
  rw [List.take_add_one, List.getElem?_eq_getElem h]
  rfl
theorem fmtTail_append (a b : List Int) : fmtTail (a ++ b) = fmtTail a ++ fmtTail b := by
  induction a with
  | nil => rfl
  | cons n r ih => simp [fmtTail, ih]
theorem fmt_append (a b : List Int) (h : a ≠ []) : fmt (a ++ b) = fmt a ++ fmtTail b := by
  cases a with
  | nil => exact absurd rfl h
  | cons n r => simp [fmt, fmtTail_append]
theorem fmt_snoc (a : List Int) (n : Int) (h : a ≠ []) : fmt (a ++ [n]) = fmt a ++ 46 :: tx1 n := by
  rw [fmt_append a [n] h]
  simp [fmtTail]
/-- the lists of the path -/
def pathOf (q : List Int) : List (List UInt8) := (List.range' 1 q.length).map fun j => fmt (q.take j)
def pl (s : List UInt8) : List (List UInt8) := match prL s with | some q => pathOf q | none => []
theorem pl_ok {s : List UInt8} {q : List Int} (h : isC s q) : pl s = pathOf q := by unfold pl; rw [isC_prL h]
theorem pl_no {s : List UInt8} (h : ∀ q, ¬ isC s q) : pl s = [] := by
  unfold pl
  rcases e : prL s with _ | q
  · rfl
  · exact absurd (prL_isC e) (h q)
theorem isB_ok {s : List UInt8} {q : List Int} (h : isC s q) : isB s = true := by unfold isB; rw [pr_ok h]; rfl
theorem isB_no {s : List UInt8} (h : ∀ q, ¬ isC s q) : isB s = false := by
  rcases pr_cases s with ⟨q, hq, _⟩ | ⟨_, e⟩
  · exact absurd hq (h q)
  · unfold isB; rw [e]; rfl
/-! the dots of a text -/
def dots : List UInt8 → List UInt8 → List (List UInt8)
  | _, [] => []
  | p, c :: r => if c = 46 then p :: dots (p ++ [c]) r else dots (p ++ [c]) r
theorem dots_skip : ∀ (w p r : List UInt8), (46 : UInt8) ∉ w → dots p (w ++ r) = dots (p ++ w) r
  | [], p, r, _ => by simp
  | c :: w, p, r, h => by
    simp only [List.mem_cons, not_or] at h
    rw [List.cons_append, dots, if_neg (fun e => h.1 e.symm), dots_skip w _ r h.2]
    simp
theorem dots_fmt (q : List Int) (hq : ∀ n ∈ q, okP n) : ∀ (c i : Nat), 1 ≤ i → i + c = q.length →
    dots (fmt (q.take i)) (fmtTail (q.drop i)) ++ [fmt q] = (List.range' i (c + 1)).map fun j => fmt (q.take j) := by
  intro c
  induction c with
  | zero =>
    intro i h1 h
    rw [List.drop_eq_nil_of_le (by omega)]
    simp [fmtTail, dots, List.range', List.take_of_length_le (show q.length ≤ i by omega)]
  | succ c ih =>
    intro i h1 h
    have hi : i < q.length := by omega
    have e : fmt (q.take (i + 1)) = fmt (q.take i) ++ 46 :: tx1 q[i] := by
      rw [take_snoc q i hi, fmt_snoc _ _ (by intro h; have h2 := congrArg List.length h; rw [List.length_take] at h2; simp only [List.length_nil] at h2; omega)]
    rw [List.drop_eq_getElem_cons hi, fmtTail, dots, if_pos rfl, dots_skip _ _ _ (tx1_nodot _ (hq _ (List.getElem_mem hi)))]
    rw [show fmt (q.take i) ++ [46] ++ tx1 q[i] = fmt (q.take (i + 1)) by rw [e]; simp, List.cons_append, ih (i + 1) (by omega) (by omega)]
    rfl
theorem dots_path {q : List Int} (h : good q) : dots [] (fmt q) ++ [fmt q] = pathOf q := by
  cases q with
  | nil => have := h.1; simp at this
  | cons n r =>
    have h2 := dots_fmt (n :: r) h.2.2 r.length 1 (Nat.le_refl _) (by simp; omega)
    simp only [List.take_succ_cons, List.take_zero, List.drop_succ_cons, List.drop_zero] at h2
    have e : dots [] (fmt (n :: r)) = dots (fmt [n]) (fmtTail r) := by
      simp only [fmt, fmtTail, List.append_nil]
      rw [dots_skip _ _ _ (tx2_nodot n (h.2.2 n (by simp)))]
      rfl
    rw [e, h2]
    rfl
theorem path_l0 (s : ByteArray) (hs : s.size ≤ 1000) : ∀ (c k i : Nat) (out : List ByteArray), i + c = s.size → c < k → out.length ≤ i →
    classification_Path.l0 k s out s.size i = some (out ++ (dots (s.data.toList.take i) (s.data.toList.drop i)).map bs ++ [s]) := by
  intro c
  induction c with
  | zero =>
    intro k i out h hk ho
    obtain ⟨k, rfl⟩ : ∃ q, k = q + 1 := ⟨k - 1, by omega⟩
    simp only [classification_Path.l0]
    rw [if_neg (by omega), if_pos (by omega), List.drop_eq_nil_of_le (by rw [← size_data]; omega)]
    simp [dots]
  | succ c ih =>
    intro k i out h hk ho
    obtain ⟨k, rfl⟩ : ∃ q, k = q + 1 := ⟨k - 1, by omega⟩
    simp only [classification_Path.l0]
    have hi : i < s.data.toList.length := by rw [← size_data]; omega
    have hd := List.drop_eq_getElem_cons hi
    obtain ⟨_, hb, _⟩ := bt_cons hd
    rw [if_pos (by omega), if_pos (by omega), if_pos (by omega), hb, w64 (x := (i : Int) + 1) (by omega) (by omega), show (i : Int) + 1 = ((i + 1 : Nat) : Int) by omega, hd]
    have et : s.data.toList.take (i + 1) = s.data.toList.take i ++ [s.data.toList[i]] := take_snoc _ i hi
    by_cases hc : s.data.toList[i] = 46
    · rw [if_pos (by rw [hc]; rfl), if_pos (by omega), if_pos (by omega), ih k (i + 1) _ (by omega) (by omega) (by simp; omega), dots, if_pos hc, et]
      have ex : s.extract 0 ((i : Nat) : Int).toNat = bs (s.data.toList.take i) := by
        apply data_inj
        rw [Lib.extract_from_zero]
        rfl
      rw [ex]
      simp
    · rw [if_neg, ih k (i + 1) _ (by omega) (by omega) (by omega), dots, if_neg hc, et]
      intro h2
      apply hc
      apply UInt8.toNat_inj.1
      have : (46 : UInt8).toNat = 46 := rfl
      omega
theorem path_eq (k : Nat) (s : ByteArray) (hs : s.size ≤ 1000) (hk : 2000 ≤ k) : classification_Path.f k s = some ((pl s.data.toList).map bs) := by
  unfold classification_Path.f
  rw [is_eq k s hs hk]
  simp only [Option.bind_some]
  rcases pr_cases s.data.toList with ⟨q, hq, _⟩ | ⟨hn, _⟩
  · rw [isB_ok hq, if_pos rfl, show (0 : Int) = ((0 : Nat) : Int) from rfl, path_l0 s hs s.size k 0 [] (by omega) (by omega) (by simp), pl_ok hq, ← dots_path hq.1, hq.2]
    simp [bs_of]
  · rw [isB_no hn, pl_no hn]
    rfl
theorem good_take {q : List Int} (h : good q) (j : Nat) (h1 : 1 ≤ j) : good (q.take j) := by
  refine ⟨?_, ?_, fun n hn => h.2.2 n (List.mem_of_mem_take hn)⟩
  · have := h.1; rw [List.length_take]; omega
  · have := h.2.1; rw [List.length_take]; omega
theorem rpath_l0 {q : List Int} (h : good q) : ∀ (c k i : Nat) (out : List ByteArray), i + c = q.length → c + 120 < k → out.length ≤ i →
    priceofficeref06_Path.l0 k q out q.length i = some (out ++ ((List.range' (i + 1) c).map fun j => fmt (q.take j)).map bs) := by
  have h5 := h.2.1
  intro c
  induction c with
  | zero =>
    intro k i out he hk ho
    obtain ⟨k, rfl⟩ : ∃ q, k = q + 1 := ⟨k - 1, by omega⟩
    simp only [priceofficeref06_Path.l0]
    rw [if_neg (by omega)]
    simp [List.range']
  | succ c ih =>
    intro k i out he hk ho
    obtain ⟨k, rfl⟩ : ∃ q, k = q + 1 := ⟨k - 1, by omega⟩
    simp only [priceofficeref06_Path.l0]
    rw [if_pos (by omega), w64 (x := (i : Int) + 1) (by omega) (by omega), if_pos (by omega), if_pos (by omega), rformat_eq k (by omega)]
    simp only [Option.bind_some]
    rw [if_pos (by omega), show ((i : Int) + 1).toNat = i + 1 by omega, show (i : Int) + 1 = ((i + 1 : Nat) : Int) by omega, ih k (i + 1) _ (by omega) (by omega) (by simp; omega)]
    unfold fm
    rw [if_pos (good_take h (i + 1) (by omega)), List.range']
    simp
theorem rpath_eq (k : Nat) (s : ByteArray) (hs : s.size ≤ 1000) (hk : 2000 ≤ k) : priceofficeref06_Path.f k s = some ((pl s.data.toList).map bs) := by
  unfold priceofficeref06_Path.f
  rw [rparse_eq k s hs hk]
  simp only [Option.bind_some]
  rcases pr_cases s.data.toList with ⟨q, hq, e⟩ | ⟨hn, e⟩
  · rw [e]
    simp only [if_true]
    have := hq.1.2.1
    rw [show (0 : Int) = ((0 : Nat) : Int) from rfl, rpath_l0 hq.1 q.length k 0 [] (by omega) (by omega) (by simp), pl_ok hq]
    rfl
  · rw [e, pl_no hn]
    rfl
/-! Parent -/
theorem occ_one (s : List UInt8) (i : Nat) : Lib.occAt s [46] i = true ↔ s[i]? = some 46 := by
  unfold Lib.occAt
  rcases Nat.lt_or_ge i s.length with h | h
  · rw [List.drop_eq_getElem_cons h]
    simp only [List.isPrefixOf, Bool.and_true, List.getElem?_eq_getElem h, Option.some.injEq, beq_iff_eq]
    exact eq_comm
  · rw [List.drop_eq_nil_of_le h]
    simp [List.isPrefixOf, List.getElem?_eq_none h]
theorem last_none (w : List UInt8) (h : (46 : UInt8) ∉ w) : max (Lib.lastIndex w [46]) 0 = 0 := by
  unfold Lib.lastIndex
  split
  · rcases Lib.lastOcc_spec w [46] (w.length - ([46] : List UInt8).length + 1) with ⟨e, _⟩ | ⟨i, _, e, ho, _⟩
    · rw [e]; rfl
    · exact absurd (List.mem_of_getElem? ((occ_one w i).1 ho)) h
  · rfl
theorem last_at (w r : List UInt8) (h : (46 : UInt8) ∉ r) : Lib.lastIndex (w ++ 46 :: r) [46] = w.length := by
  unfold Lib.lastIndex
  rw [if_pos (by simp; omega)]
  have hw : (w ++ 46 :: r)[w.length]? = some 46 := by simp
  rcases Lib.lastOcc_spec (w ++ 46 :: r) [46] ((w ++ 46 :: r).length - ([46] : List UInt8).length + 1) with ⟨_, hn⟩ | ⟨i, hi, e, ho, hn⟩
  · have := hn w.length (by simp; omega)
    rw [(occ_one _ _).2 hw] at this
    cases this
  · rw [e]
    have ho2 := (occ_one _ _).1 ho
    rcases Nat.lt_trichotomy i w.length with hl | hl | hl
    · have := hn w.length hl (by simp; omega)
      rw [(occ_one _ _).2 hw] at this
      cases this
    · rw [hl]
    · exfalso
      rw [List.getElem?_append_right (by omega), show i - w.length = (i - w.length - 1) + 1 by omega, List.getElem?_cons_succ] at ho2
      exact h (List.mem_of_getElem? ho2)
theorem par_ok {s : List UInt8} {q : List Int} (h : isC s q) : par s = (fmt (q.take (q.length - 1)), true) := by
  unfold par
  rw [if_pos (isB_ok h)]
  obtain ⟨hg, rfl⟩ := h
  congr 1
  rcases List.eq_nil_or_concat q with e | ⟨a, n, e⟩
  · have := hg.1; rw [e] at this; simp at this
  · rw [List.concat_eq_append] at e
    subst e
    have hn := hg.2.2 n (by simp)
    rw [show (a ++ [n]).length - 1 = a.length by simp, List.take_left]
    by_cases ha : a = []
    · subst ha
      simp only [List.nil_append, fmt, fmtTail, List.append_nil]
      rw [last_none _ (tx2_nodot n hn)]
      rfl
    · rw [fmt_snoc a n ha, last_at _ _ (tx1_nodot n hn)]
      simp
theorem par_no {s : List UInt8} (h : ∀ q, ¬ isC s q) : par s = ([], false) := by
  unfold par
  rw [isB_no h]
  rfl
theorem pathOf_len (q : List Int) : (pathOf q).length = q.length := by simp [pathOf]
theorem pathOf_get (q : List Int) (j : Nat) (h : j < q.length) : (pathOf q)[j]'(by rw [pathOf_len]; exact h) = fmt (q.take (j + 1)) := by
  simp [pathOf, Nat.add_comm]
theorem rdOf_get {α : Type} (z : α) {l : List α} {i : Nat} (h : i < l.length) : rdOf z l (i : Int) = l[i] := by unfold rdOf; simp [List.getD_eq_getElem?_getD, h]
theorem rparent_eq (k : Nat) (s : ByteArray) (hs : s.size ≤ 1000) (hk : 2000 ≤ k) : priceofficeref06_Parent.f k s = some (bs (par s.data.toList).1, (par s.data.toList).2) := by
  unfold priceofficeref06_Parent.f
  rw [rpath_eq k s hs hk]
  simp only [Option.bind_some, List.length_map]
  rcases pr_cases s.data.toList with ⟨q, hq, e⟩ | ⟨hn, e⟩
  · rw [pl_ok hq, par_ok hq, pathOf_len]
    have h1 := hq.1.1
    have h5 := hq.1.2.1
    rw [if_neg (by omega)]
    by_cases hl : (q.length : Int) = 1
    · rw [if_pos hl, show q.length - 1 = 0 by omega]
      rfl
    · rw [if_neg hl, w64 (x := (q.length : Int) - 2) (by omega) (by omega), if_pos (by omega), if_pos (by omega), show (q.length : Int) - 2 = ((q.length - 2 : Nat) : Int) by omega, rdOf_get _ (by rw [List.length_map, pathOf_len]; omega)]
      rw [List.getElem_map, pathOf_get q _ (by omega), show q.length - 2 + 1 = q.length - 1 by omega]
  · rw [pl_no hn, par_no hn]
    rfl
theorem rlevel_eq (k : Nat) (s : ByteArray) (hs : s.size ≤ 1000) (hk : 2000 ≤ k) : priceofficeref06_Level.f k s = some (lev s.data.toList) := by
  unfold priceofficeref06_Level.f lev
  rw [rparse_eq k s hs hk]
  simp only [Option.bind_some, ByteArray.toList_eq]
  by_cases h : (pr s.data.toList).2 = 0
  · rw [if_pos h, if_pos (Or.inl h)]
  · rw [if_neg h]
    by_cases h2 : s.data.toList = []
    · rw [if_pos h2, if_pos (Or.inr h2)]
    · rw [if_neg h2, if_neg (by rintro (e | e); exact h e; exact h2 e)]
theorem sstr_l0 (x : List ByteArray) (hx : x.length ≤ 100000) : ∀ (c k i : Nat), i + c = x.length → c < k → priceofficeref06_SameStrings.l0 k x x x.length i = some true := by
  intro c
  induction c with
  | zero =>
    intro k i h hk
    obtain ⟨k, rfl⟩ : ∃ q, k = q + 1 := ⟨k - 1, by omega⟩
    simp only [priceofficeref06_SameStrings.l0]
    rw [if_neg (by omega)]
  | succ c ih =>
    intro k i h hk
    obtain ⟨k, rfl⟩ : ∃ q, k = q + 1 := ⟨k - 1, by omega⟩
    simp only [priceofficeref06_SameStrings.l0]
    rw [if_pos (by omega), if_pos (by omega), if_pos (by omega), if_pos trivial, w64 (x := (i : Int) + 1) (by omega) (by omega), show (i : Int) + 1 = ((i + 1 : Nat) : Int) by omega, ih k (i + 1) (by omega) (by omega), if_pos (by omega)]
theorem sstr_refl (k : Nat) (x : List ByteArray) (hx : x.length ≤ 100000) (hk : x.length < k) : priceofficeref06_SameStrings.f k x x = some true := by
  unfold priceofficeref06_SameStrings.f
  rw [if_pos rfl, show (0 : Int) = ((0 : Nat) : Int) from rfl, sstr_l0 x hx x.length k 0 (by omega) (by omega)]
theorem pl_len (s : List UInt8) : (pl s).length ≤ 5 := by
  rcases pr_cases s with ⟨q, hq, e⟩ | ⟨hn, e⟩
  · rw [pl_ok hq, pathOf_len]; exact hq.1.2.1
  · rw [pl_no hn]; simp
end Go.Proofs.YtpnoliognpmkmaaDoor
