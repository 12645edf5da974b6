/- The printed functions of the document's reader and writer of codes, as the plain ones. -/
import Derived.Test.YtpnoliognpmkmaaDoorP7
import Derived.Test.YtpnoliognpmkmaaDoorClsB
namespace Go.Proofs.YtpnoliognpmkmaaDoor
open Go.RowKit P Cls Go.Proofs.YtpnoliognpmkmaaDoorW.PrintWords
set_option linter.unusedVariables false

theorem bt_cons {s : ByteArray} {i : Nat} {c : UInt8} {t : List UInt8} (h : s.data.toList.drop i = c :: t) : i < s.size ∧ bt s (i : Int) = c.toNat ∧ s.data.toList.drop (i + 1) = t := by
  have hl : i < s.data.toList.length := by
    rcases Nat.lt_or_ge i s.data.toList.length with h1 | h1
    · exact h1
    · rw [List.drop_eq_nil_of_le h1] at h; cases h
  have hs : i < s.size := by rw [size_data]; exact hl
  rw [List.drop_eq_getElem_cons hl] at h
  injection h with h1 h2
  refine ⟨hs, ?_, h2⟩
  unfold bt
  rw [dif_pos (by simpa using hs)]
  rw [← h1]
  rfl
theorem drop_nil {s : ByteArray} {i : Nat} (h : s.data.toList.drop i = []) (hi : i ≤ s.size) : i = s.size := by
  rw [size_data] at *
  have := List.drop_eq_nil_iff.1 h
  omega
def fin (k : Nat) (s : ByteArray) (o : List Int) (at_ : Nat) : Option (List Int × Int) :=
  if at_ = s.size then some (o, 0) else if bt s (at_ : Int) = 46 then priceofficeref06_Parse.l0 k s o ((at_ + 1 : Nat) : Int) else some ([], 60)
theorem rj3 (k : Nat) (s : ByteArray) (o : List Int) (at_ : Nat) (n : Int) (b : Bool) (ho : o.length ≤ 5) (ha : at_ ≤ s.size) (hs : s.size ≤ 1000) :
    priceofficeref06_Parse.j3 (k + 1) s o at_ n b = if b = true then some ([], 60) else fin k s (o ++ [n]) at_ := by
  simp only [priceofficeref06_Parse.j3]
  cases b with
  | true => rfl
  | false =>
    simp only [Bool.false_eq_true, if_false]
    rw [if_pos (by omega)]
    simp only [Option.bind_some, fin]
    by_cases e : at_ = s.size
    · rw [if_pos (by omega), if_pos e]
    · rw [if_neg (by omega), if_neg e, if_pos (by omega), if_pos (by omega)]
      rw [w64 (x := (at_ : Int) + 1) (by omega) (by omega)]
      rfl
theorem rj2 (k : Nat) (s : ByteArray) (o : List Int) (at_ from_ : Nat) (n : Int) (ho : o.length ≤ 5) (ha : at_ ≤ s.size) (hs : s.size ≤ 1000) (hf : from_ < at_) :
    priceofficeref06_Parse.j2 (k + 2) s o at_ n from_ = if n = 0 ∨ (o = [] ∧ at_ ≠ from_ + 2) ∨ (o ≠ [] ∧ bt s (from_ : Int) = 48) ∨ o.length = 5 then some ([], 60) else fin k s (o ++ [n]) at_ := by
  simp only [priceofficeref06_Parse.j2]
  rw [if_neg (by omega)]
  by_cases hn : n = 0
  · rw [if_pos hn, rj3 k s o at_ n true ho ha hs, if_pos rfl, if_pos (Or.inl hn)]
  rw [if_neg hn]
  cases o with
  | nil =>
    simp only [List.length_nil]
    rw [if_pos (by simp), w64 (by omega) (by omega)]
    by_cases hw : (at_ : Int) - from_ = 2
    · rw [if_pos hw, if_neg (by simp), rj3 k s [] at_ n _ (by simp) ha hs]
      rw [if_neg (by simp), if_neg]
      simp [hn]
      omega
    · rw [if_neg hw, rj3 k s [] at_ n true (by simp) ha hs, if_pos rfl, if_pos]
      right; left
      exact ⟨by trivial, by omega⟩
  | cons x r =>
    have hpos : 0 < (x :: r).length := by simp
    rw [if_neg (by omega), if_pos (by omega), if_pos (by omega), if_pos (by omega)]
    by_cases hz : bt s (from_ : Int) = 48
    · rw [if_pos hz, rj3 k s _ at_ n true ho ha hs, if_pos rfl, if_pos]
      right; right; left
      exact ⟨by simp, hz⟩
    · rw [if_neg hz, rj3 k s _ at_ n _ ho ha hs]
      by_cases h5 : (x :: r).length = 5
      · rw [if_pos (by rw [h5]; rfl), if_pos]
        right; right; right
        exact h5
      · rw [if_neg (by simp only [beq_iff_eq]; omega), if_neg]
        intro h
        rcases h with h | h | h | h
        · exact hn h
        · cases h.1
        · exact hz h.2
        · exact h5 h
/-- one turn of the loop -/
def turn (k : Nat) (s : ByteArray) (o : List Int) (r : List UInt8) : Option (List Int × Int) :=
  match (if o = [] then scan2 r else scan1 r) with
  | none => some ([], 60)
  | some (n, r') => if o.length = 5 then some ([], 60) else fin k s (o ++ [n]) (s.size - r'.length)
theorem digit_bt {c : UInt8} : (isD c = true) ↔ ((c.toNat : Int) ≥ 48 ∧ (c.toNat : Int) ≤ 57) := by
  simp [isD]
  omega
theorem l1_j2 (k : Nat) (s : ByteArray) (o : List Int) (at_ from_ : Nat) (n : Int) (h : at_ = from_ + 2) (ha : at_ ≤ s.size) (hs : s.size ≤ 1000) :
    priceofficeref06_Parse.l1 (k + 1) s o at_ n from_ = priceofficeref06_Parse.j2 k s o at_ n from_ := by
  simp only [priceofficeref06_Parse.l1]
  rw [w64 (x := (at_ : Int) - from_) (by omega) (by omega)]
  rw [if_neg (show ¬ ((at_ : Int) - from_ < 2) by omega)]
  simp only [ite_self]
  by_cases h1 : (at_ : Int) < s.size
  · rw [if_pos h1, if_pos (by omega)]
  · rw [if_neg h1]
theorem l0_turn (k : Nat) (s : ByteArray) (o : List Int) (at_ : Nat) (ho : o.length ≤ 5) (ha : at_ ≤ s.size) (hs : s.size ≤ 1000) :
    priceofficeref06_Parse.l0 (k + 6) s o at_ = some ([], 60) ∧ (if o = [] then scan2 (s.data.toList.drop at_) else scan1 (s.data.toList.drop at_)) = none ∨
    ∃ n r' k', k ≤ k' ∧ k' ≤ k + 6 ∧ (if o = [] then scan2 (s.data.toList.drop at_) else scan1 (s.data.toList.drop at_)) = some (n, r') ∧ r' = s.data.toList.drop (s.size - r'.length) ∧ r'.length ≤ s.size ∧
      priceofficeref06_Parse.l0 (k + 6) s o at_ = if o.length = 5 then some ([], 60) else fin k' s (o ++ [n]) (s.size - r'.length) := by
  simp only [priceofficeref06_Parse.l0]
  rcases hr : s.data.toList.drop at_ with _ | ⟨c, t⟩
  · left
    have e := drop_nil hr ha
    simp only [priceofficeref06_Parse.l1, priceofficeref06_Parse.j2]
    rw [if_neg (by omega), if_pos trivial, rj3 _ s o at_ 0 true ho ha hs]
    exact ⟨rfl, by split <;> rfl⟩
  obtain ⟨h1, hb, ht⟩ := bt_cons hr
  by_cases hd : isD c = true
  · have hv := vd_range c hd
    have e1 : priceofficeref06_Parse.l1 (k + 5) s o at_ 0 at_ = priceofficeref06_Parse.l1 (k + 4) s o ((at_ + 1 : Nat) : Int) (vd c) at_ := by
      rw [priceofficeref06_Parse.l1]
      rw [if_pos (by omega), if_pos (by omega), hb, if_pos (digit_bt.1 hd).1, if_pos (digit_bt.1 hd).2, w64 (x := (at_ : Int) - at_) (by omega) (by omega), if_pos (by omega), w64 (x := (at_ : Int) + 1) (by omega) (by omega)]
      have e : wrap64 (wrap64 (10 * 0) + ((c.toNat : Int) - 48) % 256) = vd c := by
        have := (digit_bt.1 hd)
        unfold vd
        rw [show wrap64 (10 * 0) = 0 by unfold wrap64; omega, w64 (by omega) (by omega)]
        omega
      rw [e]
      rfl
    rw [e1]
    rcases hr2 : s.data.toList.drop (at_ + 1) with _ | ⟨d, t2⟩
    · have e2 := drop_nil hr2 (by omega)
      have et : t = [] := by rw [← ht, hr2]
      subst et
      have e3 : priceofficeref06_Parse.l1 (k + 4) s o ((at_ + 1 : Nat) : Int) (vd c) at_ = priceofficeref06_Parse.j2 (k + 3) s o ((at_ + 1 : Nat) : Int) (vd c) at_ := by
        rw [priceofficeref06_Parse.l1, if_neg (by omega)]
      rw [e3, rj2 (k + 1) s o (at_ + 1) at_ (vd c) ho (by omega) hs (by omega), hb]
      by_cases hoe : o = []
      · left
        rw [if_pos (by right; left; exact ⟨hoe, by omega⟩), if_pos hoe]
        exact ⟨rfl, rfl⟩
      · simp only [if_neg hoe, scan1]
        by_cases hz : 1 ≤ vd c
        · right
          refine ⟨vd c, [], k + 1, by omega, by omega, by rw [if_pos ⟨hd, hz⟩], by rw [List.length_nil, List.drop_eq_nil_of_le (by rw [size_data]; omega)], by simp, ?_⟩
          have hc48 : ¬ ((c.toNat : Int) = 48) := by unfold vd at hz; omega
          by_cases h5 : o.length = 5
          · rw [if_pos (by right; right; right; exact h5), if_pos h5]
          · rw [if_neg (by rintro (h | h | h | h); exact absurd h (by omega); exact hoe h.1; exact hc48 h.2; exact h5 h), if_neg h5]
            rw [show s.size - ([] : List UInt8).length = at_ + 1 by simp; omega]
        · left
          rw [if_pos (by left; omega), if_neg (fun h => hz h.2)]
          exact ⟨rfl, rfl⟩
    · obtain ⟨h2, hb2, ht2⟩ := bt_cons hr2
      have et : t = d :: t2 := by rw [← ht, hr2]
      subst et
      by_cases hd2 : isD d = true
      · have hv2 := vd_range d hd2
        have e3 : priceofficeref06_Parse.l1 (k + 4) s o ((at_ + 1 : Nat) : Int) (vd c) at_ = priceofficeref06_Parse.l1 (k + 3) s o ((at_ + 2 : Nat) : Int) (10 * vd c + vd d) at_ := by
          rw [priceofficeref06_Parse.l1]
          rw [if_pos (by omega), if_pos (by omega), hb2, if_pos (digit_bt.1 hd2).1, if_pos (digit_bt.1 hd2).2, w64 (x := ((at_ + 1 : Nat) : Int) - at_) (by omega) (by omega), if_pos (by omega), w64 (x := ((at_ + 1 : Nat) : Int) + 1) (by omega) (by omega)]
          have e : wrap64 (wrap64 (10 * vd c) + ((d.toNat : Int) - 48) % 256) = 10 * vd c + vd d := by
            have := (digit_bt.1 hd2)
            rw [w64 (x := 10 * vd c) (by omega) (by omega), w64 (by unfold vd at *; omega) (by unfold vd at *; omega)]
            unfold vd
            omega
          rw [e, show ((at_ + 1 : Nat) : Int) + 1 = ((at_ + 2 : Nat) : Int) by omega]
        rw [e3, l1_j2 (k + 2) s o (at_ + 2) at_ _ rfl (by omega) hs, rj2 k s o (at_ + 2) at_ _ ho (by omega) hs (by omega), hb]
        have hlen : t2.length = s.size - (at_ + 2) := by rw [← ht2, List.length_drop, size_data]
        by_cases hoe : o = []
        · simp only [if_pos hoe, scan2]
          by_cases hz : 1 ≤ 10 * vd c + vd d
          · right
            refine ⟨_, t2, k, by omega, by omega, by rw [if_pos ⟨hd, hd2, hz⟩], by rw [hlen, show s.size - (s.size - (at_ + 2)) = at_ + 1 + 1 by omega, ht2], by omega, ?_⟩
            have h5 : ¬ o.length = 5 := by rw [hoe]; simp
            rw [if_neg (by rintro (h | h | h | h); exact absurd h (by omega); exact h.2 rfl; exact h.1 hoe; exact h5 h), if_neg h5, show s.size - t2.length = at_ + 2 by omega]
          · left
            rw [if_pos (by left; omega), if_neg (fun h => hz h.2.2)]
            exact ⟨rfl, rfl⟩
        · simp only [if_neg hoe, scan1]
          by_cases hz : 1 ≤ vd c
          · right
            refine ⟨_, t2, k, by omega, by omega, by rw [if_pos ⟨hd, hz⟩, if_pos hd2], by rw [hlen, show s.size - (s.size - (at_ + 2)) = at_ + 1 + 1 by omega, ht2], by omega, ?_⟩
            have hc48 : ¬ ((c.toNat : Int) = 48) := by unfold vd at hz; omega
            by_cases h5 : o.length = 5
            · rw [if_pos (by right; right; right; exact h5), if_pos h5]
            · rw [if_neg (by rintro (h | h | h | h); exact absurd h (by omega); exact hoe h.1; exact hc48 h.2; exact h5 h), if_neg h5, show s.size - t2.length = at_ + 2 by omega]
          · left
            have hc48 : (c.toNat : Int) = 48 := by unfold vd at hz hv; omega
            rw [if_pos (by right; right; left; exact ⟨hoe, hc48⟩), if_neg (fun h => hz h.2)]
            exact ⟨rfl, rfl⟩
      · have e3 : priceofficeref06_Parse.l1 (k + 4) s o ((at_ + 1 : Nat) : Int) (vd c) at_ = priceofficeref06_Parse.j2 (k + 3) s o ((at_ + 1 : Nat) : Int) (vd c) at_ := by
          rw [priceofficeref06_Parse.l1, if_pos (by omega), if_pos (by omega), hb2]
          by_cases h48 : (d.toNat : Int) ≥ 48
          · rw [if_pos h48, if_neg (fun h => hd2 (digit_bt.2 ⟨h48, h⟩))]
          · rw [if_neg h48]
        rw [e3, rj2 (k + 1) s o (at_ + 1) at_ (vd c) ho (by omega) hs (by omega), hb]
        have hlen : (d :: t2).length = s.size - (at_ + 1) := by rw [← hr2, List.length_drop, size_data]
        by_cases hoe : o = []
        · left
          rw [if_pos (by right; left; exact ⟨hoe, by omega⟩), if_pos hoe]
          simp [scan2, hd2]
        · simp only [if_neg hoe, scan1]
          by_cases hz : 1 ≤ vd c
          · right
            refine ⟨_, d :: t2, k + 1, by omega, by omega, by rw [if_pos ⟨hd, hz⟩, if_neg hd2], by rw [hlen, show s.size - (s.size - (at_ + 1)) = at_ + 1 by omega, hr2], by omega, ?_⟩
            have hc48 : ¬ ((c.toNat : Int) = 48) := by unfold vd at hz; omega
            by_cases h5 : o.length = 5
            · rw [if_pos (by right; right; right; exact h5), if_pos h5]
            · rw [if_neg (by rintro (h | h | h | h); exact absurd h (by omega); exact hoe h.1; exact hc48 h.2; exact h5 h), if_neg h5, show s.size - (d :: t2).length = at_ + 1 by omega]
          · left
            rw [if_pos (by left; omega), if_neg (fun h => hz h.2)]
            exact ⟨rfl, rfl⟩
  · left
    have e1 : priceofficeref06_Parse.l1 (k + 5) s o at_ 0 at_ = priceofficeref06_Parse.j2 (k + 4) s o at_ 0 at_ := by
      rw [priceofficeref06_Parse.l1, if_pos (by omega), if_pos (by omega), hb]
      by_cases h48 : (c.toNat : Int) ≥ 48
      · rw [if_pos h48, if_neg (fun h => hd (digit_bt.2 ⟨h48, h⟩))]
      · rw [if_neg h48]
    rw [e1]
    simp only [priceofficeref06_Parse.j2]
    rw [if_pos trivial, rj3 _ s o at_ 0 true ho ha hs]
    refine ⟨rfl, ?_⟩
    split
    · cases t with
      | nil => rfl
      | cons d t2 => simp [scan2, hd]
    · cases t with
      | nil => simp [scan1, hd]
      | cons d t2 => simp [scan1, hd]
theorem fin_eq {s : ByteArray} (m : Nat) (ih : ∀ (k at_ : Nat) (o : List Int), o.length + m = 5 → 0 < o.length → at_ ≤ s.size → 10 * m + 10 ≤ k →
      priceofficeref06_Parse.l0 k s o at_ = some (match prT m (46 :: s.data.toList.drop at_) with | some q => (o ++ q, 0) | none => ([], 60)))
    (k at_ : Nat) (o : List Int) (ho : o.length + m = 5) (ho0 : 0 < o.length) (ha : at_ ≤ s.size) (hk : 10 * m + 10 ≤ k) :
    fin k s o at_ = some (match prT m (s.data.toList.drop at_) with | some q => (o ++ q, 0) | none => ([], 60)) := by
  unfold fin
  rcases hr : s.data.toList.drop at_ with _ | ⟨c, t⟩
  · rw [if_pos (drop_nil hr ha)]
    cases m <;> simp [prT]
  · obtain ⟨h1, hb, ht⟩ := bt_cons hr
    rw [if_neg (by omega), hb]
    by_cases h46 : c = 46
    · subst h46
      rw [if_pos (by decide), ih k (at_ + 1) o ho ho0 (by omega) hk, ht]
    · rw [if_neg]
      · cases m <;> simp [prT, h46]
      · intro h
        apply h46
        apply UInt8.toNat_inj.1
        have : (46 : UInt8).toNat = 46 := rfl
        omega
theorem rparse_tail (s : ByteArray) (hs : s.size ≤ 1000) : ∀ (m k at_ : Nat) (o : List Int), o.length + m = 5 → 0 < o.length → at_ ≤ s.size → 10 * m + 10 ≤ k →
    priceofficeref06_Parse.l0 k s o at_ = some (match prT m (46 :: s.data.toList.drop at_) with | some q => (o ++ q, 0) | none => ([], 60)) := by
  intro m
  induction m with
  | zero =>
    intro k at_ o ho ho0 ha hk
    obtain ⟨k, rfl⟩ : ∃ q, k = q + 6 := ⟨k - 6, by omega⟩
    rcases l0_turn k s o at_ (by omega) ha hs with ⟨h, _⟩ | ⟨n, r', k', _, _, _, _, _, h⟩
    · rw [h]; rfl
    · rw [h, if_pos (by omega)]; rfl
  | succ m ih =>
    intro k at_ o ho ho0 ha hk
    obtain ⟨k, rfl⟩ : ∃ q, k = q + 6 := ⟨k - 6, by omega⟩
    have hoe : o ≠ [] := by intro h; rw [h] at ho0; simp at ho0
    rcases l0_turn k s o at_ (by omega) ha hs with ⟨h, e⟩ | ⟨n, r', k', hk1, hk2, e, hr', hrl, h⟩
    · rw [if_neg hoe] at e
      rw [h]
      simp [prT, e]
    · rw [if_neg hoe] at e
      rw [h, if_neg (by omega), fin_eq m ih k' _ (o ++ [n]) (by simp; omega) (by simp) (by omega) (by omega), ← hr']
      simp only [prT, if_true, e]
      cases prT m r' <;> simp
theorem rparse_eq (k : Nat) (s : ByteArray) (hs : s.size ≤ 1000) (hk : 2000 ≤ k) : priceofficeref06_Parse.f k s = some (pr s.data.toList) := by
  unfold priceofficeref06_Parse.f
  obtain ⟨k, rfl⟩ : ∃ q, k = q + 6 := ⟨k - 6, by omega⟩
  have key := l0_turn k s [] 0 (by simp) (by omega) hs
  rw [show ((0 : Nat) : Int) = 0 from rfl] at key
  simp only [if_true, List.drop_zero, List.length_nil] at key
  unfold pr prL
  rcases key with ⟨h, e⟩ | ⟨n, r', k', hk1, hk2, e, hr', hrl, h⟩
  · rw [h, e]
  · rw [h, if_neg (by decide), fin_eq 4 (rparse_tail s hs 4) k' _ ([] ++ [n]) rfl (by simp) (by omega) (by omega), ← hr', e]
    simp only
    cases prT 4 r' <;> simp
end Go.Proofs.YtpnoliognpmkmaaDoor
