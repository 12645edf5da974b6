/- The texts of dates and months: the program's and the document's functions are the plain ones. -/
import Derived.Test.YtpbkdbicdimfhaaDoorP6
import Derived.Test.YtpbkdbicdimfhaaDoorP23
import Derived.Test.YtpbkdbicdimfhaaDoorP24
import Derived.Test.YtpbkdbicdimfhaaDoorP25
import Derived.Test.YtpbkdbicdimfhaaDoorP27
import Derived.Test.YtpbkdbicdimfhaaDoorCalB
import Derived.Test.YtpbkdbicdimfhaaDoorCalC
import Derived.Test.YtpbkdbicdimfhaaDoorCalG
namespace Go.Proofs.YtpbkdbicdimfhaaDoor
open Go.RowKit P Dt Go.Proofs.YtpbkdbicdimfhaaDoorW.PrintWords
set_option linter.unusedVariables false

def bs (l : List UInt8) : ByteArray := ⟨l.toArray⟩
theorem bs_data (l : List UInt8) : (bs l).data.toList = l := rfl
theorem tl (s : ByteArray) : s.toList = s.data.toList := ByteArray.toList_eq s
theorem bs_of (s : ByteArray) : bs s.data.toList = s := rfl
theorem bs_size (l : List UInt8) : (bs l).size = l.length := by simp [bs, ByteArray.size]
theorem size_data (s : ByteArray) : s.size = s.data.toList.length := by show s.data.size = _; rw [Array.length_toList]
theorem data_inj {a b : ByteArray} (h : a.data.toList = b.data.toList) : a = b := by rw [← bs_of a, ← bs_of b, h]
theorem app_data (a b : ByteArray) : (a ++ b).data.toList = a.data.toList ++ b.data.toList := by rw [ByteArray.data_append]; simp
theorem bs_append (a b : List UInt8) : bs a ++ bs b = bs (a ++ b) := data_inj (by rw [app_data]; rfl)
theorem numOf_eq (l : List UInt8) : numOf l = numL l := rfl
theorem pad_data (n : Int) : (pad n).data.toList = if n < 10 then 48 :: Lib.itoa n else Lib.itoa n := by
  unfold pad
  split
  · rw [app_data]; rfl
  · rfl
theorem pad_size (n : Int) : (pad n).size = (if n < 10 then 48 :: Lib.itoa n else Lib.itoa n).length := by rw [size_data, pad_data]
theorem pad_2 {n : Int} (h0 : 0 ≤ n) (h1 : n ≤ 99) : (pad n).data.toList = tx2 n := by rw [pad_data, (tx_at h0 h1).2.2]
theorem pad_4 {n : Int} (h0 : 1900 ≤ n) (h1 : n ≤ 2399) : (pad n).data.toList = y4 n := by rw [pad_data, if_neg (by omega), (y_at h0 h1).2.2]
theorem okPad_of {n : Int} (h0 : 0 ≤ n) (h1 : n ≤ 2399) (h : (pad n).data.toList.length ≤ 4) : okPad n := by
  refine ⟨by omega, by omega, ?_⟩
  rw [pad_data] at h
  have : (itoaB n).size = (Lib.itoa n).length := by unfold itoaB; simp [ByteArray.size]
  rw [this]
  split at h
  · simp at h; omega
  · omega
theorem fmtdate_eq {k : Nat} (y m d : Int) (hk : 101 ≤ k) : calendar_FormatDate.f k y m d = some (bs (fmD y m d)) := by
  unfold calendar_FormatDate.f fmD
  rw [valid_eq]
  simp only [Option.bind_some]
  by_cases hv : Cal.vd y m d = true
  · rw [if_pos hv, if_pos hv]
    obtain ⟨a, b, c, e, f, g⟩ := vd_small hv
    have p1 := pad_4 a b
    have p2 := pad_2 (n := m) (by omega) (by omega)
    have p3 := pad_2 (n := d) (by omega) (by omega)
    have hj : Lib.join (([y, m, d].map pad).map (·.data.toList)) [45] = fmtD y m d := by
      simp only [List.map_cons, List.map_nil, p1, p2, p3]
      simp [Lib.join, fmtD, y4, tx2]
    rw [joined_eq [y, m, d] (by
      intro n hn
      simp only [List.mem_cons, List.not_mem_nil, or_false] at hn
      rcases hn with rfl | rfl | rfl
      · exact okPad_of (by omega) (by omega) (by rw [p1]; exact (by decide : (4 : Nat) ≤ 4))
      · exact okPad_of (by omega) (by omega) (by rw [p2]; exact (by decide : (2 : Nat) ≤ 4))
      · exact okPad_of (by omega) (by omega) (by rw [p3]; exact (by decide : (2 : Nat) ≤ 4))) (by simp) (by simp) hk (by rw [hj]; exact (by decide : (10 : Nat) ≤ 140737488355328))]
    simp only [Option.bind_some]
    congr 1
    unfold joinB
    rw [hj]
    rfl
  · rw [if_neg hv, if_neg hv]
    rfl
/-- a month's text -/
def fmP (p : Int) : List UInt8 := if 0 ≤ p ∧ p ≤ 5999 then fmtP (1900 + p / 12) (p % 12 + 1) else []
theorem fmtperiod_eq {k : Nat} (p : Int) (hk : 101 ≤ k) : calendar_FormatPeriod.f k p = some (bs (fmP p)) := by
  unfold calendar_FormatPeriod.f calendar_month.f fmP
  by_cases h : 0 ≤ p ∧ p ≤ 5999
  · obtain ⟨h0, h1⟩ := h
    rw [if_pos (show p ≥ 0 from h0), decide_eq_true h1, if_pos ⟨h0, h1⟩]
    simp only [Option.bind_some, if_true]
    rw [month_eq p (by omega)]
    simp only [Option.bind_some]
    unfold mon
    rw [if_pos ⟨h0, h1⟩, tdiv_nn 12 h0, w64 (x := p / 12) (by omega) (by omega), w64 (x := 1900 + p / 12) (by omega) (by omega)]
    have p1 := pad_4 (n := 1900 + p / 12) (by omega) (by omega)
    have p2 := pad_2 (n := p % 12 + 1) (by omega) (by omega)
    have hj : Lib.join (([1900 + p / 12, p % 12 + 1].map pad).map (·.data.toList)) [45] = fmtP (1900 + p / 12) (p % 12 + 1) := by
      simp only [List.map_cons, List.map_nil, p1, p2]
      simp [Lib.join, fmtP, y4, tx2]
    rw [joined_eq [1900 + p / 12, p % 12 + 1] (by
      intro n hn
      simp only [List.mem_cons, List.not_mem_nil, or_false] at hn
      rcases hn with rfl | rfl
      · exact okPad_of (by omega) (by omega) (by rw [p1]; exact (by decide : (4 : Nat) ≤ 4))
      · exact okPad_of (by omega) (by omega) (by rw [p2]; exact (by decide : (2 : Nat) ≤ 4))) (by simp) (by simp) hk (by rw [hj]; exact (by decide : (7 : Nat) ≤ 140737488355328))]
    simp only [Option.bind_some]
    congr 1
    unfold joinB
    rw [hj]
    rfl
  · rw [if_neg h]
    by_cases h0 : p ≥ 0
    · rw [if_pos h0, decide_eq_false (by omega)]; rfl
    · rw [if_neg h0]; rfl
theorem son2 (x y : Int) : strOfNums [x, y] = bs [UInt8.ofNat x.toNat, UInt8.ofNat y.toNat] := rfl
theorem two_eq {n : Int} (h0 : 0 ≤ n) (h1 : n ≤ 99) : priceofficeref05_two.f n = some (bs (tx2 n)) := by
  unfold priceofficeref05_two.f
  rw [tdiv_nn 10 h0, tmod_nn 10 h0, w64 (x := n / 10) (by omega) (by omega), w64 (x := 48 + n / 10) (by omega) (by omega), w64 (x := 48 + n % 10) (by omega) (by omega), son2]
  unfold tx2 dg
  rw [show ((48 + n / 10) % 256).toNat = 48 + (n / 10).toNat by omega, show ((48 + n % 10) % 256).toNat = 48 + (n % 10).toNat by omega]
theorem y4_two (y : Int) (h0 : 0 ≤ y) (h1 : y ≤ 9999) : tx2 (y / 100) ++ tx2 (y % 100) = y4 y := by
  unfold tx2 y4
  rw [show y / 100 / 10 = y / 1000 by omega, show y % 100 / 10 = y / 10 % 10 by omega, show y % 100 % 10 = y % 10 by omega]
  rfl
theorem b45 : (⟨#[45]⟩ : ByteArray) = bs [45] := rfl
theorem rfmtdate_eq {k : Nat} (y m d : Int) (hk : 1 ≤ k) : priceofficeref05_FormatDate.f k y m d = some (bs (fmD y m d)) := by
  unfold priceofficeref05_FormatDate.f fmD
  rw [rvalid_eq y m d hk]
  simp only [Option.bind_some]
  by_cases hv : Cal.vd y m d = true
  · rw [if_pos hv, if_pos hv]
    obtain ⟨a, b, c, e, f, g⟩ := vd_small hv
    rw [tdiv_nn 100 (by omega), tmod_nn 100 (by omega), w64 (x := y / 100) (by omega) (by omega), two_eq (by omega) (by omega), two_eq (by omega) (by omega), two_eq (n := m) (by omega) (by omega), two_eq (n := d) (by omega) (by omega)]
    simp only [Option.bind_some]
    rw [b45, bs_append, bs_append, bs_append, bs_append, bs_append]
    have hl : ∀ n, (tx2 n).length = 2 := fun _ => rfl
    simp only [bs_size, List.length_append, hl, List.length_cons, List.length_nil]
    rw [if_pos (by decide), if_pos (by decide), if_pos (by decide), if_pos (by decide), if_pos (by decide)]
    congr 2
    rw [y4_two y (by omega) (by omega)]
    unfold fmtD
    simp
  · rw [if_neg hv, if_neg hv]
    rfl
theorem rfmtperiod_eq {k : Nat} (p : Int) (hk : 1 ≤ k) : priceofficeref05_FormatPeriod.f k p = some (bs (fmP p)) := by
  obtain ⟨k, rfl⟩ : ∃ q, k = q + 1 := ⟨k - 1, by omega⟩
  unfold priceofficeref05_FormatPeriod.f fmP
  by_cases h : 0 ≤ p ∧ p ≤ 5999
  · obtain ⟨h0, h1⟩ := h
    rw [if_neg (by omega), decide_eq_false (by omega), if_pos ⟨h0, h1⟩]
    simp only [priceofficeref05_FormatPeriod.j0]
    rw [if_neg (by simp), tdiv_nn 12 h0, tmod_nn 12 h0, w64 (x := p / 12) (by omega) (by omega), w64 (x := 1900 + p / 12) (by omega) (by omega), tdiv_nn 100 (by omega), tmod_nn 100 (by omega), w64 (x := (1900 + p / 12) / 100) (by omega) (by omega), w64 (x := p % 12 + 1) (by omega) (by omega), two_eq (by omega) (by omega), two_eq (by omega) (by omega), two_eq (n := p % 12 + 1) (by omega) (by omega)]
    simp only [Option.bind_some]
    rw [b45, bs_append, bs_append, bs_append]
    have hl : ∀ n, (tx2 n).length = 2 := fun _ => rfl
    simp only [bs_size, List.length_append, hl, List.length_cons, List.length_nil]
    rw [if_pos (by decide), if_pos (by decide), if_pos (by decide)]
    congr 2
    rw [y4_two _ (by omega) (by omega)]
    unfold fmtP
    simp
  · rw [if_neg h]
    by_cases h0 : p < 0
    · rw [if_pos h0]
      simp [priceofficeref05_FormatPeriod.j0]
      rfl
    · rw [if_neg h0, decide_eq_true (by omega)]
      simp [priceofficeref05_FormatPeriod.j0]
      rfl
theorem words_data (s : ByteArray) : (words s).map (·.data.toList) = wordsL s.data.toList := by
  unfold words wordsL
  rw [Lib.splitB_data, size_data]
theorem pN_eq (s : ByteArray) (j : Nat) : pN (words s) (words s).length j = ((wordsL s.data.toList).map numL).getD j 0 := by
  rw [← words_data]
  unfold pN
  rw [List.getD_eq_getElem?_getD, List.getElem?_map, List.getElem?_map]
  by_cases h : j < (words s).length
  · rw [if_pos h, List.getElem?_eq_getElem h]
    rfl
  · rw [if_neg h, List.getElem?_eq_none (by omega)]
    rfl
theorem splitK_len (sep : List UInt8) (save : Nat) : ∀ (k : Nat) (l : List UInt8), save = 0 → ∀ w ∈ Lib.splitK sep save k l, w.length ≤ l.length := by
  intro k
  induction k with
  | zero =>
    intro l _ w hw
    simp only [Lib.splitK, List.mem_singleton] at hw
    rw [hw]
    exact Nat.le_refl _
  | succ k ih =>
    intro l h0 w hw
    rw [Lib.splitK] at hw
    split at hw
    · rw [List.mem_singleton] at hw
      rw [hw]
      exact Nat.le_refl _
    · rcases List.mem_cons.1 hw with e | hw
      · rw [e, List.length_take]; omega
      · have := ih _ h0 w hw
        rw [List.length_drop] at this
        omega
theorem words_size (s : ByteArray) : ∀ x ∈ words s, x.size ≤ s.size := fun x hx => by
  have h : x.data.toList ∈ wordsL s.data.toList := by rw [← words_data]; exact List.mem_map.2 ⟨x, hx, rfl⟩
  have := splitK_len [45] 0 _ _ rfl _ h
  rw [size_data, size_data]
  exact this
theorem parse_eq {k : Nat} (s : ByteArray) (hs : s.size ≤ 1000) (hk : 101 ≤ k) : calendar_ParseDate.f k s = some (pd s.data.toList) := by
  unfold calendar_ParseDate.f pd
  rw [if_pos ⟨by omega, fun x hx => by have := words_size s x hx; omega⟩, pN_eq, pN_eq, pN_eq, fmtdate_eq _ _ _ hk]
  simp only [Option.bind_some]
  by_cases h : s.data.toList = []
  · rw [if_pos (show s.toList = [] by rw [tl]; exact h), if_neg (by simp [h])]
  · rw [if_neg (show ¬ s.toList = [] by rw [tl]; exact h)]
    by_cases h2 : fmD (((wordsL s.data.toList).map numL).getD 0 0) (((wordsL s.data.toList).map numL).getD 1 0) (((wordsL s.data.toList).map numL).getD 2 0) = s.data.toList
    · rw [if_pos (by rw [tl, tl, bs_data]; exact h2), if_pos ⟨h, h2⟩]
    · rw [if_neg (by rw [tl, tl, bs_data]; exact h2), if_neg (fun g => h2 g.2)]
theorem bt_at' (s : ByteArray) (i : Nat) (h : i < s.size) : bt s (i : Int) = ((s.data.toList.getD i 0).toNat : Int) := by
  have hl : i < s.data.toList.length := by rw [← size_data]; exact h
  have e : s.data.toList.getD i 0 = s.data.toList[i] := by rw [List.getD_eq_getElem?_getD, List.getElem?_eq_getElem hl]; rfl
  have e2 : bt s (i : Int) = (s[i].toNat : Int) := by unfold bt; simp [h]
  rw [e, e2]
  rfl
/-- how great a number of digits can be, c digits from the end of four -/
def topN : Nat → Int
  | 0 => 9999
  | 1 => 999
  | 2 => 99
  | 3 => 9
  | _ => 0
theorem topN_step (c : Nat) (hc : c ≤ 3) (a : Int) (h : a ≤ topN (c + 1)) : 10 * a + 9 ≤ topN c := by
  have : c = 0 ∨ c = 1 ∨ c = 2 ∨ c = 3 := by omega
  rcases this with rfl | rfl | rfl | rfl <;> simp only [topN] at * <;> omega
theorem topN_le (c : Nat) : topN c ≤ 9999 := by
  unfold topN
  split <;> omega
theorem number_l0 (s : ByteArray) (hs : s.size ≤ 1000) (x1 x2 : Nat) (he : x1 + x2 ≤ s.size) : ∀ (c k i : Nat) (a : Int), i + c = x1 + x2 → c < k → 0 ≤ a → a ≤ topN c → c ≤ 4 →
    priceofficeref05_number.l0 k s x1 x2 a i = some (nb a ((s.data.toList.drop i).take c)) := by
  intro c
  induction c with
  | zero =>
    intro k i a h hk _ _ _
    obtain ⟨k, rfl⟩ : ∃ q, k = q + 1 := ⟨k - 1, by omega⟩
    simp only [priceofficeref05_number.l0]
    rw [w64 (x := (x1 : Int) + x2) (by omega) (by omega), if_neg (by omega), List.take_zero]
    rfl
  | succ c ih =>
    intro k i a h hk a0 a1 hc
    obtain ⟨k, rfl⟩ : ∃ q, k = q + 1 := ⟨k - 1, by omega⟩
    have hi : i < s.size := by omega
    have hl : i < s.data.toList.length := by rw [← size_data]; exact hi
    simp only [priceofficeref05_number.l0]
    rw [w64 (x := (x1 : Int) + x2) (by omega) (by omega), if_pos (by omega), if_pos (by omega), if_pos (by omega), bt_at' s i hi]
    have eg : s.data.toList.getD i 0 = s.data.toList[i] := by rw [List.getD_eq_getElem?_getD, List.getElem?_eq_getElem hl]; rfl
    have hs1 := topN_step c (by omega) a a1
    have hs2 := topN_le c
    rw [eg, List.drop_eq_getElem_cons hl, List.take_succ_cons, nb]
    generalize s.data.toList[i] = ch
    have hch : ch.toNat < 256 := ch.toNat_lt
    by_cases h1 : (ch.toNat : Int) < 48
    · rw [if_pos h1, if_neg]
      unfold isD
      simp
      omega
    · rw [if_neg h1]
      by_cases h2 : (ch.toNat : Int) > 57
      · rw [if_pos h2, if_neg]
        unfold isD
        simp
        omega
      · rw [if_neg h2, if_pos (by unfold isD; simp; omega)]
        have hm : ((ch.toNat : Int) - 48) % 256 = vdg ch := by unfold vdg; omega
        have hv : 0 ≤ vdg ch ∧ vdg ch ≤ 9 := by unfold vdg; omega
        rw [hm, w64 (x := 10 * a) (by omega) (by omega), w64 (x := 10 * a + vdg ch) (by omega) (by omega), w64 (x := (i : Int) + 1) (by omega) (by omega), show (i : Int) + 1 = ((i + 1 : Nat) : Int) by omega]
        exact ih k (i + 1) _ (by omega) (by omega) (by omega) (by omega) (by omega)
theorem number_eq' {k : Nat} (s : ByteArray) (hs : s.size ≤ 1000) (i n : Nat) (hi : i + n ≤ s.size) (hn : n ≤ 4) (hk : 5 ≤ k) : priceofficeref05_number.f k s i n = some (nb 0 ((s.data.toList.drop i).take n)) := by
  unfold priceofficeref05_number.f
  refine number_l0 s hs i n hi n k i 0 rfl (by omega) (Int.le_refl _) ?_ hn
  have : n = 0 ∨ n = 1 ∨ n = 2 ∨ n = 3 ∨ n = 4 := by omega
  rcases this with rfl | rfl | rfl | rfl | rfl <;> decide
theorem rparse_eq {k : Nat} (s : ByteArray) (hs : s.size ≤ 1000) (hk : 10 ≤ k) : priceofficeref05_ParseDate.f k s = some (pd s.data.toList) := by
  rw [← rpd_eq]
  obtain ⟨k, rfl⟩ : ∃ q, k = q + 1 := ⟨k - 1, by omega⟩
  unfold priceofficeref05_ParseDate.f rpd
  have hsz := size_data s
  have hno : priceofficeref05_ParseDate.j0 (k + 1) s true = some (0, 0, 0, 54) := by simp [priceofficeref05_ParseDate.j0]
  by_cases h : (s.size : Int) = 10
  · rw [if_pos h, if_pos (show 4 < (s.size : Int) by omega), if_pos (show 7 < (s.size : Int) by omega), show bt s 4 = _ from bt_at' s 4 (by omega), show bt s 7 = _ from bt_at' s 7 (by omega)]
    have e45 : ∀ c : UInt8, ((c.toNat : Int) = 45) ↔ c = 45 := fun c => by
      constructor
      · intro h
        apply UInt8.toNat_inj.1
        show c.toNat = 45
        omega
      · rintro rfl; rfl
    by_cases h4 : s.data.toList.getD 4 0 = 45
    · rw [if_pos ((e45 _).2 h4)]
      by_cases h7 : s.data.toList.getD 7 0 = 45
      · rw [if_neg (by simp only [not_or, Classical.not_not]; exact ⟨by omega, h4, h7⟩)]
        have hb : (((s.data.toList.getD 7 0).toNat : Int) != 45) = false := by rw [h7]; rfl
        rw [hb]
        simp only [priceofficeref05_ParseDate.j0]
        rw [if_neg (by simp), show priceofficeref05_number.f k s 0 4 = _ from number_eq' s hs 0 4 (by omega) (by omega) (by omega), show priceofficeref05_number.f k s 5 2 = _ from number_eq' s hs 5 2 (by omega) (by omega) (by omega), show priceofficeref05_number.f k s 8 2 = _ from number_eq' s hs 8 2 (by omega) (by omega) (by omega)]
        simp only [Option.bind_some, List.drop_zero]
        rw [rvalid_eq _ _ _ (by omega)]
        simp only [Option.bind_some]
        by_cases hv : Cal.vd (nb 0 (s.data.toList.take 4)) (nb 0 ((s.data.toList.drop 5).take 2)) (nb 0 ((s.data.toList.drop 8).take 2)) = true
        · rw [if_pos hv, if_pos hv]
        · rw [if_neg hv, if_neg hv]
      · rw [if_pos (.inr (.inr h7))]
        have hb : (((s.data.toList.getD 7 0).toNat : Int) != 45) = true := by
          rw [bne_iff_ne]
          exact fun e => h7 ((e45 _).1 e)
        rw [hb, hno]
    · rw [if_neg (fun e => h4 ((e45 _).1 e)), if_pos (.inr (.inl h4)), hno]
  · rw [if_neg h, if_pos (.inl (by omega)), hno]
/-- what ParsePeriod answers -/
def pp (s : List UInt8) : Int × Int := let r := pd (s ++ [45, 48, 49]); if r.2.2.2 = 0 then (12 * (r.1 - 1900) + r.2.1 - 1, 0) else (0, 54)
theorem b4501 : (⟨#[45, 48, 49]⟩ : ByteArray) = bs [45, 48, 49] := rfl
theorem app4501 (s : ByteArray) : (s ++ (⟨#[45, 48, 49]⟩ : ByteArray)).data.toList = s.data.toList ++ [45, 48, 49] := by rw [app_data]
theorem app_size (s : ByteArray) : (s ++ (⟨#[45, 48, 49]⟩ : ByteArray)).size = s.size + 3 := by rw [size_data, app4501, List.length_append, ← size_data]; rfl
theorem period_num (r : Int × Int × Int × Int) (h : (∃ y m d, Cal.vd y m d = true ∧ r = (y, m, d, 0)) ∨ r = (0, 0, 0, 54)) (o : Int) (ho : r.2.2.2 ≠ 0 → o = 54) :
    (if r.2.2.2 = 0 then (some (wrap64 ((wrap64 ((wrap64 (12 * (wrap64 (r.1 - 1900)))) + r.2.1)) - 1), (0 : Int))) else some (0, o)) = some (if r.2.2.2 = 0 then (12 * (r.1 - 1900) + r.2.1 - 1, 0) else (0, 54)) := by
  rcases h with ⟨y, m, d, hv, rfl⟩ | rfl
  · obtain ⟨a, b, c, e, f, g⟩ := vd_small hv
    simp only [if_true]
    rw [w64 (x := y - 1900) (by omega) (by omega), w64 (x := 12 * (y - 1900)) (by omega) (by omega), w64 (x := 12 * (y - 1900) + m) (by omega) (by omega), w64 (x := 12 * (y - 1900) + m - 1) (by omega) (by omega)]
  · rw [ho (by decide)]; rfl
theorem pd_form (s : List UInt8) : (∃ y m d, Cal.vd y m d = true ∧ pd s = (y, m, d, 0)) ∨ pd s = (0, 0, 0, 54) := by
  rcases pd_cases s with ⟨y, m, d, h1, _, h2⟩ | ⟨_, h⟩
  · exact .inl ⟨y, m, d, h1, h2⟩
  · exact .inr h
theorem pperiod_eq {k : Nat} (s : ByteArray) (hs : s.size ≤ 900) (hk : 101 ≤ k) : calendar_ParsePeriod.f k s = some (pp s.data.toList) := by
  unfold calendar_ParsePeriod.f pp
  rw [if_pos (by omega), parse_eq _ (by rw [app_size]; omega) hk, app4501]
  simp only [Option.bind_some]
  exact period_num _ (pd_form _) 54 fun _ => rfl
theorem rpperiod_eq {k : Nat} (s : ByteArray) (hs : s.size ≤ 900) (hk : 101 ≤ k) : priceofficeref05_ParsePeriod.f k s = some (pp s.data.toList) := by
  unfold priceofficeref05_ParsePeriod.f pp
  have hsz := size_data s
  by_cases h : (s.size : Int) = 7
  · rw [if_pos h, if_pos (by omega), rparse_eq _ (by rw [app_size]; omega) (by omega), app4501]
    simp only [Option.bind_some]
    refine period_num _ (pd_form _) _ fun hne => ?_
    rcases pd_form (s.data.toList ++ [45, 48, 49]) with ⟨y, m, d, _, e⟩ | e
    · rw [e] at hne; exact absurd rfl hne
    · rw [e]
  · rw [if_neg h]
    rcases pd_cases (s.data.toList ++ [45, 48, 49]) with ⟨y, m, d, hv, e, _⟩ | ⟨_, e⟩
    · have := congrArg List.length e
      rw [List.length_append] at this
      have h10 : (fmtD y m d).length = 10 := rfl
      rw [h10] at this
      simp at this
      omega
    · rw [e]; rfl
theorem pp_ok (p : Int) (h0 : 0 ≤ p) (h1 : p ≤ 5999) : pp (fmP p) = (p, 0) := by
  have hv : Cal.vd (1900 + p / 12) (p % 12 + 1) 1 = true := Cal.vd_mk ⟨by omega, by omega, by omega, by omega, by omega, by have := Cal.ln_bd (1900 + p / 12) (p % 12 + 1); omega⟩
  have e : fmP p = fmtP (1900 + p / 12) (p % 12 + 1) := by unfold fmP; rw [if_pos ⟨h0, h1⟩]
  unfold pp
  rw [e, fmtP_D, pd_ok hv]
  simp only [if_true]
  congr 1
  omega
end Go.Proofs.YtpbkdbicdimfhaaDoor
