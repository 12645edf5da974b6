/- Compare as one order of lists of numbers; the sanity check. -/
import Derived.Test.YtpnoliognpmkmaaDoorP1
import Derived.Test.YtpnoliognpmkmaaDoorP2
import Derived.Test.YtpnoliognpmkmaaDoorP3
import Derived.Test.YtpnoliognpmkmaaDoorClsB
import Derived.Lib.LastIndexLaws
namespace Go.Proofs.YtpnoliognpmkmaaDoor
open Go.RowKit P Cls Go.Proofs.YtpnoliognpmkmaaDoorW.PrintWords
set_option linter.unusedVariables false

def lexi : List Int → List Int → Int
  | [], [] => 0
  | [], _ :: _ => -1
  | _ :: _, [] => 1
  | x :: a, y :: b => if x < y then -1 else if y < x then 1 else lexi a b
theorem lexi_turned : ∀ a b : List Int, lexi b a = -lexi a b
  | [], [] => rfl
  | [], _ :: _ => rfl
  | _ :: _, [] => rfl
  | x :: a, y :: b => by
    have ih := lexi_turned a b
    simp only [lexi]
    by_cases h1 : x < y
    · rw [if_pos h1, if_neg (by omega), if_pos h1]; rfl
    · by_cases h2 : y < x
      · simp only [if_neg h1, if_pos h2]
      · simp only [if_neg h2, if_neg h1, ih]
theorem lexi_zero : ∀ a b : List Int, lexi a b = 0 ↔ a = b
  | [], [] => by simp [lexi]
  | [], _ :: _ => by simp [lexi]
  | _ :: _, [] => by simp [lexi]
  | x :: a, y :: b => by
    have ih := lexi_zero a b
    simp only [lexi]
    by_cases h1 : x < y
    · rw [if_pos h1]; simp; omega
    · rw [if_neg h1]
      by_cases h2 : y < x
      · rw [if_pos h2]; simp; omega
      · rw [if_neg h2, ih]
        have : x = y := by omega
        simp [this]
theorem lexi_trans : ∀ a b c : List Int, lexi a b ≤ 0 → lexi b c ≤ 0 → lexi a c ≤ 0
  | [], _, [] => fun _ _ => by simp [lexi]
  | [], _, _ :: _ => fun _ _ => by simp [lexi]
  | _ :: _, [], _ => fun h _ => by simp [lexi] at h
  | _ :: _, _ :: _, [] => fun _ h => by simp [lexi] at h
  | x :: a, y :: b, z :: c => fun h1 h2 => by
    have ih := lexi_trans a b c
    simp only [lexi] at *
    by_cases a1 : x < y
    · by_cases a2 : y < z
      · rw [if_pos (by omega)]; decide
      · rw [if_neg a2] at h2
        by_cases a3 : z < y
        · rw [if_pos a3] at h2; omega
        · rw [if_pos (by omega)]; decide
    · rw [if_neg a1] at h1
      by_cases a2 : y < x
      · rw [if_pos a2] at h1; omega
      · rw [if_neg a2] at h1
        by_cases a3 : y < z
        · rw [if_pos (by omega)]; decide
        · rw [if_neg a3] at h2
          by_cases a4 : z < y
          · rw [if_pos a4] at h2; omega
          · rw [if_neg a4] at h2
            rw [if_neg (by omega), if_neg (by omega)]
            exact ih h1 h2
theorem lexi_range : ∀ a b : List Int, -1 ≤ lexi a b ∧ lexi a b ≤ 1
  | [], [] => by simp [lexi]
  | [], _ :: _ => by simp [lexi]
  | _ :: _, [] => by simp [lexi]
  | x :: a, y :: b => by
    have := lexi_range a b
    simp only [lexi]
    split
    · omega
    · split <;> omega
theorem bytes_lexi : ∀ a b : List UInt8, Lib.compareBytes a b = lexi (a.map fun c => (c.toNat : Int)) (b.map fun c => (c.toNat : Int))
  | [], [] => rfl
  | [], _ :: _ => rfl
  | _ :: _, [] => rfl
  | x :: a, y :: b => by
    have ih := bytes_lexi a b
    simp only [Lib.compareBytes, List.map_cons, lexi, ih, UInt8.lt_iff_toNat_lt]
    by_cases h1 : x.toNat < y.toNat
    · rw [if_pos h1, if_pos (by omega)]
    · rw [if_neg h1, if_neg (show ¬ ((x.toNat : Int) < y.toNat) by omega)]
      by_cases h2 : y.toNat < x.toNat
      · rw [if_pos h2, if_pos (show ((y.toNat : Int) < x.toNat) by omega)]
      · rw [if_neg h2, if_neg (show ¬ ((y.toNat : Int) < x.toNat) by omega)]
/-- what a string is compared by -/
def keyOf (s : List UInt8) : List Int := kl s :: if kl s = 1 then (pr s).1 else s.map fun c => (c.toNat : Int)
def cmpS (a b : List UInt8) : Int := lexi (keyOf a) (keyOf b)
theorem kl_one {s : List UInt8} (h : kl s = 1) : ∃ q, isC s q ∧ pr s = (q, 0) := by
  rcases pr_cases s with ⟨q, hq, e⟩ | ⟨_, e⟩
  · exact ⟨q, hq, e⟩
  · unfold kl isB at h
    rw [e] at h
    split at h
    · cases h
    · simp at h
theorem map_nat_inj : ∀ a b : List UInt8, (a.map fun c => (c.toNat : Int)) = (b.map fun c => (c.toNat : Int)) → a = b
  | [], [], _ => rfl
  | [], _ :: _, h => by simp at h
  | _ :: _, [], h => by simp at h
  | x :: a, y :: b, h => by
    simp only [List.map_cons, List.cons.injEq] at h
    rw [map_nat_inj a b h.2, UInt8.toNat_inj.1 (show x.toNat = y.toNat by omega)]
theorem keyOf_inj {a b : List UInt8} (h : keyOf a = keyOf b) : a = b := by
  unfold keyOf at h
  injection h with h1 h2
  rw [← h1] at h2
  by_cases c : kl a = 1
  · rw [if_pos c, if_pos c] at h2
    obtain ⟨q, hq, e⟩ := kl_one c
    obtain ⟨q2, hq2, e2⟩ := kl_one (h1 ▸ c)
    rw [e, e2] at h2
    simp only at h2
    rw [← hq.2, ← hq2.2, h2]
  · rw [if_neg c, if_neg c] at h2
    exact map_nat_inj a b h2
theorem cmpS_turned (a b : List UInt8) : cmpS b a = -cmpS a b := lexi_turned _ _
theorem cmpS_zero (a b : List UInt8) : cmpS a b = 0 ↔ a = b := (lexi_zero _ _).trans ⟨keyOf_inj, fun h => by rw [h]⟩
theorem cmpS_trans (a b c : List UInt8) : cmpS a b ≤ 0 → cmpS b c ≤ 0 → cmpS a c ≤ 0 := lexi_trans _ _ _
theorem cmpS_range (a b : List UInt8) : -1 ≤ cmpS a b ∧ cmpS a b ≤ 1 := lexi_range _ _

theorem icmp_eq (x y : Int) : cmp_Compare_int.f x y = some (if x < y then -1 else if x > y then 1 else 0) := by
  unfold cmp_Compare_int.f cmp_isNaN_int.f
  simp only [Option.bind_some, bne_self_eq_false, Bool.false_eq_true, if_false]
  split
  · rfl
  · split <;> rfl
theorem scmp_l0 (x y : List Int) (hx : x.length ≤ 1000) (hy : y.length ≤ 1000) : ∀ (c k i : Nat), i + c = x.length → c < k → i ≤ y.length →
    slices_Compare_int_int.l0 k x y x x.length i = some (if (x.take i) = (y.take i) then lexi (x.drop i) (y.drop i) else lexi (x.drop i) (y.drop i)) := by
  intro c
  induction c with
  | zero =>
    intro k i h hk hi
    obtain ⟨k, rfl⟩ : ∃ q, k = q + 1 := ⟨k - 1, by omega⟩
    simp only [slices_Compare_int_int.l0, ite_self]
    rw [if_neg (by omega), List.drop_eq_nil_of_le (by omega)]
    by_cases hl : x.length < y.length
    · rw [if_pos (by omega)]
      rw [List.drop_eq_getElem_cons (show i < y.length by omega)]
      rfl
    · rw [if_neg (by omega), List.drop_eq_nil_of_le (by omega)]
      rfl
  | succ c ih =>
    intro k i h hk hi
    obtain ⟨k, rfl⟩ : ∃ q, k = q + 1 := ⟨k - 1, by omega⟩
    simp only [slices_Compare_int_int.l0, ite_self]
    have hix : i < x.length := by omega
    rw [if_pos (by omega), if_pos (by omega), if_pos (by omega), List.drop_eq_getElem_cons hix]
    by_cases hl : (i : Int) ≥ y.length
    · rw [if_pos hl, List.drop_eq_nil_of_le (show y.length ≤ i by omega)]
      rfl
    · rw [if_neg hl, if_pos (by omega)]
      have hiy : i < y.length := by omega
      rw [List.drop_eq_getElem_cons hiy, rd_get hix, rd_get hiy, icmp_eq]
      simp only [Option.bind_some, lexi]
      by_cases h1 : x[i] < y[i]
      · simp only [if_pos h1]; rfl
      · simp only [if_neg h1]
        by_cases h2 : x[i] > y[i]
        · simp only [if_pos h2]; rfl
        · simp only [if_neg h2]
          rw [if_pos trivial, w64 (x := (i : Int) + 1) (by omega) (by omega), show (i : Int) + 1 = ((i + 1 : Nat) : Int) by omega, ih k (i + 1) (by omega) (by omega) (by omega)]
          simp
theorem scmp_eq (k : Nat) (x y : List Int) (hx : x.length ≤ 1000) (hy : y.length ≤ 1000) (hk : 2000 ≤ k) : slices_Compare_int_int.f k x y = some (lexi x y) := by
  unfold slices_Compare_int_int.f
  have := scmp_l0 x y hx hy x.length k 0 (by omega) (by omega) (by omega)
  rw [show (0 : Int) = ((0 : Nat) : Int) from rfl, this]
  simp
theorem pr_len (s : List UInt8) : (pr s).1.length ≤ 5 := by
  rcases pr_cases s with ⟨q, hq, e⟩ | ⟨_, e⟩
  · rw [e]; exact hq.1.2.1
  · rw [e]; simp
theorem compare_eq (k : Nat) (a b : ByteArray) (ha : a.size ≤ 1000) (hb : b.size ≤ 1000) (hk : 2000 ≤ k) : classification_Compare.f k a b = some (cmpS a.data.toList b.data.toList) := by
  unfold classification_Compare.f
  rw [in_eq k a ha hk, in_eq k b hb hk]
  simp only [Option.bind_some]
  have hla := pr_len a.data.toList
  have hlb := pr_len b.data.toList
  by_cases h : kl a.data.toList = kl b.data.toList
  · rw [if_pos h]
    by_cases h1 : kl a.data.toList = 1
    · rw [if_pos h1, scmp_eq k _ _ (by omega) (by omega) hk]
      simp only [Option.bind_some]
      unfold cmpS keyOf
      rw [if_pos h1, if_pos (h ▸ h1), h]
      simp [lexi]
    · rw [if_neg h1]
      unfold strings_Compare.f
      simp only [Option.bind_some]
      unfold cmpS keyOf
      rw [if_neg h1, if_neg (h ▸ h1), h, bytes_lexi]
      simp [lexi]
  · rw [if_neg h, scmp_eq k _ _ (by simp) (by simp) hk]
    simp only [Option.bind_some]
    unfold cmpS keyOf
    simp only [lexi]
    by_cases h1 : kl a.data.toList < kl b.data.toList
    · rw [if_pos h1, if_pos h1]
    · rw [if_neg h1, if_neg h1, if_pos (by omega), if_pos (by omega)]
/-! Level, Parent, the sanity check -/
def lev (s : List UInt8) : Int := if (pr s).2 = 0 ∨ s = [] then (pr s).1.length else -1
theorem level_eq (k : Nat) (s : ByteArray) (hs : s.size ≤ 1000) (hk : 2000 ≤ k) : classification_Level.f k s = some (lev s.data.toList) := by
  unfold classification_Level.f lev
  rw [parse_eq k s hs hk]
  simp only [Option.bind_some, ByteArray.toList_eq]
  by_cases h : (pr s.data.toList).2 = 0
  · rw [if_pos h, if_pos (Or.inl h)]
  · rw [if_neg h]
    by_cases h2 : s.data.toList = []
    · rw [if_pos h2, if_pos (Or.inr h2)]
    · rw [if_neg h2, if_neg (by rintro (e | e); exact h e; exact h2 e)]
theorem last_bound (s : List UInt8) : Lib.lastIndex s [46] ≤ s.length := by
  unfold Lib.lastIndex
  split
  · rename_i h
    simp only [List.length_cons, List.length_nil] at *
    rcases Lib.lastOcc_spec s [46] (s.length - (0 + 1) + 1) with ⟨e, _⟩ | ⟨i, hi, e, _⟩
    · rw [e]; omega
    · rw [e]; omega
  · omega
/-- what Parent answers -/
def par (s : List UInt8) : List UInt8 × Bool := if isB s = true then (s.take (max (Lib.lastIndex s [46]) 0).toNat, true) else ([], false)
theorem parent_eq (k : Nat) (s : ByteArray) (hs : s.size ≤ 1000) (hk : 2000 ≤ k) : classification_Parent.f k s = some (bs (par s.data.toList).1, (par s.data.toList).2) := by
  have hr := last_bound s.data.toList
  rw [← size_data] at hr
  unfold classification_Parent.f par
  rw [is_eq k s hs hk]
  simp only [Option.bind_some]
  by_cases h : isB s.data.toList = true
  · rw [if_pos h, if_pos h]
    unfold strings_LastIndex.f
    rw [if_pos (by omega)]
    simp only [Option.bind_some]
    have e : mx (Lib.lastIndex s.data.toList (⟨#[46]⟩ : ByteArray).data.toList) 0 = max (Lib.lastIndex s.data.toList [46]) 0 := by
      show mx (Lib.lastIndex s.data.toList [46]) 0 = _
      unfold mx
      split <;> omega
    rw [e, if_pos (by omega), if_pos (by omega)]
    congr 2
    apply data_inj
    rw [Lib.extract_from_zero]
    rfl
  · rw [if_neg h, if_neg h]
    rfl
theorem awake_plain : par [48, 49, 46, 49, 48] = ([48, 49], true) ∧ lev [48, 49, 46, 49, 46, 49, 50] = 3 ∧ cmpS [48, 49, 46, 50] [48, 49, 46, 49, 48] = -1 := by decide +kernel
theorem awake_eq (k : Nat) (hk : 2000 ≤ k) : priceofficelaw06_awake.f k = some true := by
  obtain ⟨h1, h2, h3⟩ := awake_plain
  unfold priceofficelaw06_awake.f
  rw [parent_eq k _ (by decide) hk, level_eq k _ (by decide) hk, compare_eq k _ _ (by decide) (by decide) hk]
  simp only [Option.bind_some]
  rw [h1, h2, h3]
  simp [bs_toList]
end Go.Proofs.YtpnoliognpmkmaaDoor
