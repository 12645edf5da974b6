/- The plain laws of the calendar's numbers: what the printed functions of the program and of the reference compute, told by the plain arithmetic. -/
import Derived.Test.YtpbkdbicdimfhaaDoorP2
import Derived.Test.YtpbkdbicdimfhaaDoorP3
import Derived.Test.YtpbkdbicdimfhaaDoorP4
import Derived.Test.YtpbkdbicdimfhaaDoorP5
import Derived.Test.YtpbkdbicdimfhaaDoorP6
import Derived.Test.YtpbkdbicdimfhaaDoorP7
import Derived.OpenShut
namespace Go.Proofs.YtpbkdbicdimfhaaDoor
open Go.RowKit P Go.Proofs.YtpbkdbicdimfhaaDoorW.PrintWords
set_option linter.unusedVariables false

theorem w64 {x : Int} (h0 : -9223372036854775808 ≤ x) (h1 : x ≤ 9223372036854775807) : wrap64 x = x := by unfold wrap64; omega
theorem tmod_nn {a : Int} (b : Int) (h : 0 ≤ a) : Int.tmod a b = a % b := Int.tmod_eq_emod_of_nonneg h
theorem tdiv_nn {a : Int} (b : Int) (h : 0 ≤ a) : Int.tdiv a b = a / b := Int.tdiv_eq_ediv_of_nonneg h

theorem length_eq {y m : Int} (h0 : 1900 ≤ y) (h1 : y ≤ 2400) (h2 : 1 ≤ m) (h3 : m ≤ 12) : calendar_length.f y m = some (Cal.ln y m) := by
  unfold calendar_length.f; rw [if_pos ⟨h0, h1, h2, h3⟩]
theorem before_eq {y : Int} (h0 : 1900 ≤ y) (h1 : y ≤ 2400) : calendar_before.f y = some (Cal.bef y) := by
  unfold calendar_before.f; rw [if_pos ⟨h0, h1⟩]

theorem rlength_j {k : Nat} {y m : Int} (b : Bool) (h0 : 0 ≤ y) (hk : 1 ≤ k) (hb : b = true ↔ (m = 4 ∨ m = 6 ∨ m = 9 ∨ m = 11)) : priceofficeref05_length.j0 k y m b = some (Cal.ln y m) := by
  obtain ⟨k, rfl⟩ : ∃ n, k = n + 1 := ⟨k - 1, by omega⟩
  simp only [priceofficeref05_length.j0, tmod_nn _ h0]
  unfold Cal.ln
  by_cases hm : m = 4 ∨ m = 6 ∨ m = 9 ∨ m = 11
  · rw [if_pos (hb.2 hm), if_pos hm]
  · rw [if_neg (fun h => hm (hb.1 h)), if_neg hm]
    by_cases h2 : m = 2
    · rw [if_pos h2, if_pos h2]
      unfold Cal.lp
      by_cases a : y % 400 = 0
      · rw [if_pos a, if_pos (.inr a)]; rfl
      · rw [if_neg a]
        by_cases b : y % 4 = 0
        · rw [if_pos b]
          by_cases c : y % 100 = 0
          · rw [if_pos c, if_neg (by omega)]; rfl
          · rw [if_neg c, if_pos (.inl ⟨b, c⟩)]; rfl
        · rw [if_neg b, if_neg (by omega)]; rfl
    · rw [if_neg h2, if_neg h2]
theorem rlength_eq {k : Nat} {y m : Int} (h0 : 0 ≤ y) (hk : 1 ≤ k) : priceofficeref05_length.f k y m = some (Cal.ln y m) := by
  unfold priceofficeref05_length.f
  by_cases h4 : m = 4
  · rw [if_pos h4]; exact rlength_j _ h0 hk (by simp [h4])
  · rw [if_neg h4]
    by_cases h6 : m = 6
    · rw [if_pos h6]; exact rlength_j _ h0 hk (by simp [h6])
    · rw [if_neg h6]
      by_cases h9 : m = 9
      · rw [if_pos h9]; exact rlength_j _ h0 hk (by simp [h9])
      · rw [if_neg h9]; exact rlength_j _ h0 hk (by simp [h4, h6, h9])

theorem valid_eq (y m d : Int) : calendar_ValidDate.f y m d = some (Cal.vd y m d) := by
  unfold calendar_ValidDate.f
  by_cases h1 : y ≥ 1900
  · rw [if_pos h1]
    by_cases h2 : y ≤ 2399
    · rw [if_pos h2]
      by_cases h3 : m ≥ 1
      · rw [if_pos h3]
        by_cases h4 : m ≤ 12
        · rw [if_pos h4]
          by_cases h5 : d ≥ 1
          · rw [if_pos h5, length_eq h1 (by omega) h3 h4]
            show some (decide (d ≤ Cal.ln y m)) = _
            by_cases h6 : d ≤ Cal.ln y m
            · rw [decide_eq_true h6, Cal.vd_mk ⟨h1, h2, h3, h4, h5, h6⟩]
            · rw [decide_eq_false h6, Cal.vd_no (by omega)]
          · rw [if_neg h5, Cal.vd_no (by omega)]
        · rw [if_neg h4, Cal.vd_no (by omega)]
      · rw [if_neg h3, Cal.vd_no (by omega)]
    · rw [if_neg h2, Cal.vd_no (by omega)]
  · rw [if_neg h1, Cal.vd_no (by omega)]
theorem rvalid_eq {k : Nat} (y m d : Int) (hk : 1 ≤ k) : priceofficeref05_ValidDate.f k y m d = some (Cal.vd y m d) := by
  unfold priceofficeref05_ValidDate.f
  by_cases h1 : y ≥ 1900
  · rw [if_pos h1]
    by_cases h2 : y ≤ 2399
    · rw [if_pos h2]
      by_cases h3 : m ≥ 1
      · rw [if_pos h3]
        by_cases h4 : m ≤ 12
        · rw [if_pos h4]
          by_cases h5 : d ≥ 1
          · rw [if_pos h5, rlength_eq (by omega) hk]
            show some (decide (d ≤ Cal.ln y m)) = _
            by_cases h6 : d ≤ Cal.ln y m
            · rw [decide_eq_true h6, Cal.vd_mk ⟨h1, h2, h3, h4, h5, h6⟩]
            · rw [decide_eq_false h6, Cal.vd_no (by omega)]
          · rw [if_neg h5, Cal.vd_no (by omega)]
        · rw [if_neg h4, Cal.vd_no (by omega)]
      · rw [if_neg h3, Cal.vd_no (by omega)]
    · rw [if_neg h2, Cal.vd_no (by omega)]
  · rw [if_neg h1, Cal.vd_no (by omega)]

theorem number_l {y m d : Int} (hy0 : 1900 ≤ y) (hy1 : y ≤ 2400) (hm1 : m ≤ 12) (b : Int) (b0 : -1000000 ≤ b) (b1 : b ≤ 1000000) (c : Nat) : ∀ (k : Nat) (i : Int), 1 ≤ i → i ≤ m → m - i = c → c < k →
    calendar_Number.l0 k (b + Cal.cum y i) i y m d = some (b + Cal.cum y m) := by
  induction c with
  | zero =>
    intro k i h1 h2 h3 hk
    obtain ⟨k, rfl⟩ : ∃ q, k = q + 1 := ⟨k - 1, by omega⟩
    have : i = m := by omega
    subst this
    simp only [calendar_Number.l0]
    rw [if_neg (by omega)]
  | succ c ih =>
    intro k i h1 h2 h3 hk
    obtain ⟨k, rfl⟩ : ∃ q, k = q + 1 := ⟨k - 1, by omega⟩
    simp only [calendar_Number.l0]
    have hl := Cal.ln_bd y i
    have hb := Cal.cum_bd y i
    have hc := Cal.cum_succ y i h1 (by omega)
    rw [if_pos (by omega), length_eq hy0 hy1 h1 (by omega)]
    simp only [Option.bind_some]
    rw [w64 (x := b + Cal.cum y i + Cal.ln y i) (by omega) (by omega), w64 (x := i + 1) (by omega) (by omega), show b + Cal.cum y i + Cal.ln y i = b + Cal.cum y (i + 1) by omega]
    exact ih k _ (by omega) (by omega) (by omega) (by omega)
theorem number_eq {k : Nat} (y m d : Int) (hk : 12 ≤ k) : calendar_Number.f k y m d = some (Cal.num y m d) := by
  unfold calendar_Number.f
  rw [valid_eq]
  simp only [Option.bind_some]
  cases hv : Cal.vd y m d with
  | false => rw [if_neg (by simp), Cal.num_no hv]
  | true =>
    obtain ⟨a1, a2, a3, a4, a5, a6⟩ := Cal.vd_of hv
    have hl := Cal.ln_bd y m
    have hb := Cal.bef_bd y a1 (by omega)
    rw [if_pos rfl, before_eq a1 (by omega)]
    simp only [Option.bind_some]
    rw [w64 (x := Cal.bef y + d) (by omega) (by omega), w64 (by omega) (by omega)]
    have h1 := number_l (y := y) (m := m) (d := d) a1 (by omega) a4 (Cal.bef y + d - 1) (by omega) (by omega) (m - 1).toNat k 1 (by omega) a3 (by omega) (by omega)
    rw [Cal.cum_one, Int.add_zero] at h1
    rw [h1, Cal.num_vd hv]
    congr 1; omega

theorem rfirst_l {p : Int} (hp : p ≤ 6000) (c : Nat) : ∀ (k i : Nat), (i : Int) ≤ p → p - i = c → c + 1 < k →
    priceofficeref05_FirstDay.l0 k p (Cal.fd i) i = some (Cal.fd p.toNat) := by
  induction c with
  | zero =>
    intro k i h2 h3 hk
    obtain ⟨k, rfl⟩ : ∃ q, k = q + 1 := ⟨k - 1, by omega⟩
    simp only [priceofficeref05_FirstDay.l0]
    rw [if_neg (by omega), show p.toNat = i by omega]
  | succ c ih =>
    intro k i h2 h3 hk
    obtain ⟨k, rfl⟩ : ∃ q, k = q + 1 := ⟨k - 1, by omega⟩
    simp only [priceofficeref05_FirstDay.l0]
    have hl := Cal.ln_bd (1900 + (i : Int) / 12) ((i : Int) % 12 + 1)
    have hb := Cal.fd_bd i (by omega)
    rw [if_pos (by omega), tdiv_nn _ (by omega), tmod_nn _ (by omega), w64 (x := (i : Int) / 12) (by omega) (by omega), w64 (x := 1900 + (i : Int) / 12) (by omega) (by omega), w64 (x := (i : Int) % 12 + 1) (by omega) (by omega), rlength_eq (by omega) (by omega)]
    simp only [Option.bind_some]
    rw [w64 (x := Cal.fd i + _) (by omega) (by omega), w64 (x := (i : Int) + 1) (by omega) (by omega)]
    have h1 := ih k (i + 1) (by omega) (by omega) (by omega)
    rw [Cal.fd] at h1
    exact h1
/-- the first day of a period, or -1 -/
def firstDay (p : Int) : Int := if 0 ≤ p ∧ p ≤ 5999 then Cal.fd p.toNat else -1
theorem firstDay_in {p : Int} (h0 : 0 ≤ p) (h1 : p ≤ 5999) : firstDay p = Cal.fd p.toNat := by unfold firstDay; rw [if_pos ⟨h0, h1⟩]
theorem firstDay_out {p : Int} (h : ¬ (0 ≤ p ∧ p ≤ 5999)) : firstDay p = -1 := by unfold firstDay; rw [if_neg h]
theorem rfirst_eq {k : Nat} (p : Int) (hk : 6010 ≤ k) : priceofficeref05_FirstDay.f k p = some (firstDay p) := by
  obtain ⟨k, rfl⟩ : ∃ q, k = q + 1 := ⟨k - 1, by omega⟩
  unfold priceofficeref05_FirstDay.f
  by_cases h0 : p < 0
  · rw [if_pos h0, firstDay_out (by omega)]
    simp only [priceofficeref05_FirstDay.j0, if_true]
  · rw [if_neg h0]
    simp only [priceofficeref05_FirstDay.j0]
    by_cases h1 : p > 5999
    · rw [if_pos (decide_eq_true h1), firstDay_out (by omega)]
    · rw [if_neg (by simpa using h1), firstDay_in (by omega) (by omega)]
      have h2 := rfirst_l (p := p) (by omega) p.toNat k 0 (by simp; omega) (by simp; omega) (by omega)
      exact h2
theorem rnumber_eq {k : Nat} (y m d : Int) (hk : 6010 ≤ k) : priceofficeref05_Number.f k y m d = some (Cal.num y m d) := by
  unfold priceofficeref05_Number.f
  rw [rvalid_eq y m d (by omega)]
  simp only [Option.bind_some]
  cases hv : Cal.vd y m d with
  | false => rw [if_neg (by simp), Cal.num_no hv]
  | true =>
    obtain ⟨a1, a2, a3, a4, a5, a6⟩ := Cal.vd_of hv
    have hl := Cal.ln_bd y m
    rw [if_pos rfl, w64 (x := y - 1900) (by omega) (by omega), w64 (x := 12 * (y - 1900)) (by omega) (by omega), w64 (x := 12 * (y - 1900) + m) (by omega) (by omega), w64 (x := 12 * (y - 1900) + m - 1) (by omega) (by omega), rfirst_eq _ hk]
    simp only [Option.bind_some]
    rw [firstDay_in (by omega) (by omega)]
    have hb := Cal.fd_bd (12 * (y - 1900) + m - 1).toNat (by omega)
    rw [w64 (x := _ + d) (by omega) (by omega), w64 (by omega) (by omega), Cal.num_fd hv]

/-! ### texts -/
/-- a number with at least two digits -/
def pad (n : Int) : ByteArray := if n < 10 then (⟨#[48]⟩ : ByteArray) ++ itoaB n else itoaB n
def okPad (n : Int) : Prop := -9223372036854775808 ≤ n ∧ n ≤ 9223372036854775807 ∧ (itoaB n).size ≤ 100
theorem joined_l (xs : List Int) (hx : ∀ n ∈ xs, okPad n) (hl : xs.length ≤ 100) (c : Nat) : ∀ (k i : Nat), i + c = xs.length → c < k →
    calendar_joined.l0 k ((xs.take i).map pad) xs xs.length i = (strings_Join.f (xs.map pad) (⟨#[45]⟩ : ByteArray)).bind some := by
  induction c with
  | zero =>
    intro k i h hk
    obtain ⟨k, rfl⟩ : ∃ q, k = q + 1 := ⟨k - 1, by omega⟩
    simp only [calendar_joined.l0]
    rw [if_neg (by omega), show i = xs.length by omega, List.take_length]
  | succ c ih =>
    intro k i h hk
    obtain ⟨k, rfl⟩ : ∃ q, k = q + 1 := ⟨k - 1, by omega⟩
    simp only [calendar_joined.l0]
    rw [if_pos (by omega), if_pos (by omega), if_pos (by omega)]
    have hr : rd xs (i : Int) = xs[i]'(by omega) := by
      unfold rd
      simp [List.getD_eq_getElem?_getD, show i < xs.length by omega]
    obtain ⟨g0, g1, g2⟩ := hx _ (List.getElem_mem (show i < xs.length by omega))
    have ht : (xs.take (i + 1)).map pad = (xs.take i).map pad ++ [pad (xs[i]'(by omega))] := by
      rw [List.take_succ_eq_append_getElem (show i < xs.length by omega), List.map_append, List.map_cons, List.map_nil]
    have hs : ((xs.take i).map pad).length < 8796093022208 := by simp; omega
    have h1 := ih k (i + 1) (by omega) (by omega)
    rw [ht] at h1
    rw [hr]
    unfold strconv_Itoa.f
    rw [if_pos ⟨g0, g1⟩]
    simp only [Option.bind_some]
    rw [w64 (x := (i : Int) + 1) (by omega) (by omega)]
    by_cases h10 : xs[i]'(by omega) < 10
    · rw [if_pos h10, if_pos (by omega), if_pos hs]
      have hp : pad (xs[i]'(by omega)) = (⟨#[48]⟩ : ByteArray) ++ itoaB (xs[i]'(by omega)) := by unfold pad; rw [if_pos h10]
      rw [hp] at h1
      exact h1
    · rw [if_neg h10, if_pos hs]
      have hp : pad (xs[i]'(by omega)) = itoaB (xs[i]'(by omega)) := by unfold pad; rw [if_neg h10]
      rw [hp] at h1
      exact h1
theorem joined_eq {k : Nat} (xs : List Int) (hx : ∀ n ∈ xs, okPad n) (h0 : 0 < xs.length) (hl : xs.length ≤ 100) (hk : 101 ≤ k) (hj : (Lib.join ((xs.map pad).map (·.data.toList)) [45]).length ≤ 140737488355328) :
    calendar_joined.f k xs = some (joinB (xs.map pad) (⟨#[45]⟩ : ByteArray)) := by
  unfold calendar_joined.f
  have h := joined_l xs hx hl xs.length k 0 (by omega) (by omega)
  rw [List.take_zero, List.map_nil] at h
  rw [show ((0 : Nat) : Int) = 0 from rfl] at h
  rw [h]
  unfold strings_Join.f
  rw [if_pos ⟨by simpa using h0, by simp; omega, hj⟩]
  rfl
theorem itoa_2000 : itoaB 2000 = ⟨#[50, 48, 48, 48]⟩ := by
  unfold itoaB Lib.itoa
  rw [if_neg (by omega)]
  simp [Lib.decDigits]
theorem itoa_2 : itoaB 2 = ⟨#[50]⟩ := by
  unfold itoaB Lib.itoa
  rw [if_neg (by omega)]
  simp [Lib.decDigits]
theorem period_1201 {k : Nat} (hk : 101 ≤ k) : ∃ s, calendar_FormatPeriod.f k 1201 = some s ∧ s.toList = [50, 48, 48, 48, 45, 48, 50] := by
  unfold calendar_FormatPeriod.f calendar_Month.f calendar_month.f
  have h := joined_eq (k := k) [2000, 2] (by
    intro n hn
    simp only [List.mem_cons, List.mem_nil_iff, or_false] at hn
    rcases hn with rfl | rfl
    · exact ⟨by omega, by omega, by rw [itoa_2000]; decide⟩
    · exact ⟨by omega, by omega, by rw [itoa_2]; decide⟩) (by decide) (by decide) hk (by
      simp only [List.map_cons, List.map_nil, pad, itoa_2000, itoa_2]
      decide)
  simp only [ge_iff_le, Int.reduceLE, if_true, decide_true, Option.bind_some]
  rw [show wrap64 (1900 + wrap64 (Int.tdiv 1201 12)) = 2000 by decide +kernel, show wrap64 (Int.tmod 1201 12 + 1) = 2 by decide +kernel, h]
  refine ⟨_, rfl, ?_⟩
  simp only [List.map_cons, List.map_nil, pad, itoa_2000, itoa_2]
  decide +kernel
theorem num_leap : Cal.num 2000 2 29 = 36583 := by decide
theorem awake_eq {k : Nat} (hk : 101 ≤ k) : priceofficelaw05_awake.f k = some true := by
  unfold priceofficelaw05_awake.f
  rw [number_eq _ _ _ (by omega), num_leap]
  obtain ⟨s, hs, he⟩ := period_1201 hk
  simp only [Option.bind_some, if_true]
  rw [hs]
  simp only [Option.bind_some, he]
  rfl
end Go.Proofs.YtpbkdbicdimfhaaDoor
