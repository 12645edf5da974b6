/- The plain laws of dates of days, periods of days and weekdays. -/
import Derived.Test.YtpbkdbicdimfhaaDoorP15
import Derived.Test.YtpbkdbicdimfhaaDoorP16
import Derived.Test.YtpbkdbicdimfhaaDoorCalC
namespace Go.Proofs.YtpbkdbicdimfhaaDoor
open Go.RowKit P Go.Proofs.YtpbkdbicdimfhaaDoorW.PrintWords
set_option linter.unusedVariables false

theorem bef_ge (y : Int) (h : 1900 ≤ y) : 365 * (y - 1900) ≤ Cal.bef y := by unfold Cal.bef; omega

theorem dateof_l1 {x y : Int} (hy0 : 1900 ≤ y) (hy1 : y ≤ 2399) (hx0 : Cal.bef y ≤ x) (hx1 : x < Cal.bef (y + 1)) (c : Nat) : ∀ (k : Nat) (m : Int), 1 ≤ m → m ≤ 12 → 12 - m = c → c < k → 0 ≤ x - Cal.bef y - Cal.cum y m →
    ∃ m' d, calendar_DateOf.l1 k y m (x - Cal.bef y - Cal.cum y m + 1) = some (y, m', d, true) ∧ Cal.vd y m' d = true ∧ Cal.num y m' d = x := by
  have hb := Cal.bef_succ y
  have he := Cal.cum_end y
  have hbb := Cal.bef_bd y hy0 (by omega)
  have hlp := Cal.lp_01 y
  induction c with
  | zero =>
    intro k m h1 h2 h3 hk h0
    obtain ⟨k, rfl⟩ : ∃ q, k = q + 1 := ⟨k - 1, by omega⟩
    obtain rfl : m = 12 := by omega
    have hc := Cal.cum_succ y 12 (by omega) (by omega)
    rw [show (12 : Int) + 1 = 13 from rfl] at hc
    simp only [calendar_DateOf.l1]
    rw [length_eq hy0 (by omega) h1 h2]
    simp only [Option.bind_some]
    rw [if_neg (by omega)]
    have hv : Cal.vd y 12 (x - Cal.bef y - Cal.cum y 12 + 1) = true := Cal.vd_mk ⟨hy0, hy1, by omega, by omega, by omega, by omega⟩
    exact ⟨12, _, rfl, hv, by rw [Cal.num_vd hv]; omega⟩
  | succ c ih =>
    intro k m h1 h2 h3 hk h0
    obtain ⟨k, rfl⟩ : ∃ q, k = q + 1 := ⟨k - 1, by omega⟩
    have hc := Cal.cum_succ y m h1 h2
    have hl := Cal.ln_bd y m
    have hcb := Cal.cum_bd y m
    simp only [calendar_DateOf.l1]
    rw [length_eq hy0 (by omega) h1 h2]
    simp only [Option.bind_some]
    by_cases hg : x - Cal.bef y - Cal.cum y m + 1 > Cal.ln y m
    · rw [if_pos hg, w64 (x := m + 1) (by omega) (by omega), w64 (by omega) (by omega), show x - Cal.bef y - Cal.cum y m + 1 - Cal.ln y m = x - Cal.bef y - Cal.cum y (m + 1) + 1 by omega]
      exact ih k (m + 1) (by omega) (by omega) (by omega) (by omega) (by omega)
    · rw [if_neg hg]
      have hv : Cal.vd y m (x - Cal.bef y - Cal.cum y m + 1) = true := Cal.vd_mk ⟨hy0, hy1, by omega, by omega, by omega, by omega⟩
      exact ⟨m, _, rfl, hv, by rw [Cal.num_vd hv]; omega⟩
theorem dateof_l0 {x : Int} (h0 : 0 ≤ x) (h1 : x ≤ 182620) (c : Nat) : ∀ (k : Nat) (y : Int), 1900 ≤ y → y ≤ 2400 → y - 1900 = c → c + 20 < k → x < Cal.bef (y + 1) →
    ∃ y' m d, calendar_DateOf.l0 k x y 1 0 = some (y', m, d, true) ∧ Cal.vd y' m d = true ∧ Cal.num y' m d = x := by
  induction c with
  | zero =>
    intro k y hy0 hy1 h3 hk hx
    obtain ⟨k, rfl⟩ : ∃ q, k = q + 1 := ⟨k - 1, by omega⟩
    obtain rfl : y = 1900 := by omega
    simp only [calendar_DateOf.l0]
    rw [before_eq (by omega) (by omega), Cal.bef_1900]
    simp only [Option.bind_some]
    rw [if_neg (by omega), w64 (x := x - 0) (by omega) (by omega), w64 (by omega) (by omega)]
    obtain ⟨m, d, e, hv, hn⟩ := dateof_l1 (x := x) (y := 1900) (by omega) (by omega) (by rw [Cal.bef_1900]; exact h0) hx 11 k 1 (by omega) (by omega) (by omega) (by omega) (by rw [Cal.bef_1900, Cal.cum_one]; omega)
    rw [Cal.bef_1900, Cal.cum_one, show x - 0 - 0 + 1 = x - 0 + 1 by omega] at e
    exact ⟨1900, m, d, e, hv, hn⟩
  | succ c ih =>
    intro k y hy0 hy1 h3 hk hx
    obtain ⟨k, rfl⟩ : ∃ q, k = q + 1 := ⟨k - 1, by omega⟩
    simp only [calendar_DateOf.l0]
    rw [before_eq hy0 hy1]
    simp only [Option.bind_some]
    by_cases hg : Cal.bef y > x
    · rw [if_pos hg, w64 (x := y - 1) (by omega) (by omega)]
      exact ih k (y - 1) (by omega) (by omega) (by omega) (by omega) (by rw [show y - 1 + 1 = y by omega]; omega)
    · have hy2 : y ≤ 2399 := by
        rcases Int.lt_or_le y 2400 with h | h
        · omega
        · have : y = 2400 := by omega
          rw [this, Cal.bef_2400] at hg; omega
      have hb := Cal.bef_bd y hy0 hy1
      rw [if_neg hg, w64 (x := x - Cal.bef y) (by omega) (by omega), w64 (by omega) (by omega)]
      obtain ⟨m, d, e, hv, hn⟩ := dateof_l1 (x := x) (y := y) hy0 hy2 (by omega) hx 11 k 1 (by omega) (by omega) (by omega) (by omega) (by rw [Cal.cum_one]; omega)
      rw [Cal.cum_one, show x - Cal.bef y - 0 + 1 = x - Cal.bef y + 1 by omega] at e
      exact ⟨y, m, d, e, hv, hn⟩
theorem dateof_in {k : Nat} {x : Int} (h0 : 0 ≤ x) (h1 : x ≤ 182620) (hk : 600 ≤ k) : ∃ y m d, calendar_DateOf.f k x = some (y, m, d, true) ∧ Cal.vd y m d = true ∧ Cal.num y m d = x := by
  unfold calendar_DateOf.f calendar_valid.f
  rw [if_pos h0]
  simp only [Option.bind_some]
  rw [if_pos (decide_eq_true h1), tdiv_nn _ h0, w64 (x := x / 365) (by omega) (by omega), w64 (by omega) (by omega)]
  have hb := bef_ge (1900 + x / 365 + 1) (by omega)
  exact dateof_l0 h0 h1 (x / 365).toNat k _ (by omega) (by omega) (by omega) (by omega) (by omega)
theorem dateof_out {k : Nat} {x : Int} (h : ¬ (0 ≤ x ∧ x ≤ 182620)) : calendar_DateOf.f k x = some (0, 0, 0, false) := by
  unfold calendar_DateOf.f calendar_valid.f
  by_cases h0 : x ≥ 0
  · rw [if_pos h0]
    simp only [Option.bind_some]
    rw [if_neg (by simp; omega)]
  · rw [if_neg h0]; simp

theorem rperiod_l {x : Int} (h0 : 0 ≤ x) (h1 : x ≤ 182620) (c : Nat) : ∀ (k p : Nat), p + c = 5999 → c + 1 < k → Cal.fd p ≤ x →
    ∃ q : Nat, priceofficeref05_PeriodOf.l0 k x p (Cal.fd p) = some (q : Int) ∧ q ≤ 5999 ∧ Cal.fd q ≤ x ∧ x < Cal.fd (q + 1) := by
  induction c with
  | zero =>
    intro k p hp hk hx
    obtain ⟨k, rfl⟩ : ∃ q, k = q + 1 := ⟨k - 1, by omega⟩
    obtain rfl : p = 5999 := by omega
    have hb := Cal.fd_bd 5999 (by omega)
    have hs : Cal.fd (5999 + 1) = Cal.fd 5999 + Cal.ln (1900 + (5999 : Int) / 12) ((5999 : Int) % 12 + 1) := rfl
    have h6 := Cal.fd_6000
    have hl := Cal.ln_bd (1900 + (5999 : Int) / 12) ((5999 : Int) % 12 + 1)
    simp only [priceofficeref05_PeriodOf.l0]
    rw [tdiv_nn _ (by omega), tmod_nn _ (by omega), w64 (x := ((5999 : Nat) : Int) / 12) (by omega) (by omega), w64 (x := 1900 + ((5999 : Nat) : Int) / 12) (by omega) (by omega), w64 (x := ((5999 : Nat) : Int) % 12 + 1) (by omega) (by omega), rlength_eq (by omega) (by omega)]
    simp only [Option.bind_some]
    have e1 : Cal.fd 5999 + Cal.ln (1900 + ((5999 : Nat) : Int) / 12) (((5999 : Nat) : Int) % 12 + 1) = 182621 := by rw [← h6]; exact hs.symm
    rw [e1, w64 (by omega) (by omega), if_neg (by omega)]
    exact ⟨5999, rfl, by omega, hx, by rw [show 5999 + 1 = 6000 from rfl, h6]; omega⟩
  | succ c ih =>
    intro k p hp hk hx
    obtain ⟨k, rfl⟩ : ∃ q, k = q + 1 := ⟨k - 1, by omega⟩
    have hb := Cal.fd_bd p (by omega)
    have hs : Cal.fd (p + 1) = Cal.fd p + Cal.ln (1900 + (p : Int) / 12) ((p : Int) % 12 + 1) := rfl
    have hl := Cal.ln_bd (1900 + (p : Int) / 12) ((p : Int) % 12 + 1)
    simp only [priceofficeref05_PeriodOf.l0]
    rw [tdiv_nn _ (by omega), tmod_nn _ (by omega), w64 (x := (p : Int) / 12) (by omega) (by omega), w64 (x := 1900 + (p : Int) / 12) (by omega) (by omega), w64 (x := (p : Int) % 12 + 1) (by omega) (by omega), rlength_eq (by omega) (by omega)]
    simp only [Option.bind_some]
    rw [← hs, w64 (x := Cal.fd (p + 1)) (by omega) (by omega)]
    by_cases hg : Cal.fd (p + 1) ≤ x
    · rw [if_pos hg, w64 (x := (p : Int) + 1) (by omega) (by omega)]
      exact ih k (p + 1) (by omega) (by omega) hg
    · rw [if_neg hg]
      exact ⟨p, rfl, by omega, hx, by omega⟩
theorem rperiod_in {k : Nat} {x : Int} (h0 : 0 ≤ x) (h1 : x ≤ 182620) (hk : 6010 ≤ k) : ∃ q : Nat, priceofficeref05_PeriodOf.f k x = some (q : Int) ∧ q ≤ 5999 ∧ Cal.fd q ≤ x ∧ x < Cal.fd (q + 1) := by
  obtain ⟨k, rfl⟩ : ∃ q, k = q + 1 := ⟨k - 1, by omega⟩
  unfold priceofficeref05_PeriodOf.f
  rw [if_neg (by omega)]
  simp only [priceofficeref05_PeriodOf.j0]
  rw [if_neg (by simp; omega)]
  exact rperiod_l h0 h1 5999 k 0 (by omega) (by omega) h0
theorem rperiod_out {k : Nat} {x : Int} (hk : 1 ≤ k) (h : ¬ (0 ≤ x ∧ x ≤ 182620)) : priceofficeref05_PeriodOf.f k x = some (-1) := by
  obtain ⟨k, rfl⟩ : ∃ q, k = q + 1 := ⟨k - 1, by omega⟩
  unfold priceofficeref05_PeriodOf.f
  by_cases h0 : x < 0
  · rw [if_pos h0]
    simp only [priceofficeref05_PeriodOf.j0, if_true]
  · rw [if_neg h0]
    simp only [priceofficeref05_PeriodOf.j0]
    rw [if_pos (by simp; omega)]
theorem rdateof_in {k : Nat} {x : Int} (h0 : 0 ≤ x) (h1 : x ≤ 182620) (hk : 6020 ≤ k) : ∃ y m d, priceofficeref05_DateOf.f k x = some (y, m, d, true) ∧ Cal.vd y m d = true ∧ Cal.num y m d = x := by
  unfold priceofficeref05_DateOf.f
  obtain ⟨q, e, q1, q2, q3⟩ := rperiod_in (k := k) h0 h1 (by omega)
  rw [e]
  simp only [Option.bind_some]
  rw [if_neg (by omega), rfirst_eq _ (by omega), firstDay_in (by omega) (by omega)]
  simp only [Option.bind_some]
  have hf := Cal.fd_bd q (by omega)
  rw [show ((q : Int)).toNat = q by omega, tdiv_nn _ (by omega), tmod_nn _ (by omega), w64 (x := (q : Int) / 12) (by omega) (by omega), w64 (x := 1900 + (q : Int) / 12) (by omega) (by omega), w64 (x := (q : Int) % 12 + 1) (by omega) (by omega), w64 (x := x - Cal.fd q) (by omega) (by omega), w64 (x := x - Cal.fd q + 1) (by omega) (by omega)]
  obtain ⟨hv, hn⟩ := Cal.vd_fd q x q1 q2 q3
  exact ⟨_, _, _, rfl, hv, hn⟩
theorem rdateof_out {k : Nat} {x : Int} (hk : 1 ≤ k) (h : ¬ (0 ≤ x ∧ x ≤ 182620)) : priceofficeref05_DateOf.f k x = some (0, 0, 0, false) := by
  unfold priceofficeref05_DateOf.f
  rw [rperiod_out hk h]
  simp
/-- the period of a day, by its date and by the first days of periods -/
theorem period_in {k : Nat} {x : Int} (h0 : 0 ≤ x) (h1 : x ≤ 182620) (hk : 600 ≤ k) (q : Nat) (hq : q ≤ 5999) (q2 : Cal.fd q ≤ x) (q3 : x < Cal.fd (q + 1)) : calendar_PeriodOf.f k x = some (q : Int) := by
  unfold calendar_PeriodOf.f
  obtain ⟨y, m, d, e, hv, hn⟩ := dateof_in h0 h1 hk
  rw [e]
  simp only [Option.bind_some, if_true]
  obtain ⟨hv2, hn2⟩ := Cal.vd_fd q x hq q2 q3
  obtain ⟨rfl, rfl, rfl⟩ := Cal.num_inj hv hv2 (hn.trans hn2.symm)
  congr 1
  rw [w64 (x := 1900 + (q : Int) / 12 - 1900) (by omega) (by omega), w64 (x := 12 * (1900 + (q : Int) / 12 - 1900)) (by omega) (by omega), w64 (x := 12 * (1900 + (q : Int) / 12 - 1900) + ((q : Int) % 12 + 1)) (by omega) (by omega), w64 (by omega) (by omega)]
  omega
theorem period_out {k : Nat} {x : Int} (h : ¬ (0 ≤ x ∧ x ≤ 182620)) : calendar_PeriodOf.f k x = some (-1) := by
  unfold calendar_PeriodOf.f
  rw [dateof_out h]
  simp
def wday (x : Int) : Int := if 0 ≤ x ∧ x ≤ 182620 then x % 7 else -1
theorem weekday_eq (x : Int) : calendar_Weekday.f x = some (wday x) := by
  unfold calendar_Weekday.f calendar_valid.f wday
  by_cases h0 : x ≥ 0
  · rw [if_pos h0]
    simp only [Option.bind_some]
    by_cases h2 : x ≤ 182620
    · rw [if_pos (decide_eq_true h2), if_pos ⟨h0, h2⟩, tmod_nn _ h0]
    · rw [if_neg (by simpa using h2), if_neg (by omega)]
  · rw [if_neg h0, if_neg (by omega)]; simp
theorem rweekday_eq (x : Int) : priceofficeref05_Weekday.f x = some (wday x) := by
  unfold priceofficeref05_Weekday.f wday
  by_cases h0 : x < 0
  · rw [if_pos h0, if_neg (by omega)]
  · rw [if_neg h0]
    by_cases h2 : x ≥ 182621
    · rw [if_pos h2, if_neg (by omega)]
    · rw [if_neg h2, if_pos (by omega), tmod_nn _ (by omega)]
end Go.Proofs.YtpbkdbicdimfhaaDoor
