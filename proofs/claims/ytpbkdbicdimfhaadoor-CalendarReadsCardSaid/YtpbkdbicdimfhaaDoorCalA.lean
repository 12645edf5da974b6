/- The plain arithmetic of the calendar: leap years, lengths of months, days before a year and before a month, numbers of dates and of first days. No program in it. -/
namespace Go.Proofs.YtpbkdbicdimfhaaDoor.Cal

def lp (y : Int) : Int := if (y % 4 = 0 ∧ y % 100 ≠ 0) ∨ y % 400 = 0 then 1 else 0
def ln (y m : Int) : Int := if m = 4 ∨ m = 6 ∨ m = 9 ∨ m = 11 then 30 else if m = 2 then 28 + lp y else 31
/-- days before year y -/
def bef (y : Int) : Int := 365 * (y - 1900) + ((y - 1) / 4 - (y - 1) / 100 + (y - 1) / 400) - 460
/-- days of the year before month m -/
def cum (y m : Int) : Int :=
  if m ≤ 1 then 0 else if m = 2 then 31 else if m = 3 then 59 + lp y else if m = 4 then 90 + lp y else if m = 5 then 120 + lp y else if m = 6 then 151 + lp y
  else if m = 7 then 181 + lp y else if m = 8 then 212 + lp y else if m = 9 then 243 + lp y else if m = 10 then 273 + lp y else if m = 11 then 304 + lp y else if m = 12 then 334 + lp y else 365 + lp y
def vd (y m d : Int) : Bool := decide (1900 ≤ y ∧ y ≤ 2399 ∧ 1 ≤ m ∧ m ≤ 12 ∧ 1 ≤ d ∧ d ≤ ln y m)
def num (y m d : Int) : Int := if vd y m d = true then bef y + cum y m + d - 1 else -1
/-- the first day of the period p: the lengths of the months before it, added up -/
def fd : Nat → Int
  | 0 => 0
  | p + 1 => fd p + ln (1900 + (p : Int) / 12) ((p : Int) % 12 + 1)

theorem lp_01 (y : Int) : lp y = 0 ∨ lp y = 1 := by unfold lp; split <;> simp
theorem ln_bd (y m : Int) : 28 ≤ ln y m ∧ ln y m ≤ 31 := by
  have := lp_01 y
  unfold ln; split
  · omega
  · split <;> omega
theorem bef_succ (y : Int) : bef (y + 1) = bef y + 365 + lp y := by
  unfold bef lp; split <;> omega
theorem cum_succ (y m : Int) (h1 : 1 ≤ m) (h2 : m ≤ 12) : cum y (m + 1) = cum y m + ln y m := by
  have := lp_01 y
  have hm : m = 1 ∨ m = 2 ∨ m = 3 ∨ m = 4 ∨ m = 5 ∨ m = 6 ∨ m = 7 ∨ m = 8 ∨ m = 9 ∨ m = 10 ∨ m = 11 ∨ m = 12 := by omega
  rcases hm with rfl | rfl | rfl | rfl | rfl | rfl | rfl | rfl | rfl | rfl | rfl | rfl <;> simp [cum, ln] <;> omega
theorem cum_one (y : Int) : cum y 1 = 0 := by simp [cum]
theorem cum_end (y : Int) : cum y 13 = 365 + lp y := by simp [cum]
theorem cum_bd (y m : Int) : 0 ≤ cum y m ∧ cum y m ≤ 366 := by
  have hl := lp_01 y
  by_cases h1 : m ≤ 1
  · unfold cum; rw [if_pos h1]; omega
  · by_cases h2 : m ≤ 12
    · have hm : m = 2 ∨ m = 3 ∨ m = 4 ∨ m = 5 ∨ m = 6 ∨ m = 7 ∨ m = 8 ∨ m = 9 ∨ m = 10 ∨ m = 11 ∨ m = 12 := by omega
      rcases hm with rfl | rfl | rfl | rfl | rfl | rfl | rfl | rfl | rfl | rfl | rfl <;> simp [cum] <;> omega
    · unfold cum
      rw [if_neg h1, if_neg (by omega), if_neg (by omega), if_neg (by omega), if_neg (by omega), if_neg (by omega), if_neg (by omega), if_neg (by omega), if_neg (by omega), if_neg (by omega), if_neg (by omega), if_neg (by omega)]
      omega
theorem cum_in (y m : Int) (h1 : 1 ≤ m) (h2 : m ≤ 12) : cum y m + ln y m ≤ 365 + lp y := by
  have := lp_01 y
  have hm : m = 1 ∨ m = 2 ∨ m = 3 ∨ m = 4 ∨ m = 5 ∨ m = 6 ∨ m = 7 ∨ m = 8 ∨ m = 9 ∨ m = 10 ∨ m = 11 ∨ m = 12 := by omega
  rcases hm with rfl | rfl | rfl | rfl | rfl | rfl | rfl | rfl | rfl | rfl | rfl | rfl <;> simp [cum, ln] <;> omega
theorem cum_lt (y m m' : Int) (h1 : 1 ≤ m) (h : m < m') (h2 : m' ≤ 12) : cum y m + ln y m ≤ cum y m' := by
  have := lp_01 y
  have hm : m = 1 ∨ m = 2 ∨ m = 3 ∨ m = 4 ∨ m = 5 ∨ m = 6 ∨ m = 7 ∨ m = 8 ∨ m = 9 ∨ m = 10 ∨ m = 11 := by omega
  have hm' : m' = 2 ∨ m' = 3 ∨ m' = 4 ∨ m' = 5 ∨ m' = 6 ∨ m' = 7 ∨ m' = 8 ∨ m' = 9 ∨ m' = 10 ∨ m' = 11 ∨ m' = 12 := by omega
  rcases hm with rfl | rfl | rfl | rfl | rfl | rfl | rfl | rfl | rfl | rfl | rfl <;>
  rcases hm' with rfl | rfl | rfl | rfl | rfl | rfl | rfl | rfl | rfl | rfl | rfl <;> simp [cum, ln] at h ⊢ <;> omega
theorem bef_mono (a b : Int) (h : a ≤ b) : bef a ≤ bef b := by unfold bef; omega
theorem bef_lt (a b : Int) (h : a < b) : bef a + 365 + lp a ≤ bef b := by rw [← bef_succ]; exact bef_mono _ _ (by omega)
theorem bef_1900 : bef 1900 = 0 := by decide
theorem bef_2400 : bef 2400 = 182621 := by decide
theorem bef_bd (y : Int) (h1 : 1900 ≤ y) (h2 : y ≤ 2400) : 0 ≤ bef y ∧ bef y ≤ 182621 := by
  have a := bef_mono 1900 y h1
  have b := bef_mono y 2400 h2
  rw [bef_1900] at a; rw [bef_2400] at b
  exact ⟨a, b⟩
theorem vd_mk {y m d : Int} (h : 1900 ≤ y ∧ y ≤ 2399 ∧ 1 ≤ m ∧ m ≤ 12 ∧ 1 ≤ d ∧ d ≤ ln y m) : vd y m d = true := by unfold vd; exact decide_eq_true h
theorem vd_of {y m d : Int} (h : vd y m d = true) : 1900 ≤ y ∧ y ≤ 2399 ∧ 1 ≤ m ∧ m ≤ 12 ∧ 1 ≤ d ∧ d ≤ ln y m := by unfold vd at h; exact of_decide_eq_true h
theorem vd_no {y m d : Int} (h : ¬ (1900 ≤ y ∧ y ≤ 2399 ∧ 1 ≤ m ∧ m ≤ 12 ∧ 1 ≤ d ∧ d ≤ ln y m)) : vd y m d = false := by unfold vd; exact decide_eq_false h
theorem num_vd {y m d : Int} (h : vd y m d = true) : num y m d = bef y + cum y m + d - 1 := by unfold num; rw [if_pos h]
theorem num_no {y m d : Int} (h : vd y m d = false) : num y m d = -1 := by unfold num; rw [if_neg (by simp [h])]
theorem num_bd {y m d : Int} (h : vd y m d = true) : 0 ≤ num y m d ∧ num y m d ≤ 182620 := by
  obtain ⟨a, b, c, e, f, g⟩ := vd_of h
  have h1 := cum_in y m c e
  have h2 := bef_mono (y + 1) 2400 (by omega)
  have h3 := bef_succ y
  have h4 := bef_bd y a (by omega)
  have h5 := cum_bd y m
  rw [bef_2400] at h2
  rw [num_vd h]; omega
/-- a number has one date -/
theorem num_inj {y m d y' m' d' : Int} (h : vd y m d = true) (h' : vd y' m' d' = true) (e : num y m d = num y' m' d') : y = y' ∧ m = m' ∧ d = d' := by
  obtain ⟨a1, a2, a3, a4, a5, a6⟩ := vd_of h
  obtain ⟨b1, b2, b3, b4, b5, b6⟩ := vd_of h'
  rw [num_vd h, num_vd h'] at e
  have c1 := cum_in y m a3 a4
  have c2 := cum_in y' m' b3 b4
  have d1 := cum_bd y m
  have d2 := cum_bd y' m'
  have hy : y = y' := by
    rcases Int.lt_trichotomy y y' with g | g | g
    · have := bef_lt y y' g; omega
    · exact g
    · have := bef_lt y' y g; omega
  subst hy
  have hm : m = m' := by
    rcases Int.lt_trichotomy m m' with g | g | g
    · have := cum_lt y m m' a3 g b4; omega
    · exact g
    · have := cum_lt y m' m b3 g a4; omega
  subst hm
  exact ⟨rfl, rfl, by omega⟩

theorem fd_eq (p : Nat) : fd p = bef (1900 + (p : Int) / 12) + cum (1900 + (p : Int) / 12) ((p : Int) % 12 + 1) := by
  induction p with
  | zero => decide
  | succ p ih =>
    rw [fd, ih]
    by_cases h : (p : Int) % 12 = 11
    · have e1 : ((p + 1 : Nat) : Int) / 12 = (p : Int) / 12 + 1 := by omega
      have e2 : ((p + 1 : Nat) : Int) % 12 = 0 := by omega
      rw [e1, e2, h]
      have a := bef_succ (1900 + (p : Int) / 12)
      have b := cum_succ (1900 + (p : Int) / 12) 12 (by omega) (by omega)
      have c := cum_end (1900 + (p : Int) / 12)
      have d := cum_one (1900 + ((p : Int) / 12 + 1))
      have e3 : (1900 : Int) + ((p : Int) / 12 + 1) = 1900 + (p : Int) / 12 + 1 := by omega
      rw [e3] at d ⊢
      have e4 : (11 : Int) + 1 = 12 := rfl
      have e5 : (0 : Int) + 1 = 1 := rfl
      have e6 : (12 : Int) + 1 = 13 := rfl
      rw [e4, e5]; rw [e6] at b
      omega
    · have e1 : ((p + 1 : Nat) : Int) / 12 = (p : Int) / 12 := by omega
      have e2 : ((p + 1 : Nat) : Int) % 12 = (p : Int) % 12 + 1 := by omega
      rw [e1, e2]
      have b := cum_succ (1900 + (p : Int) / 12) ((p : Int) % 12 + 1) (by omega) (by omega)
      omega
theorem fd_mono (a b : Nat) (h : a ≤ b) : fd a ≤ fd b := by
  induction b with
  | zero => have : a = 0 := by omega
            subst this; exact Int.le_refl _
  | succ b ih =>
    by_cases e : a = b + 1
    · subst e; exact Int.le_refl _
    · have := ih (by omega)
      have := (ln_bd (1900 + (b : Int) / 12) ((b : Int) % 12 + 1)).1
      rw [fd]; omega
theorem fd_lt (a b : Nat) (h : a < b) : fd a + 28 ≤ fd b := by
  have h1 := fd_mono (a + 1) b h
  have h2 := (ln_bd (1900 + (a : Int) / 12) ((a : Int) % 12 + 1)).1
  rw [fd] at h1; omega
theorem fd_0 : fd 0 = 0 := rfl
theorem fd_6000 : fd 6000 = 182621 := by rw [fd_eq]; decide
theorem fd_bd (p : Nat) (h : p ≤ 6000) : 0 ≤ fd p ∧ fd p ≤ 182621 := by
  have a := fd_mono 0 p (by omega)
  have b := fd_mono p 6000 h
  rw [fd_0] at a; rw [fd_6000] at b
  exact ⟨a, b⟩
/-- a day lies in one period -/
theorem fd_one {a b : Nat} {n : Int} (a1 : fd a ≤ n) (a2 : n < fd (a + 1)) (b1 : fd b ≤ n) (b2 : n < fd (b + 1)) : a = b := by
  rcases Nat.lt_trichotomy a b with g | g | g
  · have := fd_mono (a + 1) b g; omega
  · exact g
  · have := fd_mono (b + 1) a g; omega
/-- the number of a date is its period's first day and the days since -/
theorem num_fd {y m d : Int} (h : vd y m d = true) : num y m d = fd (12 * (y - 1900) + m - 1).toNat + d - 1 := by
  obtain ⟨a1, a2, a3, a4, a5, a6⟩ := vd_of h
  rw [num_vd h, fd_eq]
  have e : ((12 * (y - 1900) + m - 1).toNat : Int) = 12 * (y - 1900) + m - 1 := by omega
  have e1 : (1900 : Int) + (12 * (y - 1900) + m - 1) / 12 = y := by omega
  have e2 : (12 * (y - 1900) + m - 1) % 12 + 1 = m := by omega
  rw [e, e1, e2]
/-- the date of a day of a period -/
theorem vd_fd (p : Nat) (n : Int) (hp : p ≤ 5999) (h1 : fd p ≤ n) (h2 : n < fd (p + 1)) :
    vd (1900 + (p : Int) / 12) ((p : Int) % 12 + 1) (n - fd p + 1) = true ∧ num (1900 + (p : Int) / 12) ((p : Int) % 12 + 1) (n - fd p + 1) = n := by
  have hv : vd (1900 + (p : Int) / 12) ((p : Int) % 12 + 1) (n - fd p + 1) = true := by
    rw [fd] at h2
    exact vd_mk ⟨by omega, by omega, by omega, by omega, by omega, by omega⟩
  refine ⟨hv, ?_⟩
  rw [num_fd hv]
  have e : (12 * (1900 + (p : Int) / 12 - 1900) + ((p : Int) % 12 + 1) - 1).toNat = p := by omega
  rw [e]; omega
end Go.Proofs.YtpbkdbicdimfhaaDoor.Cal
