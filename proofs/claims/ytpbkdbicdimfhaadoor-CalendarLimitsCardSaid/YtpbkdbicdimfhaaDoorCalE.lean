/- The plain laws of counted business days: how many lie among so many days, and what shifting forth and back comes to. -/
import Derived.Test.YtpbkdbicdimfhaaDoorCalC
namespace Go.Proofs.YtpbkdbicdimfhaaDoor
open Go.RowKit P Go.Proofs.YtpbkdbicdimfhaaDoorW.PrintWords
set_option linter.unusedVariables false

/-- the business days among the m days behind d -/
def cnt (h : List Int) : Nat → Int → Nat
  | 0, _ => 0
  | m + 1, d => (if biz h (d + 1) = true then 1 else 0) + cnt h m (d + 1)
def wk : Nat → Int → Nat
  | 0, _ => 0
  | m + 1, d => (if (d + 1) % 7 < 5 then 1 else 0) + wk m (d + 1)
def hc (h : List Int) : Nat → Int → Nat
  | 0, _ => 0
  | m + 1, d => (if h.contains (d + 1) = true then 1 else 0) + hc h m (d + 1)
def one (x : Int) : Nat → Int → Nat
  | 0, _ => 0
  | m + 1, d => (if d + 1 = x then 1 else 0) + one x m (d + 1)
theorem one_zero (x : Int) (m : Nat) : ∀ d : Int, x ≤ d → one x m d = 0 := by
  induction m with
  | zero => intro d h; rfl
  | succ m ih => intro d h; rw [one, if_neg (by omega), ih (d + 1) (by omega)]
theorem one_le (x : Int) (m : Nat) : ∀ d : Int, one x m d ≤ 1 := by
  induction m with
  | zero => intro d; exact Nat.zero_le _
  | succ m ih =>
    intro d
    rw [one]
    by_cases e : d + 1 = x
    · rw [if_pos e, one_zero x m (d + 1) (by omega)]
      exact Nat.le_refl _
    · rw [if_neg e]; have := ih (d + 1); omega
theorem hc_cons (x : Int) (h : List Int) (m : Nat) : ∀ d : Int, hc (x :: h) m d ≤ one x m d + hc h m d := by
  induction m with
  | zero => intro d; exact Nat.zero_le _
  | succ m ih =>
    intro d
    have := ih (d + 1)
    rw [hc, hc, one, List.contains_cons]
    by_cases e : d + 1 = x
    · rw [if_pos e]; split <;> split <;> omega
    · have e2 : (d + 1 == x) = false := by simpa using e
      rw [if_neg e, e2, Bool.false_or]; omega
theorem hc_le (h : List Int) (m : Nat) (d : Int) : hc h m d ≤ h.length := by
  induction h with
  | nil =>
    have : ∀ (m : Nat) (d : Int), hc [] m d = 0 := by
      intro m
      induction m with
      | zero => intro d; rfl
      | succ m ih => intro d; rw [hc, ih]; rfl
    rw [this]; exact Nat.zero_le _
  | cons x h ih =>
    have a := hc_cons x h m d
    have b := one_le x m d
    simp only [List.length_cons]; omega
theorem wk_le (h : List Int) (m : Nat) : ∀ d : Int, wk m d ≤ cnt h m d + hc h m d := by
  induction m with
  | zero => intro d; exact Nat.zero_le _
  | succ m ih =>
    intro d
    have := ih (d + 1)
    rw [wk, cnt, hc]
    by_cases e : (d + 1) % 7 < 5
    · cases hx : h.contains (d + 1) with
      | true => rw [if_pos e, if_pos rfl]; split <;> omega
      | false =>
        have hb : biz h (d + 1) = true := by unfold biz; rw [decide_eq_true e, hx]; rfl
        rw [if_pos e, if_pos hb, if_neg (by simp)]; omega
    · rw [if_neg e]; omega
theorem wk_add (m n : Nat) : ∀ d : Int, wk (m + n) d = wk m d + wk n (d + m) := by
  induction m with
  | zero => intro d; simp [wk]
  | succ m ih =>
    intro d
    rw [show m + 1 + n = (m + n) + 1 by omega, wk, wk, ih (d + 1), show d + 1 + (m : Int) = d + ((m + 1 : Nat) : Int) by omega]
    omega
theorem wk_7 (d : Int) : wk 7 d = 5 := by
  have hd : d % 7 = 0 ∨ d % 7 = 1 ∨ d % 7 = 2 ∨ d % 7 = 3 ∨ d % 7 = 4 ∨ d % 7 = 5 ∨ d % 7 = 6 := by omega
  rcases hd with hd | hd | hd | hd | hd | hd | hd
  · simp [wk, show (d + 1) % 7 = 1 by omega, show (d + 1 + 1) % 7 = 2 by omega, show (d + 1 + 1 + 1) % 7 = 3 by omega, show (d + 1 + 1 + 1 + 1) % 7 = 4 by omega, show (d + 1 + 1 + 1 + 1 + 1) % 7 = 5 by omega, show (d + 1 + 1 + 1 + 1 + 1 + 1) % 7 = 6 by omega, show (d + 1 + 1 + 1 + 1 + 1 + 1 + 1) % 7 = 0 by omega]
  · simp [wk, show (d + 1) % 7 = 2 by omega, show (d + 1 + 1) % 7 = 3 by omega, show (d + 1 + 1 + 1) % 7 = 4 by omega, show (d + 1 + 1 + 1 + 1) % 7 = 5 by omega, show (d + 1 + 1 + 1 + 1 + 1) % 7 = 6 by omega, show (d + 1 + 1 + 1 + 1 + 1 + 1) % 7 = 0 by omega, show (d + 1 + 1 + 1 + 1 + 1 + 1 + 1) % 7 = 1 by omega]
  · simp [wk, show (d + 1) % 7 = 3 by omega, show (d + 1 + 1) % 7 = 4 by omega, show (d + 1 + 1 + 1) % 7 = 5 by omega, show (d + 1 + 1 + 1 + 1) % 7 = 6 by omega, show (d + 1 + 1 + 1 + 1 + 1) % 7 = 0 by omega, show (d + 1 + 1 + 1 + 1 + 1 + 1) % 7 = 1 by omega, show (d + 1 + 1 + 1 + 1 + 1 + 1 + 1) % 7 = 2 by omega]
  · simp [wk, show (d + 1) % 7 = 4 by omega, show (d + 1 + 1) % 7 = 5 by omega, show (d + 1 + 1 + 1) % 7 = 6 by omega, show (d + 1 + 1 + 1 + 1) % 7 = 0 by omega, show (d + 1 + 1 + 1 + 1 + 1) % 7 = 1 by omega, show (d + 1 + 1 + 1 + 1 + 1 + 1) % 7 = 2 by omega, show (d + 1 + 1 + 1 + 1 + 1 + 1 + 1) % 7 = 3 by omega]
  · simp [wk, show (d + 1) % 7 = 5 by omega, show (d + 1 + 1) % 7 = 6 by omega, show (d + 1 + 1 + 1) % 7 = 0 by omega, show (d + 1 + 1 + 1 + 1) % 7 = 1 by omega, show (d + 1 + 1 + 1 + 1 + 1) % 7 = 2 by omega, show (d + 1 + 1 + 1 + 1 + 1 + 1) % 7 = 3 by omega, show (d + 1 + 1 + 1 + 1 + 1 + 1 + 1) % 7 = 4 by omega]
  · simp [wk, show (d + 1) % 7 = 6 by omega, show (d + 1 + 1) % 7 = 0 by omega, show (d + 1 + 1 + 1) % 7 = 1 by omega, show (d + 1 + 1 + 1 + 1) % 7 = 2 by omega, show (d + 1 + 1 + 1 + 1 + 1) % 7 = 3 by omega, show (d + 1 + 1 + 1 + 1 + 1 + 1) % 7 = 4 by omega, show (d + 1 + 1 + 1 + 1 + 1 + 1 + 1) % 7 = 5 by omega]
  · simp [wk, show (d + 1) % 7 = 0 by omega, show (d + 1 + 1) % 7 = 1 by omega, show (d + 1 + 1 + 1) % 7 = 2 by omega, show (d + 1 + 1 + 1 + 1) % 7 = 3 by omega, show (d + 1 + 1 + 1 + 1 + 1) % 7 = 4 by omega, show (d + 1 + 1 + 1 + 1 + 1 + 1) % 7 = 5 by omega, show (d + 1 + 1 + 1 + 1 + 1 + 1 + 1) % 7 = 6 by omega]
theorem wk_weeks (q : Nat) : ∀ d : Int, wk (7 * q) d = 5 * q := by
  induction q with
  | zero => intro d; rfl
  | succ q ih =>
    intro d
    rw [show 7 * (q + 1) = 7 + 7 * q by omega, wk_add, wk_7, ih]; omega
theorem enough (h : List Int) (q : Nat) (d : Int) : 5 * q ≤ cnt h (7 * q) d + h.length := by
  have a := wk_le h (7 * q) d
  have b := hc_le h (7 * q) d
  rw [wk_weeks] at a; omega
theorem cnt_last (h : List Int) (m : Nat) : ∀ d : Int, cnt h (m + 1) d = cnt h m d + (if biz h (d + m + 1) = true then 1 else 0) := by
  induction m with
  | zero => intro d; simp [cnt]
  | succ m ih =>
    intro d
    rw [cnt, ih (d + 1), cnt, show d + 1 + (m : Int) + 1 = d + ((m + 1 : Nat) : Int) + 1 by omega]
    omega

/-- forth: the r-th business day behind d -/
theorem shift_fwd (h : List Int) (m : Nat) : ∀ (d r : Int), 1 ≤ r → -1 ≤ d → d + m ≤ 182620 → r ≤ cnt h m d →
    ∃ t, shiftM h 1 d r = (t, 0) ∧ d < t ∧ t ≤ d + m ∧ biz h t = true ∧ (cnt h (t - d).toNat d : Int) = r := by
  induction m with
  | zero => intro d r h1 h2 h3 h4; exact absurd h4 (by simp [cnt]; omega)
  | succ m ih =>
    intro d r h1 h2 h3 h4
    rw [cnt] at h4
    cases hb : biz h (d + 1) with
    | true =>
      rw [hb, if_pos rfl] at h4
      rw [shiftM_biz stP h2 (by omega) (by omega) (by omega) (by omega) hb]
      by_cases e : r = 1
      · subst e
        refine ⟨d + 1, shiftM_done stP (by omega) (by omega) (by omega), by omega, by omega, hb, ?_⟩
        rw [show (d + 1 - d).toNat = 1 by omega, cnt, cnt, hb]; rfl
      · obtain ⟨t, e1, e2, e3, e4, e5⟩ := ih (d + 1) (r - 1) (by omega) (by omega) (by omega) (by omega)
        refine ⟨t, e1, by omega, by omega, e4, ?_⟩
        rw [show (t - d).toNat = (t - (d + 1)).toNat + 1 by omega, cnt, hb, if_pos rfl]; omega
    | false =>
      rw [hb, if_neg (by simp)] at h4
      rw [shiftM_off stP h2 (by omega) (by omega) (by omega) (by omega) hb]
      obtain ⟨t, e1, e2, e3, e4, e5⟩ := ih (d + 1) r h1 (by omega) (by omega) (by omega)
      refine ⟨t, e1, by omega, by omega, e4, ?_⟩
      rw [show (t - d).toNat = (t - (d + 1)).toNat + 1 by omega, cnt, hb, if_neg (by simp)]; omega
/-- back: to the business day a, if r business days lie from it on -/
theorem shift_back (h : List Int) (a : Int) (ha0 : 0 ≤ a) (hb : biz h a = true) (n : Nat) : ∀ (r : Int), a + n + 1 ≤ 182620 → (cnt h (n + 1) (a - 1) : Int) = r → shiftM h (-1) (a + n + 1) r = (a, 0) := by
  induction n with
  | zero =>
    intro r h1 h2
    rw [cnt, cnt, show a - 1 + 1 = a by omega, hb, if_pos rfl] at h2
    have hr : r = 1 := by omega
    subst hr
    have e : a + ((0 : Nat) : Int) + 1 = a + 1 := by omega
    rw [e, shiftM_biz stN (by omega) (by omega) (by omega) (by omega) (by omega) (by rw [show a + 1 + -1 = a by omega]; exact hb), show a + 1 + -1 = a by omega]
    exact shiftM_done stN (by omega) (by omega) (by omega)
  | succ n ih =>
    intro r h1 h2
    rw [cnt_last, show a - 1 + ((n + 1 : Nat) : Int) + 1 = a + n + 1 by omega] at h2
    have hpos : 1 ≤ cnt h (n + 1) (a - 1) := by rw [cnt, show a - 1 + 1 = a by omega, hb, if_pos rfl]; omega
    have e : a + ((n + 1 : Nat) : Int) + 1 + -1 = a + n + 1 := by omega
    cases hx : biz h (a + n + 1) with
    | true =>
      rw [hx, if_pos rfl] at h2
      rw [shiftM_biz stN (by omega) (by omega) (by omega) (by omega) (by omega) (by rw [e]; exact hx), e]
      exact ih (r - 1) (by omega) (by omega)
    | false =>
      rw [hx, if_neg (by simp)] at h2
      rw [shiftM_off stN (by omega) (by omega) (by omega) (by omega) (by omega) (by rw [e]; exact hx), e]
      exact ih r (by omega) (by omega)
theorem shiftf_eq {l : List Int} (d k : Int) (hw : WF l) : calendar_Shift.f d k l = some (shift d k l) := by
  unfold calendar_Shift.f; rw [if_pos hw.all]
end Go.Proofs.YtpbkdbicdimfhaaDoor
