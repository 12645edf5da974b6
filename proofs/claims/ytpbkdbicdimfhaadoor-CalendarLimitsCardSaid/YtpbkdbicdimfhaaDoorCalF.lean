/- The plain law of the reference's Shift: it comes to what the program's Shift does. -/
import Derived.Test.YtpbkdbicdimfhaaDoorCalE
namespace Go.Proofs.YtpbkdbicdimfhaaDoor
open Go.RowKit P Go.Proofs.YtpbkdbicdimfhaaDoorW.PrintWords
set_option linter.unusedVariables false

theorem rshift_l {l : List Int} (hl : l.length ≤ 1000) (step : Int) (hs : step = 1 ∨ step = -1) (c : Nat) : ∀ (k : Nat) (p r : Int), -1 ≤ p → p ≤ 182620 → left step p = c → 2 * c + 1100 < k → 1 ≤ r → r ≤ 100000 →
    priceofficeref05_Shift.l0 k r l step (p + step) = some (shiftM l step p r) := by
  induction c with
  | zero =>
    intro k p r h0 h1 h2
    obtain ⟨n, hn, _⟩ := left_step hs h0 h1
    omega
  | succ c ih =>
    intro k p r h0 h1 h2 hk r0 r1
    obtain ⟨k, rfl⟩ : ∃ q, k = q + 1 + 1 := ⟨k - 2, by omega⟩
    obtain ⟨n, hn, hn2⟩ := left_step hs h0 h1
    simp only [priceofficeref05_Shift.l0]
    by_cases hin : 0 ≤ p + step ∧ p + step ≤ 182620
    · obtain ⟨i0, i1⟩ := hin
      rw [if_pos i0, decide_eq_true (show p + step < 182621 by omega)]
      simp only [priceofficeref05_Shift.j5, if_true]
      have hi : inCal (p + step) = true := decide_eq_true ⟨i0, i1⟩
      rw [rbusiness_eq _ (by omega) (by omega), hi, Bool.true_and]
      simp only [Option.bind_some]
      have hst : p + step + step = (p + step) + step := rfl
      have hlf := hn2 i0 i1
      cases hb : biz l (p + step) with
      | true =>
        rw [if_pos rfl, w64 (x := r - 1) (by omega) (by omega), shiftM_biz hs h0 h1 (by omega) i0 i1 hb]
        by_cases e : r - 1 = 0
        · rw [if_pos e, e, shiftM_done hs (by omega) i1 (by omega)]
        · rw [if_neg e, w64 (x := p + step + step) (by omega) (by omega)]
          exact ih k (p + step) (r - 1) (by omega) i1 (by omega) (by omega) (by omega) (by omega)
      | false =>
        rw [if_neg (by simp), w64 (x := p + step + step) (by omega) (by omega), shiftM_off hs h0 h1 (by omega) i0 i1 hb]
        exact ih k (p + step) r (by omega) i1 (by omega) (by omega) (by omega) (by omega)
    · rw [shiftM_out hs h0 h1 (by omega) (by omega)]
      by_cases i0 : p + step ≥ 0
      · rw [if_pos i0, decide_eq_false (show ¬ p + step < 182621 by omega)]
        simp only [priceofficeref05_Shift.j5]
        rw [if_neg (by simp)]
      · rw [if_neg i0]
        simp only [priceofficeref05_Shift.j5]
        rw [if_neg (by simp)]
theorem left_le (step p : Int) (h0 : -1 ≤ p) (h1 : p ≤ 182620) : left step p ≤ 182623 := by unfold left; split <;> omega
theorem rshift_eq {k : Nat} {l : List Int} (d n : Int) (hl : l.length ≤ 1000) (hk : 400000 ≤ k) : priceofficeref05_Shift.f k d n l = some (shift d n l) := by
  obtain ⟨k, rfl⟩ : ∃ q, k = q + 1 + 1 + 1 + 1 := ⟨k - 4, by omega⟩
  unfold priceofficeref05_Shift.f shift
  by_cases h0 : d < 0
  · rw [if_pos h0, if_neg (by simp [inCal]; omega)]
    simp only [priceofficeref05_Shift.j0, if_true]
  · rw [if_neg h0]
    simp only [priceofficeref05_Shift.j0]
    by_cases h1 : d ≥ 182621
    · rw [if_pos (decide_eq_true h1), if_neg (by simp [inCal]; omega)]
    · rw [if_neg (by simpa using h1), if_pos (show inCal d = true from decide_eq_true ⟨by omega, by omega⟩)]
      by_cases hn : n > 1000
      · rw [if_pos hn, if_pos (.inr hn)]
        simp only [priceofficeref05_Shift.j1, if_true]
      · rw [if_neg hn]
        simp only [priceofficeref05_Shift.j1]
        by_cases hn2 : n < -1000
        · rw [if_pos (decide_eq_true hn2), if_pos (.inl hn2)]
        · rw [if_neg (by simpa using hn2), if_neg (show ¬ (n < -1000 ∨ 1000 < n) by omega)]
          by_cases hll : (l.length : Int) > 400
          · rw [if_pos hll, if_pos (show 400 < l.length by omega)]
          · rw [if_neg hll, if_neg (show ¬ 400 < l.length by omega)]
            by_cases hneg : n < 0
            · rw [if_pos hneg, if_pos hneg, w64 (x := -n) (by omega) (by omega)]
              simp only [priceofficeref05_Shift.j2]
              rw [if_neg (by omega)]
              simp only [priceofficeref05_Shift.j3]
              rw [if_neg (by simp), mx_ge (by omega), w64 (x := d + -1) (by omega) (by omega)]
              have := left_le (-1) d (by omega) (by omega)
              exact rshift_l hl (-1) stN _ k d (-n) (by omega) (by omega) rfl (by omega) (by omega) (by omega)
            · rw [if_neg hneg, if_neg hneg]
              simp only [priceofficeref05_Shift.j2]
              by_cases hz : n = 0
              · rw [if_pos hz, if_pos hz, rbusiness_eq _ (by omega) (by omega), show inCal d = true from decide_eq_true ⟨by omega, by omega⟩, Bool.true_and]
                simp only [Option.bind_some, priceofficeref05_Shift.j3]
                have e1 : d - 1 + 1 = d := by omega
                cases hb : biz l d with
                | true =>
                  rw [if_pos rfl, shiftM_biz stP (by omega) (by omega) (by omega) (by omega) (by omega) (by rw [e1]; exact hb), e1, shiftM_done stP (by omega) (by omega) (by omega)]
                | false =>
                  rw [if_neg (by simp), shiftM_off stP (by omega) (by omega) (by omega) (by omega) (by omega) (by rw [e1]; exact hb), e1, hz, mx_lt (by omega), w64 (x := d + 1) (by omega) (by omega)]
                  have := left_le 1 d (by omega) (by omega)
                  exact rshift_l hl 1 stP _ k d 1 (by omega) (by omega) rfl (by omega) (by omega) (by omega)
              · rw [if_neg hz, if_neg hz]
                simp only [priceofficeref05_Shift.j3]
                rw [if_neg (by simp), mx_ge (by omega), w64 (x := d + 1) (by omega) (by omega)]
                have := left_le 1 d (by omega) (by omega)
                exact rshift_l hl 1 stP _ k d n (by omega) (by omega) rfl (by omega) (by omega) (by omega)
end Go.Proofs.YtpbkdbicdimfhaaDoor
