/- The contract of Shift, all its ways together. -/
import Derived.Test.YtpbkdbicdimfhaaDoorVMore
import Derived.Test.YtpbkdbicdimfhaaDoorW2
namespace Go.Proofs.YtpbkdbicdimfhaaDoor
open Go.RowKit Go.Maps Go.Proofs.YtpbkdbicdimfhaaDoorW.PrintWords
set_option linter.unusedVariables false

set_option maxHeartbeats 1000000 in
theorem shift_day (d k : Int) (A : Option Addr) (n c : Nat) (w : World) (h : d < 0 ∨ 182620 < d) :
    Calls Tryd.prog 37 #[.int .i64 d, .int .i64 k, .slice A n c] w (ShiftPost w (0, 50)) := by
  go_enter Tryd.func37, Tryd.ntmps37
  go_wp2_with (go_at_call 51; (with_reducible refine (valid_no _ _ h).mono ?_); rintro e w' ⟨rfl, rfl⟩)
  go_ret2
  exact ⟨rfl, Below.refl _ _⟩
set_option maxHeartbeats 1000000 in
theorem shift_low (d k : Int) (A : Option Addr) (n c : Nat) (w : World) (h0 : 0 ≤ d) (h1 : d ≤ 182620) (hk : k < -1000) :
    Calls Tryd.prog 37 #[.int .i64 d, .int .i64 k, .slice A n c] w (ShiftPost w (0, 51)) := by
  go_enter Tryd.func37, Tryd.ntmps37
  go_wp2_with (go_at_call 51; (with_reducible refine (valid_yes _ _ h0 h1).mono ?_); rintro e w' ⟨rfl, rfl⟩)
  go_ret2
  exact ⟨rfl, Below.refl _ _⟩
set_option maxHeartbeats 1000000 in
theorem shift_high (d k : Int) (A : Option Addr) (n c : Nat) (w : World) (h0 : 0 ≤ d) (h1 : d ≤ 182620) (hk0 : ¬ k < -1000) (hk : 1000 < k) :
    Calls Tryd.prog 37 #[.int .i64 d, .int .i64 k, .slice A n c] w (ShiftPost w (0, 51)) := by
  go_enter Tryd.func37, Tryd.ntmps37
  go_wp2_with (go_at_call 51; (with_reducible refine (valid_yes _ _ h0 h1).mono ?_); rintro e w' ⟨rfl, rfl⟩)
  go_ret2
  exact ⟨rfl, Below.refl _ _⟩
set_option maxHeartbeats 1000000 in
theorem shift_list (d k : Int) (A : Option Addr) (n c : Nat) (w : World) (h0 : 0 ≤ d) (h1 : d ≤ 182620) (k0 : -1000 ≤ k) (k1 : k ≤ 1000) (hn : 400 < n) :
    Calls Tryd.prog 37 #[.int .i64 d, .int .i64 k, .slice A n c] w (ShiftPost w (0, 52)) := by
  have hn2 : decide (400 < n) = true := by simpa using hn
  go_enter Tryd.func37, Tryd.ntmps37
  go_wp2_with (go_at_call 51; (with_reducible refine (valid_yes _ _ h0 h1).mono ?_); rintro e w' ⟨rfl, rfl⟩)
  go_ret2
  exact ⟨rfl, Below.refl _ _⟩
theorem shift_any (d k : Int) (A : Option Addr) (c : Nat) (l : List Int) (w : World) (hr : Kd.C (Kd.int .i64) w A l.length l) (hw : ∀ x ∈ l, (Lit.int .i64 x).wf = true) :
    Calls Tryd.prog 37 #[.int .i64 d, .int .i64 k, .slice A l.length c] w (ShiftPost w (shift d k l)) := by
  unfold shift
  by_cases h : 0 ≤ d ∧ d ≤ 182620
  · obtain ⟨h0, h1⟩ := h
    rw [if_pos (show inCal d = true from decide_eq_true ⟨h0, h1⟩)]
    by_cases hk : k < -1000 ∨ 1000 < k
    · rw [if_pos hk]
      by_cases hk2 : k < -1000
      · exact shift_low d k A _ c w h0 h1 hk2
      · exact shift_high d k A _ c w h0 h1 hk2 (by omega)
    · rw [if_neg hk]
      by_cases hn : 400 < l.length
      · rw [if_pos hn]; exact shift_list d k A _ c w h0 h1 (by omega) (by omega) hn
      · rw [if_neg hn]
        by_cases h3 : k < 0
        · rw [if_pos h3]; exact shift_neg d k A c l w h0 h1 (by omega) (by omega) h3 (by omega) hr hw
        · rw [if_neg h3]
          by_cases h4 : k = 0
          · rw [if_pos h4]; exact shift_zero d k A c l w h0 h1 (by omega) (by omega) h4 (by omega) hr hw
          · rw [if_neg h4]; exact shift_pos d k A c l w h0 h1 (by omega) (by omega) (by omega) (by omega) hr hw
  · rw [if_neg (by simp [inCal]; omega)]
    exact shift_day d k A _ c w (by omega)
end Go.Proofs.YtpbkdbicdimfhaaDoor
