/- The contracts of the calendar's small functions: leap years, lengths of months, days before a year, both in the program and in the reference. -/
import Derived.Test.YtpbkdbicdimfhaaDoorProg
import Derived.Test.YtpbkdbicdimfhaaDoorCalA
import Derived.WalkKit
import Derived.WalkSpells
import Derived.WalkLawsBesides
import Derived.Deep.QuietTactic
import Derived.BigQuiet
import Derived.Lib.Hide
namespace Go.Proofs.YtpbkdbicdimfhaaDoor
open Go.RowKit
set_option linter.unusedVariables false
set_option linter.unusedSimpArgs false

theorem ret_int {k : IntKind} {a b : Int} (h : a = b) : Ending.returned (.int k a) = .returned (.int k b) := by rw [h]
theorem ret_bool {a b : Bool} (h : a = b) : Ending.returned (.bool a) = .returned (.bool b) := by rw [h]

set_option maxHeartbeats 400000 in
theorem leap_yes (y : Int) (h0 : 0 ≤ y) (h1 : y ≤ 3000) (hl : Cal.lp y = 1) (w : World) :
    Calls Tryd.prog 60 #[.int .i64 y] w fun e w' => e = .returned (.bool true) ∧ w = w' := by
  have H := Lib.hid hl
  clear hl
  go_enter Tryd.func60, Tryd.ntmps60
  go_wp2
  all_goals
    go_ret
    have h := H.out
    unfold Cal.lp at h
    refine ⟨ret_bool ?_, rfl⟩
    split at h
    · first | rfl | (simp; omega)
    · omega
set_option maxHeartbeats 400000 in
theorem leap_no (y : Int) (h0 : 0 ≤ y) (h1 : y ≤ 3000) (hl : Cal.lp y = 0) (w : World) :
    Calls Tryd.prog 60 #[.int .i64 y] w fun e w' => e = .returned (.bool false) ∧ w = w' := by
  have H := Lib.hid hl
  clear hl
  go_enter Tryd.func60, Tryd.ntmps60
  go_wp2
  all_goals
    go_ret
    have h := H.out
    unfold Cal.lp at h
    refine ⟨ret_bool ?_, rfl⟩
    split at h
    · omega
    · first | rfl | (simp; omega) | omega

set_option maxHeartbeats 400000 in
theorem before_any (y : Int) (h0 : 1900 ≤ y) (h1 : y ≤ 2400) (w : World) :
    Calls Tryd.prog 49 #[.int .i64 y] w fun e w' => e = .returned (.int .i64 (Cal.bef y)) ∧ w = w' := by
  go_enter Tryd.func49, Tryd.ntmps49
  go_wp2
  go_ret
  refine ⟨ret_int ?_, rfl⟩
  unfold Cal.bef
  omega

theorem ln_of (y : Int) : Cal.ln y 1 = 31 ∧ Cal.ln y 2 = 28 + Cal.lp y ∧ Cal.ln y 3 = 31 ∧ Cal.ln y 4 = 30 ∧ Cal.ln y 5 = 31 ∧ Cal.ln y 6 = 30 ∧ Cal.ln y 7 = 31 ∧ Cal.ln y 8 = 31 ∧ Cal.ln y 9 = 30 ∧ Cal.ln y 10 = 31 ∧ Cal.ln y 11 = 30 ∧ Cal.ln y 12 = 31 := by
  simp [Cal.ln]

set_option maxHeartbeats 2000000 in
theorem length_any (y m : Int) (h0 : 1900 ≤ y) (h1 : y ≤ 2400) (m0 : 1 ≤ m) (m1 : m ≤ 12) (w : World) :
    Calls Tryd.prog 47 #[.int .i64 y, .int .i64 m] w fun e w' => e = .returned (.int .i64 (Cal.ln y m)) ∧ Below w.heap.size w w' := by
  have hm : m = 2 ∨ m = 1 ∨ m = 3 ∨ m = 4 ∨ m = 5 ∨ m = 6 ∨ m = 7 ∨ m = 8 ∨ m = 9 ∨ m = 10 ∨ m = 11 ∨ m = 12 := by omega
  have HL := Lib.hid (ln_of y)
  clear m0 m1
  rcases hm with rfl | hm
  · rcases Cal.lp_01 y with hl | hl
    · have Hl := Lib.hid hl
      clear hl
      go_enter Tryd.func47, Tryd.ntmps47
      go_wp2_with (go_at_call 60; refine (leap_no _ (by omega) (by omega) Hl.out _).mono ?_; rintro e w' ⟨rfl, rfl⟩)
      go_ret
      exact ⟨ret_int (by rw [HL.out.2.1, Hl.out]; rfl), (Below.refl _ _).alloc (Nat.le_refl _) _⟩
    · have Hl := Lib.hid hl
      clear hl
      go_enter Tryd.func47, Tryd.ntmps47
      go_wp2_with (go_at_call 60; refine (leap_yes _ (by omega) (by omega) Hl.out _).mono ?_; rintro e w' ⟨rfl, rfl⟩)
      go_ret
      exact ⟨ret_int (by rw [HL.out.2.1, Hl.out]; rfl), (Below.refl _ _).alloc (Nat.le_refl _) _⟩
  · rcases hm with rfl | rfl | rfl | rfl | rfl | rfl | rfl | rfl | rfl | rfl | rfl
    all_goals
      go_enter Tryd.func47, Tryd.ntmps47
      go_wp2
      go_ret
      exact ⟨ret_int (by simp only [HL.out]), (Below.refl _ _).alloc (Nat.le_refl _) _⟩

theorem ln_2 (y : Int) : Cal.ln y 2 = 28 + Cal.lp y := by simp [Cal.ln]
theorem lp_yes {y : Int} (h : (y % 4 = 0 ∧ y % 100 ≠ 0) ∨ y % 400 = 0) : Cal.lp y = 1 := by unfold Cal.lp; rw [if_pos h]
theorem lp_no {y : Int} (h : ¬ ((y % 4 = 0 ∧ y % 100 ≠ 0) ∨ y % 400 = 0)) : Cal.lp y = 0 := by unfold Cal.lp; rw [if_neg h]
set_option maxHeartbeats 2000000 in
theorem rlength_2 (y : Int) (h0 : 1900 ≤ y) (h1 : y ≤ 2400) (w : World) :
    Calls Tryd.prog 48 #[.int .i64 y, .int .i64 2] w fun e w' => e = .returned (.int .i64 (Cal.ln y 2)) ∧ w = w' := by
  have HL := Lib.hid (ln_2 y)
  go_enter Tryd.func48, Tryd.ntmps48
  go_wp2
  all_goals
    go_ret
    refine ⟨ret_int ?_, rfl⟩
    rw [HL.out]
    try simp only [Bool.or_eq_true, beq_iff_eq, bne_iff_ne, ne_eq, beq_eq_false_iff_ne, bne_eq_false_iff_eq] at *
    first | (rw [lp_yes (by omega)] <;> rfl) | (rw [lp_no (by omega)] <;> rfl)
set_option maxHeartbeats 2000000 in
theorem rlength_oth (y m : Int) (m0 : 1 ≤ m) (m1 : m ≤ 12) (h2 : (m == 2) = false) (w : World) :
    Calls Tryd.prog 48 #[.int .i64 y, .int .i64 m] w fun e w' => e = .returned (.int .i64 (Cal.ln y m)) ∧ w = w' := by
  go_enter Tryd.func48, Tryd.ntmps48
  go_wp2
  all_goals
    go_ret
    refine ⟨ret_int ?_, rfl⟩
    unfold Cal.ln
    try simp only [beq_iff_eq, beq_eq_false_iff_ne, ne_eq] at *
    first | (rw [if_pos (by omega)] <;> rfl) | (rw [if_neg (by omega), if_neg (by omega)] <;> rfl)
theorem rlength_any (y m : Int) (h0 : 1900 ≤ y) (h1 : y ≤ 2400) (m0 : 1 ≤ m) (m1 : m ≤ 12) (w : World) :
    Calls Tryd.prog 48 #[.int .i64 y, .int .i64 m] w fun e w' => e = .returned (.int .i64 (Cal.ln y m)) ∧ w = w' := by
  by_cases h : m = 2
  · subst h; exact rlength_2 y h0 h1 w
  · exact rlength_oth y m m0 m1 (by simp [h]) w
end Go.Proofs.YtpbkdbicdimfhaaDoor
