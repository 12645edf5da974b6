/- Lean functions with the same answers as the program's Go functions, and for each the proof that the call comes to these answers; written by a program of mine out of the translation, the functions marked 'by hand' by me. -/
import Derived.Test.YtpnoliognpmkmaaGreatDoorP0
import Derived.Test.YtpnoliognpmkmaaGreatDoorP8
import Derived.Test.YtpnoliognpmkmaaGreatDoorP10
namespace Go.Proofs.YtpnoliognpmkmaaGreatDoor.P
open Go.RowKit Go.Proofs.YtpnoliognpmkmaaGreatDoorW.PrintWords Go.Proofs.YtpnoliognpmkmaaGreatDoorW.PrintLast Go.Proofs.YtpnoliognpmkmaaGreatDoorW.PrintMore
attribute [local go_sem] max2_int min2_int max_two min_two max_three min_three max_four min_four   -- for this text's walks alone
set_option linter.unusedVariables false
set_option linter.unusedSimpArgs false

/-! ### c_Within: function 18 -/
def c_Within.f (k : Nat) (a0 : ByteArray) (a1 : ByteArray) : Option (Bool) := if a0.toList = ([] : List UInt8) then (if a1.toList = ([] : List UInt8) then (some true) else ((c_is.f k a1).bind fun t349 => (if t349 = true then (if a0.toList = a1.toList then (some true) else (if a1.size + 1 ≤ 9223372036854775807 then ((strings_HasPrefix.f a0 (a1 ++ (⟨#[46]⟩ : ByteArray))).bind fun t350 => (some t350)) else (none))) else (some false)))) else ((c_is.f k a0).bind fun t351 => (if t351 = true then (if a1.toList = ([] : List UInt8) then (some true) else ((c_is.f k a1).bind fun t352 => (if t352 = true then (if a0.toList = a1.toList then (some true) else (if a1.size + 1 ≤ 9223372036854775807 then ((strings_HasPrefix.f a0 (a1 ++ (⟨#[46]⟩ : ByteArray))).bind fun t353 => (some t353)) else (none))) else (some false)))) else (some false)))
theorem c_Within.mono : ∀ a0 a1 k, LeO (c_Within.f k a0 a1) (c_Within.f (k + 1) a0 a1) := by
 intro a0 a1 k
 unfold c_Within.f
 repeat' first
   | (with_reducible exact c_is.mono _ _)
   | (with_reducible exact LeO.refl _)
   | (with_reducible exact LeO.none _)
   | (with_reducible refine LeO.ite ?_ ?_)
   | (with_reducible refine LeO.bind ?_ (fun _ => ?_))
set_option maxHeartbeats 8000000 in
set_option maxRecDepth 100000 in
theorem c_Within.calls (k : Nat) (a0 : ByteArray) (a1 : ByteArray) (r : Bool) (w : World) (hG : GL w) (h : c_Within.f k a0 a1 = some r) :
  Calls Tryz.prog 18 #[.string a0, .string a1] w fun e w' => e = .returned (.bool r) ∧ Below w.heap.size w w' := by
 have HG := mk0 hG
 clear hG
 have HB := mk0 (Below.refl w.heap.size w)
 have H : (if a0.toList = ([] : List UInt8) then (if a1.toList = ([] : List UInt8) then (some true) else ((c_is.f k a1).bind fun t349 => (if t349 = true then (if a0.toList = a1.toList then (some true) else (if a1.size + 1 ≤ 9223372036854775807 then ((strings_HasPrefix.f a0 (a1 ++ (⟨#[46]⟩ : ByteArray))).bind fun t350 => (some t350)) else (none))) else (some false)))) else ((c_is.f k a0).bind fun t351 => (if t351 = true then (if a1.toList = ([] : List UInt8) then (some true) else ((c_is.f k a1).bind fun t352 => (if t352 = true then (if a0.toList = a1.toList then (some true) else (if a1.size + 1 ≤ 9223372036854775807 then ((strings_HasPrefix.f a0 (a1 ++ (⟨#[46]⟩ : ByteArray))).bind fun t353 => (some t353)) else (none))) else (some false)))) else (some false)))) = some r := h
 clear h
 by_cases c3 : a0.toList = ([] : List UInt8)
 ·rw [if_pos c3] at H
  have c3b0 : (a0.toList == ([] : List UInt8)) = true := beq_iff_eq.mpr c3
  have c3b1 : (a0.toList != ([] : List UInt8)) = false := bne_eq_false_iff_eq.mpr c3
  clear c3
  by_cases c4 : a1.toList = ([] : List UInt8)
  ·rw [if_pos c4] at H
   have c4b0 : (a1.toList == ([] : List UInt8)) = true := beq_iff_eq.mpr c4
   have c4b1 : (a1.toList != ([] : List UInt8)) = false := bne_eq_false_iff_eq.mpr c4
   clear c4
   obtain rfl := Option.some.inj H
   go_enter Tryz.func18, Tryz.ntmps18
   go_wp2
   go_ret
   exact ⟨by first | rfl | (simp [errW_none, errW_some] <;> rfl) | (simp [*, errW_none, errW_some] <;> rfl), by repeat (first | (with_reducible first | exact HB.out | apply b_a | apply b_n | apply b_d) | exact HB.out)⟩
  ·rw [if_neg c4] at H
   have c4b0 : (a1.toList == ([] : List UInt8)) = false := beq_eq_false_iff_ne.mpr c4
   have c4b1 : (a1.toList != ([] : List UInt8)) = true := bne_iff_ne.mpr c4
   replace H := Option.bind_eq_some_iff.mp H
   obtain ⟨t349, A50, H⟩ := H
   replace H : (if t349 = true then (if a0.toList = a1.toList then (some true) else (if a1.size + 1 ≤ 9223372036854775807 then ((strings_HasPrefix.f a0 (a1 ++ (⟨#[46]⟩ : ByteArray))).bind fun t350 => (some t350)) else (none))) else (some false)) = some r := H
   have A5 := mk0 A50
   clear A50
   by_cases c6 : t349 = true
   ·subst c6
    have H1 : (if a0.toList = a1.toList then (some true) else (if a1.size + 1 ≤ 9223372036854775807 then ((strings_HasPrefix.f a0 (a1 ++ (⟨#[46]⟩ : ByteArray))).bind fun t350 => (some t350)) else (none))) = some r := by rw [if_pos rfl] at H; exact H
    clear H
    have H := H1
    clear H1
    by_cases c7 : a0.toList = a1.toList
    ·rw [if_pos c7] at H
     have c7b0 : (a0.toList == a1.toList) = true := beq_iff_eq.mpr c7
     have c7b1 : (a0.toList != a1.toList) = false := bne_eq_false_iff_eq.mpr c7
     clear c7
     obtain rfl := Option.some.inj H
     go_enter Tryz.func18, Tryz.ntmps18
     go_wp2_with (first | (go_at_call 29; (with_reducible refine (c_is.calls k a1 true _ ?side1 A5.out).mono ?_); (case side1 => first | exact HG.out | exact GL.below HG.out (by repeat (with_reducible first | exact HB.out | apply b_a | apply b_n | apply b_d))); rintro e w8 ⟨rfl, hb⟩; have n0_ := mk0 (below_step (by repeat (with_reducible first | exact HB.out | apply b_a | apply b_n | apply b_d)) hb); clear HB; have HB := n0_; clear n0_; (try clear hb); (try clear hb2); (try clear hk); (try clear hi)))
     go_ret
     exact ⟨by first | rfl | (simp [errW_none, errW_some] <;> rfl) | (simp [*, errW_none, errW_some] <;> rfl), by repeat (first | (with_reducible first | exact HB.out | apply b_a | apply b_n | apply b_d) | exact HB.out)⟩
    ·rw [if_neg c7] at H
     have c7b0 : (a0.toList == a1.toList) = false := beq_eq_false_iff_ne.mpr c7
     have c7b1 : (a0.toList != a1.toList) = true := bne_iff_ne.mpr c7
     by_cases c9 : a1.size + 1 ≤ 9223372036854775807
     ·rw [if_pos c9] at H
      have c9b0 := eq_true c9
      have c9b1 : decide (a1.size + 1 ≤ 9223372036854775807) = true := decide_eq_true c9
      try have c9b2 : (9223372036854775807 < a1.size + 1) = False := eq_false (Nat.not_lt.2 c9)
      replace H := Option.bind_eq_some_iff.mp H
      obtain ⟨t350, A100, H⟩ := H
      replace H : (some t350) = some r := H
      have A10 := mk0 A100
      clear A100
      obtain rfl := Option.some.inj H
      go_enter Tryz.func18, Tryz.ntmps18
      go_wp2_with (first | (go_at_call 29; (with_reducible refine (c_is.calls k a1 true _ ?side1 A5.out).mono ?_); (case side1 => first | exact HG.out | exact GL.below HG.out (by repeat (with_reducible first | exact HB.out | apply b_a | apply b_n | apply b_d))); rintro e w11 ⟨rfl, hb⟩; have n0_ := mk0 (below_step (by repeat (with_reducible first | exact HB.out | apply b_a | apply b_n | apply b_d)) hb); clear HB; have HB := n0_; clear n0_; (try clear hb); (try clear hb2); (try clear hk); (try clear hi)) | (go_at_call 30; (with_reducible refine (strings_HasPrefix.calls a0 (a1 ++ (⟨#[46]⟩ : ByteArray)) t350 _ A10.out).mono ?_); rintro e w' ⟨rfl, ⟨nd, rfl⟩⟩))
      go_ret
      exact ⟨by first | rfl | (simp [errW_none, errW_some] <;> rfl) | (simp [*, errW_none, errW_some] <;> rfl), by repeat (first | (with_reducible first | exact HB.out | apply b_a | apply b_n | apply b_d) | exact HB.out)⟩
     ·rw [if_neg c9] at H
      exact absurd H (by simp)
   ·replace c6 := Bool.eq_false_iff.mpr c6
    subst c6
    have H1 : (some false) = some r := by rw [if_neg (show ¬ (false = true) by decide)] at H; exact H
    clear H
    have H := H1
    clear H1
    obtain rfl := Option.some.inj H
    go_enter Tryz.func18, Tryz.ntmps18
    go_wp2_with (first | (go_at_call 29; (with_reducible refine (c_is.calls k a1 false _ ?side1 A5.out).mono ?_); (case side1 => first | exact HG.out | exact GL.below HG.out (by repeat (with_reducible first | exact HB.out | apply b_a | apply b_n | apply b_d))); rintro e w12 ⟨rfl, hb⟩; have n0_ := mk0 (below_step (by repeat (with_reducible first | exact HB.out | apply b_a | apply b_n | apply b_d)) hb); clear HB; have HB := n0_; clear n0_; (try clear hb); (try clear hb2); (try clear hk); (try clear hi)))
    go_ret
    exact ⟨by first | rfl | (simp [errW_none, errW_some] <;> rfl) | (simp [*, errW_none, errW_some] <;> rfl), by repeat (first | (with_reducible first | exact HB.out | apply b_a | apply b_n | apply b_d) | exact HB.out)⟩
 ·rw [if_neg c3] at H
  have c3b0 : (a0.toList == ([] : List UInt8)) = false := beq_eq_false_iff_ne.mpr c3
  have c3b1 : (a0.toList != ([] : List UInt8)) = true := bne_iff_ne.mpr c3
  replace H := Option.bind_eq_some_iff.mp H
  obtain ⟨t351, A130, H⟩ := H
  replace H : (if t351 = true then (if a1.toList = ([] : List UInt8) then (some true) else ((c_is.f k a1).bind fun t352 => (if t352 = true then (if a0.toList = a1.toList then (some true) else (if a1.size + 1 ≤ 9223372036854775807 then ((strings_HasPrefix.f a0 (a1 ++ (⟨#[46]⟩ : ByteArray))).bind fun t353 => (some t353)) else (none))) else (some false)))) else (some false)) = some r := H
  have A13 := mk0 A130
  clear A130
  by_cases c14 : t351 = true
  ·subst c14
   have H1 : (if a1.toList = ([] : List UInt8) then (some true) else ((c_is.f k a1).bind fun t352 => (if t352 = true then (if a0.toList = a1.toList then (some true) else (if a1.size + 1 ≤ 9223372036854775807 then ((strings_HasPrefix.f a0 (a1 ++ (⟨#[46]⟩ : ByteArray))).bind fun t353 => (some t353)) else (none))) else (some false)))) = some r := by rw [if_pos rfl] at H; exact H
   clear H
   have H := H1
   clear H1
   by_cases c15 : a1.toList = ([] : List UInt8)
   ·rw [if_pos c15] at H
    have c15b0 : (a1.toList == ([] : List UInt8)) = true := beq_iff_eq.mpr c15
    have c15b1 : (a1.toList != ([] : List UInt8)) = false := bne_eq_false_iff_eq.mpr c15
    clear c15
    obtain rfl := Option.some.inj H
    go_enter Tryz.func18, Tryz.ntmps18
    go_wp2_with (first | (go_at_call 29; (with_reducible refine (c_is.calls k a0 true _ ?side1 A13.out).mono ?_); (case side1 => first | exact HG.out | exact GL.below HG.out (by repeat (with_reducible first | exact HB.out | apply b_a | apply b_n | apply b_d))); rintro e w16 ⟨rfl, hb⟩; have n0_ := mk0 (below_step (by repeat (with_reducible first | exact HB.out | apply b_a | apply b_n | apply b_d)) hb); clear HB; have HB := n0_; clear n0_; (try clear hb); (try clear hb2); (try clear hk); (try clear hi)))
    go_ret
    exact ⟨by first | rfl | (simp [errW_none, errW_some] <;> rfl) | (simp [*, errW_none, errW_some] <;> rfl), by repeat (first | (with_reducible first | exact HB.out | apply b_a | apply b_n | apply b_d) | exact HB.out)⟩
   ·rw [if_neg c15] at H
    have c15b0 : (a1.toList == ([] : List UInt8)) = false := beq_eq_false_iff_ne.mpr c15
    have c15b1 : (a1.toList != ([] : List UInt8)) = true := bne_iff_ne.mpr c15
    replace H := Option.bind_eq_some_iff.mp H
    obtain ⟨t352, A170, H⟩ := H
    replace H : (if t352 = true then (if a0.toList = a1.toList then (some true) else (if a1.size + 1 ≤ 9223372036854775807 then ((strings_HasPrefix.f a0 (a1 ++ (⟨#[46]⟩ : ByteArray))).bind fun t353 => (some t353)) else (none))) else (some false)) = some r := H
    have A17 := mk0 A170
    clear A170
    by_cases c18 : t352 = true
    ·subst c18
     have H1 : (if a0.toList = a1.toList then (some true) else (if a1.size + 1 ≤ 9223372036854775807 then ((strings_HasPrefix.f a0 (a1 ++ (⟨#[46]⟩ : ByteArray))).bind fun t353 => (some t353)) else (none))) = some r := by rw [if_pos rfl] at H; exact H
     clear H
     have H := H1
     clear H1
     by_cases c19 : a0.toList = a1.toList
     ·rw [if_pos c19] at H
      have c19b0 : (a0.toList == a1.toList) = true := beq_iff_eq.mpr c19
      have c19b1 : (a0.toList != a1.toList) = false := bne_eq_false_iff_eq.mpr c19
      clear c19
      obtain rfl := Option.some.inj H
      go_enter Tryz.func18, Tryz.ntmps18
      go_wp2_with (first | (go_at_call 29; (with_reducible refine (c_is.calls k a0 true _ ?side1 A13.out).mono ?_); (case side1 => first | exact HG.out | exact GL.below HG.out (by repeat (with_reducible first | exact HB.out | apply b_a | apply b_n | apply b_d))); rintro e w20 ⟨rfl, hb⟩; have n0_ := mk0 (below_step (by repeat (with_reducible first | exact HB.out | apply b_a | apply b_n | apply b_d)) hb); clear HB; have HB := n0_; clear n0_; (try clear hb); (try clear hb2); (try clear hk); (try clear hi)) | (go_at_call 29; (with_reducible refine (c_is.calls k a1 true _ ?side1 A17.out).mono ?_); (case side1 => first | exact HG.out | exact GL.below HG.out (by repeat (with_reducible first | exact HB.out | apply b_a | apply b_n | apply b_d))); rintro e w21 ⟨rfl, hb⟩; have n0_ := mk0 (below_step (by repeat (with_reducible first | exact HB.out | apply b_a | apply b_n | apply b_d)) hb); clear HB; have HB := n0_; clear n0_; (try clear hb); (try clear hb2); (try clear hk); (try clear hi)))
      go_ret
      exact ⟨by first | rfl | (simp [errW_none, errW_some] <;> rfl) | (simp [*, errW_none, errW_some] <;> rfl), by repeat (first | (with_reducible first | exact HB.out | apply b_a | apply b_n | apply b_d) | exact HB.out)⟩
     ·rw [if_neg c19] at H
      have c19b0 : (a0.toList == a1.toList) = false := beq_eq_false_iff_ne.mpr c19
      have c19b1 : (a0.toList != a1.toList) = true := bne_iff_ne.mpr c19
      by_cases c22 : a1.size + 1 ≤ 9223372036854775807
      ·rw [if_pos c22] at H
       have c22b0 := eq_true c22
       have c22b1 : decide (a1.size + 1 ≤ 9223372036854775807) = true := decide_eq_true c22
       try have c22b2 : (9223372036854775807 < a1.size + 1) = False := eq_false (Nat.not_lt.2 c22)
       replace H := Option.bind_eq_some_iff.mp H
       obtain ⟨t353, A230, H⟩ := H
       replace H : (some t353) = some r := H
       have A23 := mk0 A230
       clear A230
       obtain rfl := Option.some.inj H
       go_enter Tryz.func18, Tryz.ntmps18
       go_wp2_with (first | (go_at_call 29; (with_reducible refine (c_is.calls k a0 true _ ?side1 A13.out).mono ?_); (case side1 => first | exact HG.out | exact GL.below HG.out (by repeat (with_reducible first | exact HB.out | apply b_a | apply b_n | apply b_d))); rintro e w24 ⟨rfl, hb⟩; have n0_ := mk0 (below_step (by repeat (with_reducible first | exact HB.out | apply b_a | apply b_n | apply b_d)) hb); clear HB; have HB := n0_; clear n0_; (try clear hb); (try clear hb2); (try clear hk); (try clear hi)) | (go_at_call 29; (with_reducible refine (c_is.calls k a1 true _ ?side1 A17.out).mono ?_); (case side1 => first | exact HG.out | exact GL.below HG.out (by repeat (with_reducible first | exact HB.out | apply b_a | apply b_n | apply b_d))); rintro e w25 ⟨rfl, hb⟩; have n0_ := mk0 (below_step (by repeat (with_reducible first | exact HB.out | apply b_a | apply b_n | apply b_d)) hb); clear HB; have HB := n0_; clear n0_; (try clear hb); (try clear hb2); (try clear hk); (try clear hi)) | (go_at_call 30; (with_reducible refine (strings_HasPrefix.calls a0 (a1 ++ (⟨#[46]⟩ : ByteArray)) t353 _ A23.out).mono ?_); rintro e w' ⟨rfl, ⟨nd, rfl⟩⟩))
       go_ret
       exact ⟨by first | rfl | (simp [errW_none, errW_some] <;> rfl) | (simp [*, errW_none, errW_some] <;> rfl), by repeat (first | (with_reducible first | exact HB.out | apply b_a | apply b_n | apply b_d) | exact HB.out)⟩
      ·rw [if_neg c22] at H
       exact absurd H (by simp)
    ·replace c18 := Bool.eq_false_iff.mpr c18
     subst c18
     have H1 : (some false) = some r := by rw [if_neg (show ¬ (false = true) by decide)] at H; exact H
     clear H
     have H := H1
     clear H1
     obtain rfl := Option.some.inj H
     go_enter Tryz.func18, Tryz.ntmps18
     go_wp2_with (first | (go_at_call 29; (with_reducible refine (c_is.calls k a0 true _ ?side1 A13.out).mono ?_); (case side1 => first | exact HG.out | exact GL.below HG.out (by repeat (with_reducible first | exact HB.out | apply b_a | apply b_n | apply b_d))); rintro e w26 ⟨rfl, hb⟩; have n0_ := mk0 (below_step (by repeat (with_reducible first | exact HB.out | apply b_a | apply b_n | apply b_d)) hb); clear HB; have HB := n0_; clear n0_; (try clear hb); (try clear hb2); (try clear hk); (try clear hi)) | (go_at_call 29; (with_reducible refine (c_is.calls k a1 false _ ?side1 A17.out).mono ?_); (case side1 => first | exact HG.out | exact GL.below HG.out (by repeat (with_reducible first | exact HB.out | apply b_a | apply b_n | apply b_d))); rintro e w27 ⟨rfl, hb⟩; have n0_ := mk0 (below_step (by repeat (with_reducible first | exact HB.out | apply b_a | apply b_n | apply b_d)) hb); clear HB; have HB := n0_; clear n0_; (try clear hb); (try clear hb2); (try clear hk); (try clear hi)))
     go_ret
     exact ⟨by first | rfl | (simp [errW_none, errW_some] <;> rfl) | (simp [*, errW_none, errW_some] <;> rfl), by repeat (first | (with_reducible first | exact HB.out | apply b_a | apply b_n | apply b_d) | exact HB.out)⟩
  ·replace c14 := Bool.eq_false_iff.mpr c14
   subst c14
   have H1 : (some false) = some r := by rw [if_neg (show ¬ (false = true) by decide)] at H; exact H
   clear H
   have H := H1
   clear H1
   obtain rfl := Option.some.inj H
   go_enter Tryz.func18, Tryz.ntmps18
   go_wp2_with (first | (go_at_call 29; (with_reducible refine (c_is.calls k a0 false _ ?side1 A13.out).mono ?_); (case side1 => first | exact HG.out | exact GL.below HG.out (by repeat (with_reducible first | exact HB.out | apply b_a | apply b_n | apply b_d))); rintro e w28 ⟨rfl, hb⟩; have n0_ := mk0 (below_step (by repeat (with_reducible first | exact HB.out | apply b_a | apply b_n | apply b_d)) hb); clear HB; have HB := n0_; clear n0_; (try clear hb); (try clear hb2); (try clear hk); (try clear hi)))
   go_ret
   exact ⟨by first | rfl | (simp [errW_none, errW_some] <;> rfl) | (simp [*, errW_none, errW_some] <;> rfl), by repeat (first | (with_reducible first | exact HB.out | apply b_a | apply b_n | apply b_d) | exact HB.out)⟩

/-! ### c_Level: function 19 -/
def c_Level.f (k : Nat) (a0 : ByteArray) : Option (Int) := (c_Parse.f k a0).bind fun bt354 => (if bt354.2 = 0 then (some (bt354.1.length : Int)) else (if a0.toList = ([] : List UInt8) then (some (bt354.1.length : Int)) else (some (-1))))
theorem c_Level.mono : ∀ a0 k, LeO (c_Level.f k a0) (c_Level.f (k + 1) a0) := by
 intro a0 k
 unfold c_Level.f
 repeat' first
   | (with_reducible exact c_Parse.mono _ _)
   | (with_reducible exact LeO.refl _)
   | (with_reducible exact LeO.none _)
   | (with_reducible refine LeO.ite ?_ ?_)
   | (with_reducible refine LeO.bind ?_ (fun _ => ?_))
set_option maxHeartbeats 8000000 in
set_option maxRecDepth 100000 in
theorem c_Level.calls (k : Nat) (a0 : ByteArray) (r : Int) (w : World) (hG : GL w) (h : c_Level.f k a0 = some r) :
  Calls Tryz.prog 19 #[.string a0] w fun e w' => e = .returned (.int .i64 r) ∧ Below w.heap.size w w' := by
 have HG := mk0 hG
 clear hG
 have HB := mk0 (Below.refl w.heap.size w)
 have H : ((c_Parse.f k a0).bind fun bt354 => (if bt354.2 = 0 then (some (bt354.1.length : Int)) else (if a0.toList = ([] : List UInt8) then (some (bt354.1.length : Int)) else (some (-1))))) = some r := h
 clear h
 replace H := Option.bind_eq_some_iff.mp H
 obtain ⟨⟨t354, t355⟩, A20, H⟩ := H
 replace H : (if t355 = 0 then (some (t354.length : Int)) else (if a0.toList = ([] : List UInt8) then (some (t354.length : Int)) else (some (-1)))) = some r := H
 have A2 := mk0 A20
 clear A20
 by_cases c3 : t355 = 0
 ·rw [if_pos c3] at H
  have c3b0 : (t355 == 0) = true := beq_iff_eq.mpr c3
  have c3b1 : (t355 != 0) = false := bne_eq_false_iff_eq.mpr c3
  clear c3
  obtain rfl := Option.some.inj H
  go_enter Tryz.func19, Tryz.ntmps19
  go_wp2_with (first | ((with_reducible refine gate_callee (f := 31) rfl ?_); refine goesL_ (some 7) rfl rfl Tryz.func31 (by kernel_rfl) rfl #[.string a0] rfl (by (try simp only [List.map_toArray, List.map_cons, List.map_nil]); first | done | rfl) ?_; (with_reducible refine (c_Parse.calls k a0 t354 t355 _ ?side1 A2.out).mono ?_); (case side1 => first | exact HG.out | exact GL.below HG.out (by repeat (with_reducible first | exact HB.out | apply b_a | apply b_n | apply b_d))); rintro e w4 ⟨v356, rfl, ho0, hb⟩; refine ⟨_, rfl, ?_⟩; have n0_ := mk0 (Kd.R_lower ho0 (below_size (by repeat (with_reducible first | exact HB.out | apply b_a | apply b_n | apply b_d)))); have n1_ := mk0 (below_step (by repeat (with_reducible first | exact HB.out | apply b_a | apply b_n | apply b_d)) hb); clear HB; have HO357 := n0_; have HB := n1_; clear n0_ n1_; (try clear hb); (try clear hb2); (try clear hk); (try clear hi); (try clear ho0); obtain ⟨Ao5, co5, eo5⟩ := Kd.R_slice HO357.out; subst eo5))
  go_ret
  exact ⟨by first | rfl | (simp [errW_none, errW_some] <;> rfl) | (simp [*, errW_none, errW_some] <;> rfl), by repeat (first | (with_reducible first | exact HB.out | apply b_a | apply b_n | apply b_d) | exact HB.out)⟩
 ·rw [if_neg c3] at H
  have c3b0 : (t355 == 0) = false := beq_eq_false_iff_ne.mpr c3
  have c3b1 : (t355 != 0) = true := bne_iff_ne.mpr c3
  by_cases c6 : a0.toList = ([] : List UInt8)
  ·rw [if_pos c6] at H
   have c6b0 : (a0.toList == ([] : List UInt8)) = true := beq_iff_eq.mpr c6
   have c6b1 : (a0.toList != ([] : List UInt8)) = false := bne_eq_false_iff_eq.mpr c6
   clear c6
   obtain rfl := Option.some.inj H
   go_enter Tryz.func19, Tryz.ntmps19
   go_wp2_with (first | ((with_reducible refine gate_callee (f := 31) rfl ?_); refine goesL_ (some 7) rfl rfl Tryz.func31 (by kernel_rfl) rfl #[.string a0] rfl (by (try simp only [List.map_toArray, List.map_cons, List.map_nil]); first | done | rfl) ?_; (with_reducible refine (c_Parse.calls k a0 t354 t355 _ ?side1 A2.out).mono ?_); (case side1 => first | exact HG.out | exact GL.below HG.out (by repeat (with_reducible first | exact HB.out | apply b_a | apply b_n | apply b_d))); rintro e w7 ⟨v356, rfl, ho0, hb⟩; refine ⟨_, rfl, ?_⟩; have n0_ := mk0 (Kd.R_lower ho0 (below_size (by repeat (with_reducible first | exact HB.out | apply b_a | apply b_n | apply b_d)))); have n1_ := mk0 (below_step (by repeat (with_reducible first | exact HB.out | apply b_a | apply b_n | apply b_d)) hb); clear HB; have HO357 := n0_; have HB := n1_; clear n0_ n1_; (try clear hb); (try clear hb2); (try clear hk); (try clear hi); (try clear ho0); obtain ⟨Ao8, co8, eo8⟩ := Kd.R_slice HO357.out; subst eo8))
   go_ret
   exact ⟨by first | rfl | (simp [errW_none, errW_some] <;> rfl) | (simp [*, errW_none, errW_some] <;> rfl), by repeat (first | (with_reducible first | exact HB.out | apply b_a | apply b_n | apply b_d) | exact HB.out)⟩
  ·rw [if_neg c6] at H
   have c6b0 : (a0.toList == ([] : List UInt8)) = false := beq_eq_false_iff_ne.mpr c6
   have c6b1 : (a0.toList != ([] : List UInt8)) = true := bne_iff_ne.mpr c6
   obtain rfl := Option.some.inj H
   go_enter Tryz.func19, Tryz.ntmps19
   go_wp2_with (first | ((with_reducible refine gate_callee (f := 31) rfl ?_); refine goesL_ (some 7) rfl rfl Tryz.func31 (by kernel_rfl) rfl #[.string a0] rfl (by (try simp only [List.map_toArray, List.map_cons, List.map_nil]); first | done | rfl) ?_; (with_reducible refine (c_Parse.calls k a0 t354 t355 _ ?side1 A2.out).mono ?_); (case side1 => first | exact HG.out | exact GL.below HG.out (by repeat (with_reducible first | exact HB.out | apply b_a | apply b_n | apply b_d))); rintro e w9 ⟨v356, rfl, ho0, hb⟩; refine ⟨_, rfl, ?_⟩; have n0_ := mk0 (Kd.R_lower ho0 (below_size (by repeat (with_reducible first | exact HB.out | apply b_a | apply b_n | apply b_d)))); have n1_ := mk0 (below_step (by repeat (with_reducible first | exact HB.out | apply b_a | apply b_n | apply b_d)) hb); clear HB; have HO357 := n0_; have HB := n1_; clear n0_ n1_; (try clear hb); (try clear hb2); (try clear hk); (try clear hi); (try clear ho0)))
   go_ret
   exact ⟨by first | rfl | (simp [errW_none, errW_some] <;> rfl) | (simp [*, errW_none, errW_some] <;> rfl), by repeat (first | (with_reducible first | exact HB.out | apply b_a | apply b_n | apply b_d) | exact HB.out)⟩

end Go.Proofs.YtpnoliognpmkmaaGreatDoor.P
