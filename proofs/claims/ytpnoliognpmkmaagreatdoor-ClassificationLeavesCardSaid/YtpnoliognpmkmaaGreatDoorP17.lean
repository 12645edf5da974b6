/- Lean functions with the same answers as the program's Go functions, and for each the proof that the call comes to these answers; written by a program of mine out of the translation, the functions marked 'by hand' by me. -/
import Derived.Test.YtpnoliognpmkmaaGreatDoorP0
import Derived.Test.YtpnoliognpmkmaaGreatDoorP9
import Derived.Test.YtpnoliognpmkmaaGreatDoorP11
namespace Go.Proofs.YtpnoliognpmkmaaGreatDoor.P
open Go.RowKit Go.Proofs.YtpnoliognpmkmaaGreatDoorW.PrintWords Go.Proofs.YtpnoliognpmkmaaGreatDoorW.PrintLast Go.Proofs.YtpnoliognpmkmaaGreatDoorW.PrintMore
attribute [local go_sem] max2_int min2_int max_two min_two max_three min_three max_four min_four   -- for this text's walks alone
set_option linter.unusedVariables false
set_option linter.unusedSimpArgs false

/-! ### w6_awake: function 12 -/
def w6_awake.f (k : Nat)  : Option (Bool) := (c_Parent.f k (⟨#[48, 49, 46, 49, 48]⟩ : ByteArray)).bind fun bt418 => (if bt418.2 = true then (if bt418.1.toList = ([48, 49] : List UInt8) then ((c_Level.f k (⟨#[48, 49, 46, 49, 46, 49, 50]⟩ : ByteArray)).bind fun t420 => (if t420 = 3 then ((c_Compare.f k (⟨#[48, 49, 46, 50]⟩ : ByteArray) (⟨#[48, 49, 46, 49, 48]⟩ : ByteArray)).bind fun t421 => (some (t421 == (-1)))) else (some false))) else (some false)) else (some false))
theorem w6_awake.mono : ∀ k, LeO (w6_awake.f k ) (w6_awake.f (k + 1) ) := by
 intro  k
 unfold w6_awake.f
 repeat' first
   | (with_reducible exact c_Compare.mono _ _ _)
   | (with_reducible exact c_Level.mono _ _)
   | (with_reducible exact c_Parent.mono _ _)
   | (with_reducible exact LeO.refl _)
   | (with_reducible exact LeO.none _)
   | (with_reducible refine LeO.ite ?_ ?_)
   | (with_reducible refine LeO.bind ?_ (fun _ => ?_))
set_option maxHeartbeats 8000000 in
set_option maxRecDepth 100000 in
theorem w6_awake.calls (k : Nat)  (r : Bool) (w : World) (hG : GL w) (h : w6_awake.f k  = some r) :
  Calls Tryz.prog 12 #[] w fun e w' => e = .returned (.bool r) ∧ Below w.heap.size w w' := by
 have HG := mk0 hG
 clear hG
 have HB := mk0 (Below.refl w.heap.size w)
 have H : ((c_Parent.f k (⟨#[48, 49, 46, 49, 48]⟩ : ByteArray)).bind fun bt418 => (if bt418.2 = true then (if bt418.1.toList = ([48, 49] : List UInt8) then ((c_Level.f k (⟨#[48, 49, 46, 49, 46, 49, 50]⟩ : ByteArray)).bind fun t420 => (if t420 = 3 then ((c_Compare.f k (⟨#[48, 49, 46, 50]⟩ : ByteArray) (⟨#[48, 49, 46, 49, 48]⟩ : ByteArray)).bind fun t421 => (some (t421 == (-1)))) else (some false))) else (some false)) else (some false))) = some r := h
 clear h
 replace H := Option.bind_eq_some_iff.mp H
 obtain ⟨⟨t418, t419⟩, A10, H⟩ := H
 replace H : (if t419 = true then (if t418.toList = ([48, 49] : List UInt8) then ((c_Level.f k (⟨#[48, 49, 46, 49, 46, 49, 50]⟩ : ByteArray)).bind fun t420 => (if t420 = 3 then ((c_Compare.f k (⟨#[48, 49, 46, 50]⟩ : ByteArray) (⟨#[48, 49, 46, 49, 48]⟩ : ByteArray)).bind fun t421 => (some (t421 == (-1)))) else (some false))) else (some false)) else (some false)) = some r := H
 have A1 := mk0 A10
 clear A10
 by_cases c2 : t419 = true
 ·subst c2
  have H1 : (if t418.toList = ([48, 49] : List UInt8) then ((c_Level.f k (⟨#[48, 49, 46, 49, 46, 49, 50]⟩ : ByteArray)).bind fun t420 => (if t420 = 3 then ((c_Compare.f k (⟨#[48, 49, 46, 50]⟩ : ByteArray) (⟨#[48, 49, 46, 49, 48]⟩ : ByteArray)).bind fun t421 => (some (t421 == (-1)))) else (some false))) else (some false)) = some r := by rw [if_pos rfl] at H; exact H
  clear H
  have H := H1
  clear H1
  by_cases c3 : t418.toList = ([48, 49] : List UInt8)
  ·rw [if_pos c3] at H
   have c3b0 : (t418.toList == ([48, 49] : List UInt8)) = true := beq_iff_eq.mpr c3
   have c3b1 : (t418.toList != ([48, 49] : List UInt8)) = false := bne_eq_false_iff_eq.mpr c3
   clear c3
   replace H := Option.bind_eq_some_iff.mp H
   obtain ⟨t420, A40, H⟩ := H
   replace H : (if t420 = 3 then ((c_Compare.f k (⟨#[48, 49, 46, 50]⟩ : ByteArray) (⟨#[48, 49, 46, 49, 48]⟩ : ByteArray)).bind fun t421 => (some (t421 == (-1)))) else (some false)) = some r := H
   have A4 := mk0 A40
   clear A40
   by_cases c5 : t420 = 3
   ·rw [if_pos c5] at H
    have c5b0 : (t420 == 3) = true := beq_iff_eq.mpr c5
    have c5b1 : (t420 != 3) = false := bne_eq_false_iff_eq.mpr c5
    clear c5
    replace H := Option.bind_eq_some_iff.mp H
    obtain ⟨t421, A60, H⟩ := H
    replace H : (some (t421 == (-1))) = some r := H
    have A6 := mk0 A60
    clear A60
    obtain rfl := Option.some.inj H
    go_enter Tryz.func12, Tryz.ntmps12
    go_wp2_with (first | ((with_reducible refine gate_callee (f := 22) rfl ?_); refine goesL_ (some 4) rfl rfl Tryz.func22 (by kernel_rfl) rfl #[.string (⟨#[48, 49, 46, 49, 48]⟩ : ByteArray)] rfl (by (try simp only [List.map_toArray, List.map_cons, List.map_nil]); first | done | rfl) ?_; (with_reducible refine (c_Parent.calls k (⟨#[48, 49, 46, 49, 48]⟩ : ByteArray) t418 true _ ?side1 A1.out).mono ?_); (case side1 => first | exact HG.out | exact GL.below HG.out (by repeat (with_reducible first | exact HB.out | apply b_a | apply b_n | apply b_d))); rintro e w7 ⟨rfl, hb⟩; refine ⟨_, rfl, ?_⟩; have n0_ := mk0 (below_step (by repeat (with_reducible first | exact HB.out | apply b_a | apply b_n | apply b_d)) hb); clear HB; have HB := n0_; clear n0_; (try clear hb)) | (go_at_call 19; (with_reducible refine (c_Level.calls k (⟨#[48, 49, 46, 49, 46, 49, 50]⟩ : ByteArray) t420 _ ?side1 A4.out).mono ?_); (case side1 => first | exact HG.out | exact GL.below HG.out (by repeat (with_reducible first | exact HB.out | apply b_a | apply b_n | apply b_d))); rintro e w8 ⟨rfl, hb⟩; have n0_ := mk0 (below_step (by repeat (with_reducible first | exact HB.out | apply b_a | apply b_n | apply b_d)) hb); clear HB; have HB := n0_; clear n0_; (try clear hb)) | (go_at_call 25; (with_reducible refine (c_Compare.calls k (⟨#[48, 49, 46, 50]⟩ : ByteArray) (⟨#[48, 49, 46, 49, 48]⟩ : ByteArray) t421 _ ?side1 A6.out).mono ?_); (case side1 => first | exact HG.out | exact GL.below HG.out (by repeat (with_reducible first | exact HB.out | apply b_a | apply b_n | apply b_d))); rintro e w9 ⟨rfl, hb⟩; have n0_ := mk0 (below_step (by repeat (with_reducible first | exact HB.out | apply b_a | apply b_n | apply b_d)) hb); clear HB; have HB := n0_; clear n0_; (try clear hb)))
    go_ret
    exact ⟨by first | rfl | (simp [errW_none, errW_some] <;> rfl) | (simp [*, errW_none, errW_some] <;> rfl), by repeat (first | (with_reducible first | exact HB.out | apply b_a | apply b_n | apply b_d) | exact HB.out)⟩
   ·rw [if_neg c5] at H
    have c5b0 : (t420 == 3) = false := beq_eq_false_iff_ne.mpr c5
    have c5b1 : (t420 != 3) = true := bne_iff_ne.mpr c5
    obtain rfl := Option.some.inj H
    go_enter Tryz.func12, Tryz.ntmps12
    go_wp2_with (first | ((with_reducible refine gate_callee (f := 22) rfl ?_); refine goesL_ (some 4) rfl rfl Tryz.func22 (by kernel_rfl) rfl #[.string (⟨#[48, 49, 46, 49, 48]⟩ : ByteArray)] rfl (by (try simp only [List.map_toArray, List.map_cons, List.map_nil]); first | done | rfl) ?_; (with_reducible refine (c_Parent.calls k (⟨#[48, 49, 46, 49, 48]⟩ : ByteArray) t418 true _ ?side1 A1.out).mono ?_); (case side1 => first | exact HG.out | exact GL.below HG.out (by repeat (with_reducible first | exact HB.out | apply b_a | apply b_n | apply b_d))); rintro e w10 ⟨rfl, hb⟩; refine ⟨_, rfl, ?_⟩; have n0_ := mk0 (below_step (by repeat (with_reducible first | exact HB.out | apply b_a | apply b_n | apply b_d)) hb); clear HB; have HB := n0_; clear n0_; (try clear hb)) | (go_at_call 19; (with_reducible refine (c_Level.calls k (⟨#[48, 49, 46, 49, 46, 49, 50]⟩ : ByteArray) t420 _ ?side1 A4.out).mono ?_); (case side1 => first | exact HG.out | exact GL.below HG.out (by repeat (with_reducible first | exact HB.out | apply b_a | apply b_n | apply b_d))); rintro e w11 ⟨rfl, hb⟩; have n0_ := mk0 (below_step (by repeat (with_reducible first | exact HB.out | apply b_a | apply b_n | apply b_d)) hb); clear HB; have HB := n0_; clear n0_; (try clear hb)))
    go_ret
    exact ⟨by first | rfl | (simp [errW_none, errW_some] <;> rfl) | (simp [*, errW_none, errW_some] <;> rfl), by repeat (first | (with_reducible first | exact HB.out | apply b_a | apply b_n | apply b_d) | exact HB.out)⟩
  ·rw [if_neg c3] at H
   have c3b0 : (t418.toList == ([48, 49] : List UInt8)) = false := beq_eq_false_iff_ne.mpr c3
   have c3b1 : (t418.toList != ([48, 49] : List UInt8)) = true := bne_iff_ne.mpr c3
   obtain rfl := Option.some.inj H
   go_enter Tryz.func12, Tryz.ntmps12
   go_wp2_with (first | ((with_reducible refine gate_callee (f := 22) rfl ?_); refine goesL_ (some 4) rfl rfl Tryz.func22 (by kernel_rfl) rfl #[.string (⟨#[48, 49, 46, 49, 48]⟩ : ByteArray)] rfl (by (try simp only [List.map_toArray, List.map_cons, List.map_nil]); first | done | rfl) ?_; (with_reducible refine (c_Parent.calls k (⟨#[48, 49, 46, 49, 48]⟩ : ByteArray) t418 true _ ?side1 A1.out).mono ?_); (case side1 => first | exact HG.out | exact GL.below HG.out (by repeat (with_reducible first | exact HB.out | apply b_a | apply b_n | apply b_d))); rintro e w12 ⟨rfl, hb⟩; refine ⟨_, rfl, ?_⟩; have n0_ := mk0 (below_step (by repeat (with_reducible first | exact HB.out | apply b_a | apply b_n | apply b_d)) hb); clear HB; have HB := n0_; clear n0_; (try clear hb)))
   go_ret
   exact ⟨by first | rfl | (simp [errW_none, errW_some] <;> rfl) | (simp [*, errW_none, errW_some] <;> rfl), by repeat (first | (with_reducible first | exact HB.out | apply b_a | apply b_n | apply b_d) | exact HB.out)⟩
 ·replace c2 := Bool.eq_false_iff.mpr c2
  subst c2
  have H1 : (some false) = some r := by rw [if_neg (show ¬ (false = true) by decide)] at H; exact H
  clear H
  have H := H1
  clear H1
  obtain rfl := Option.some.inj H
  go_enter Tryz.func12, Tryz.ntmps12
  go_wp2_with (first | ((with_reducible refine gate_callee (f := 22) rfl ?_); refine goesL_ (some 4) rfl rfl Tryz.func22 (by kernel_rfl) rfl #[.string (⟨#[48, 49, 46, 49, 48]⟩ : ByteArray)] rfl (by (try simp only [List.map_toArray, List.map_cons, List.map_nil]); first | done | rfl) ?_; (with_reducible refine (c_Parent.calls k (⟨#[48, 49, 46, 49, 48]⟩ : ByteArray) t418 false _ ?side1 A1.out).mono ?_); (case side1 => first | exact HG.out | exact GL.below HG.out (by repeat (with_reducible first | exact HB.out | apply b_a | apply b_n | apply b_d))); rintro e w13 ⟨rfl, hb⟩; refine ⟨_, rfl, ?_⟩; have n0_ := mk0 (below_step (by repeat (with_reducible first | exact HB.out | apply b_a | apply b_n | apply b_d)) hb); clear HB; have HB := n0_; clear n0_; (try clear hb)))
  go_ret
  exact ⟨by first | rfl | (simp [errW_none, errW_some] <;> rfl) | (simp [*, errW_none, errW_some] <;> rfl), by repeat (first | (with_reducible first | exact HB.out | apply b_a | apply b_n | apply b_d) | exact HB.out)⟩

end Go.Proofs.YtpnoliognpmkmaaGreatDoor.P
