/- Lean functions with the same answers as the program's Go functions, and for each the proof that the call comes to these answers; written by a program of mine out of the translation, the functions marked 'by hand' by me. -/
import Derived.Test.YtpnoliognpmkmaaDoorP0
import Derived.Test.YtpnoliognpmkmaaDoorP2
namespace Go.Proofs.YtpnoliognpmkmaaDoor.P
open Go.RowKit Go.Proofs.YtpnoliognpmkmaaDoorW.PrintWords Go.Proofs.YtpnoliognpmkmaaDoorW.PrintLast Go.Proofs.YtpnoliognpmkmaaDoorW.PrintMore
attribute [local go_sem] max2_int min2_int max_two min_two max_three min_three max_four min_four   -- for this text's walks alone
set_option linter.unusedVariables false
set_option linter.unusedSimpArgs false

/-! ### priceofficelaw06_awake: function 17 -/
def priceofficelaw06_awake.f (k : Nat)  : Option (Bool) := (classification_Parent.f k (⟨#[48, 49, 46, 49, 48]⟩ : ByteArray)).bind fun bt158 => (if bt158.2 = true then (if bt158.1.toList = ([48, 49] : List UInt8) then ((classification_Level.f k (⟨#[48, 49, 46, 49, 46, 49, 50]⟩ : ByteArray)).bind fun t160 => (if t160 = 3 then ((classification_Compare.f k (⟨#[48, 49, 46, 50]⟩ : ByteArray) (⟨#[48, 49, 46, 49, 48]⟩ : ByteArray)).bind fun t161 => (some (t161 == (-1)))) else (some false))) else (some false)) else (some false))
theorem priceofficelaw06_awake.mono : ∀ k, LeO (priceofficelaw06_awake.f k ) (priceofficelaw06_awake.f (k + 1) ) := by
 intro  k
 unfold priceofficelaw06_awake.f
 repeat' first
   | (with_reducible exact classification_Compare.mono _ _ _)
   | (with_reducible exact classification_Level.mono _ _)
   | (with_reducible exact classification_Parent.mono _ _)
   | (with_reducible exact LeO.refl _)
   | (with_reducible exact LeO.none _)
   | (with_reducible refine LeO.ite ?_ ?_)
   | (with_reducible refine LeO.bind ?_ (fun _ => ?_))
   | exact classification_Compare.mono _ _ _
   | exact classification_Level.mono _ _
   | exact classification_Parent.mono _ _
   | exact LeO.none _
   | refine LeO.ite ?_ ?_
   | refine LeO.bind ?_ (fun _ => ?_)
set_option maxHeartbeats 8000000 in
set_option maxRecDepth 100000 in
theorem priceofficelaw06_awake.calls (k : Nat)  (r : Bool) (w : World) (hG : GL w) (h : priceofficelaw06_awake.f k  = some r) :
  Calls Tryd.prog 17 #[] w fun e w' => e = .returned (.bool r) ∧ Below w.heap.size w w' := by
 have HG := mk0 hG
 clear hG
 have HB := mk0 (Below.refl w.heap.size w)
 have H : ((classification_Parent.f k (⟨#[48, 49, 46, 49, 48]⟩ : ByteArray)).bind fun bt158 => (if bt158.2 = true then (if bt158.1.toList = ([48, 49] : List UInt8) then ((classification_Level.f k (⟨#[48, 49, 46, 49, 46, 49, 50]⟩ : ByteArray)).bind fun t160 => (if t160 = 3 then ((classification_Compare.f k (⟨#[48, 49, 46, 50]⟩ : ByteArray) (⟨#[48, 49, 46, 49, 48]⟩ : ByteArray)).bind fun t161 => (some (t161 == (-1)))) else (some false))) else (some false)) else (some false))) = some r := h
 clear h
 replace H := Option.bind_eq_some_iff.mp H
 obtain ⟨⟨t158, t159⟩, A10, H⟩ := H
 replace H : (if t159 = true then (if t158.toList = ([48, 49] : List UInt8) then ((classification_Level.f k (⟨#[48, 49, 46, 49, 46, 49, 50]⟩ : ByteArray)).bind fun t160 => (if t160 = 3 then ((classification_Compare.f k (⟨#[48, 49, 46, 50]⟩ : ByteArray) (⟨#[48, 49, 46, 49, 48]⟩ : ByteArray)).bind fun t161 => (some (t161 == (-1)))) else (some false))) else (some false)) else (some false)) = some r := H
 have A1 := mk0 A10
 clear A10
 by_cases c2 : t159 = true
 ·subst c2
  have H1 : (if t158.toList = ([48, 49] : List UInt8) then ((classification_Level.f k (⟨#[48, 49, 46, 49, 46, 49, 50]⟩ : ByteArray)).bind fun t160 => (if t160 = 3 then ((classification_Compare.f k (⟨#[48, 49, 46, 50]⟩ : ByteArray) (⟨#[48, 49, 46, 49, 48]⟩ : ByteArray)).bind fun t161 => (some (t161 == (-1)))) else (some false))) else (some false)) = some r := by rw [if_pos rfl] at H; exact H
  clear H
  have H := H1
  clear H1
  by_cases c3 : t158.toList = ([48, 49] : List UInt8)
  ·rw [if_pos c3] at H
   have c3b0 : (t158.toList == ([48, 49] : List UInt8)) = true := beq_iff_eq.mpr c3
   have c3b1 : (t158.toList != ([48, 49] : List UInt8)) = false := bne_eq_false_iff_eq.mpr c3
   clear c3
   replace H := Option.bind_eq_some_iff.mp H
   obtain ⟨t160, A40, H⟩ := H
   replace H : (if t160 = 3 then ((classification_Compare.f k (⟨#[48, 49, 46, 50]⟩ : ByteArray) (⟨#[48, 49, 46, 49, 48]⟩ : ByteArray)).bind fun t161 => (some (t161 == (-1)))) else (some false)) = some r := H
   have A4 := mk0 A40
   clear A40
   by_cases c5 : t160 = 3
   ·rw [if_pos c5] at H
    have c5b0 : (t160 == 3) = true := beq_iff_eq.mpr c5
    have c5b1 : (t160 != 3) = false := bne_eq_false_iff_eq.mpr c5
    clear c5
    replace H := Option.bind_eq_some_iff.mp H
    obtain ⟨t161, A60, H⟩ := H
    replace H : (some (t161 == (-1))) = some r := H
    have A6 := mk0 A60
    clear A60
    obtain rfl := Option.some.inj H
    go_enter Tryd.func17, Tryd.ntmps17
    go_wp2_with (first | ((with_reducible refine gate_callee (f := 33) rfl ?_); refine goesL_ (some 4) rfl rfl Tryd.func33 (by kernel_rfl) rfl #[.string (⟨#[48, 49, 46, 49, 48]⟩ : ByteArray)] rfl (by (try simp only [List.map_toArray, List.map_cons, List.map_nil]); first | done | rfl | (simp only [List.length_drop, List.length_take]; rfl)) ?_; (with_reducible refine (classification_Parent.calls k (⟨#[48, 49, 46, 49, 48]⟩ : ByteArray) t158 true _ ?side1 A1.out).mono ?_); (case side1 => first | exact HG.out | exact GL.below HG.out (by repeat (first | (with_reducible first | exact HB.out | apply b_a | apply b_n | apply b_d) | exact HB.out))); rintro e w7 ⟨rfl, hb⟩; refine ⟨_, rfl, ?_⟩; have n0_ := mk0 (below_step (by repeat (first | (with_reducible first | exact HB.out | apply b_a | apply b_n | apply b_d) | exact HB.out)) hb); clear HB; have HB := n0_; clear n0_; (try clear hb); (try clear hb2); (try clear hk); (try clear hi)) | (go_at_call 32; (with_reducible refine (classification_Level.calls k (⟨#[48, 49, 46, 49, 46, 49, 50]⟩ : ByteArray) t160 _ ?side1 A4.out).mono ?_); (case side1 => first | exact HG.out | exact GL.below HG.out (by repeat (first | (with_reducible first | exact HB.out | apply b_a | apply b_n | apply b_d) | exact HB.out))); rintro e w8 ⟨rfl, hb⟩; have n0_ := mk0 (below_step (by repeat (first | (with_reducible first | exact HB.out | apply b_a | apply b_n | apply b_d) | exact HB.out)) hb); clear HB; have HB := n0_; clear n0_; (try clear hb); (try clear hb2); (try clear hk); (try clear hi)) | (go_at_call 30; (with_reducible refine (classification_Compare.calls k (⟨#[48, 49, 46, 50]⟩ : ByteArray) (⟨#[48, 49, 46, 49, 48]⟩ : ByteArray) t161 _ ?side1 A6.out).mono ?_); (case side1 => first | exact HG.out | exact GL.below HG.out (by repeat (first | (with_reducible first | exact HB.out | apply b_a | apply b_n | apply b_d) | exact HB.out))); rintro e w9 ⟨rfl, hb⟩; have n0_ := mk0 (below_step (by repeat (first | (with_reducible first | exact HB.out | apply b_a | apply b_n | apply b_d) | exact HB.out)) hb); clear HB; have HB := n0_; clear n0_; (try clear hb); (try clear hb2); (try clear hk); (try clear hi)))
    go_ret
    exact ⟨by first | rfl | (simp [errW_none, errW_some] <;> rfl) | (simp [*, errW_none, errW_some] <;> rfl), by repeat (first | (with_reducible first | exact HB.out | apply b_a | apply b_n | apply b_d) | exact HB.out)⟩
   ·rw [if_neg c5] at H
    have c5b0 : (t160 == 3) = false := beq_eq_false_iff_ne.mpr c5
    have c5b1 : (t160 != 3) = true := bne_iff_ne.mpr c5
    obtain rfl := Option.some.inj H
    go_enter Tryd.func17, Tryd.ntmps17
    go_wp2_with (first | ((with_reducible refine gate_callee (f := 33) rfl ?_); refine goesL_ (some 4) rfl rfl Tryd.func33 (by kernel_rfl) rfl #[.string (⟨#[48, 49, 46, 49, 48]⟩ : ByteArray)] rfl (by (try simp only [List.map_toArray, List.map_cons, List.map_nil]); first | done | rfl | (simp only [List.length_drop, List.length_take]; rfl)) ?_; (with_reducible refine (classification_Parent.calls k (⟨#[48, 49, 46, 49, 48]⟩ : ByteArray) t158 true _ ?side1 A1.out).mono ?_); (case side1 => first | exact HG.out | exact GL.below HG.out (by repeat (first | (with_reducible first | exact HB.out | apply b_a | apply b_n | apply b_d) | exact HB.out))); rintro e w10 ⟨rfl, hb⟩; refine ⟨_, rfl, ?_⟩; have n0_ := mk0 (below_step (by repeat (first | (with_reducible first | exact HB.out | apply b_a | apply b_n | apply b_d) | exact HB.out)) hb); clear HB; have HB := n0_; clear n0_; (try clear hb); (try clear hb2); (try clear hk); (try clear hi)) | (go_at_call 32; (with_reducible refine (classification_Level.calls k (⟨#[48, 49, 46, 49, 46, 49, 50]⟩ : ByteArray) t160 _ ?side1 A4.out).mono ?_); (case side1 => first | exact HG.out | exact GL.below HG.out (by repeat (first | (with_reducible first | exact HB.out | apply b_a | apply b_n | apply b_d) | exact HB.out))); rintro e w11 ⟨rfl, hb⟩; have n0_ := mk0 (below_step (by repeat (first | (with_reducible first | exact HB.out | apply b_a | apply b_n | apply b_d) | exact HB.out)) hb); clear HB; have HB := n0_; clear n0_; (try clear hb); (try clear hb2); (try clear hk); (try clear hi)))
    go_ret
    exact ⟨by first | rfl | (simp [errW_none, errW_some] <;> rfl) | (simp [*, errW_none, errW_some] <;> rfl), by repeat (first | (with_reducible first | exact HB.out | apply b_a | apply b_n | apply b_d) | exact HB.out)⟩
  ·rw [if_neg c3] at H
   have c3b0 : (t158.toList == ([48, 49] : List UInt8)) = false := beq_eq_false_iff_ne.mpr c3
   have c3b1 : (t158.toList != ([48, 49] : List UInt8)) = true := bne_iff_ne.mpr c3
   obtain rfl := Option.some.inj H
   go_enter Tryd.func17, Tryd.ntmps17
   go_wp2_with (first | ((with_reducible refine gate_callee (f := 33) rfl ?_); refine goesL_ (some 4) rfl rfl Tryd.func33 (by kernel_rfl) rfl #[.string (⟨#[48, 49, 46, 49, 48]⟩ : ByteArray)] rfl (by (try simp only [List.map_toArray, List.map_cons, List.map_nil]); first | done | rfl | (simp only [List.length_drop, List.length_take]; rfl)) ?_; (with_reducible refine (classification_Parent.calls k (⟨#[48, 49, 46, 49, 48]⟩ : ByteArray) t158 true _ ?side1 A1.out).mono ?_); (case side1 => first | exact HG.out | exact GL.below HG.out (by repeat (first | (with_reducible first | exact HB.out | apply b_a | apply b_n | apply b_d) | exact HB.out))); rintro e w12 ⟨rfl, hb⟩; refine ⟨_, rfl, ?_⟩; have n0_ := mk0 (below_step (by repeat (first | (with_reducible first | exact HB.out | apply b_a | apply b_n | apply b_d) | exact HB.out)) hb); clear HB; have HB := n0_; clear n0_; (try clear hb); (try clear hb2); (try clear hk); (try clear hi)))
   go_ret
   exact ⟨by first | rfl | (simp [errW_none, errW_some] <;> rfl) | (simp [*, errW_none, errW_some] <;> rfl), by repeat (first | (with_reducible first | exact HB.out | apply b_a | apply b_n | apply b_d) | exact HB.out)⟩
 ·replace c2 := Bool.eq_false_iff.mpr c2
  subst c2
  have H1 : (some false) = some r := by rw [if_neg (show ¬ (false = true) by decide)] at H; exact H
  clear H
  have H := H1
  clear H1
  obtain rfl := Option.some.inj H
  go_enter Tryd.func17, Tryd.ntmps17
  go_wp2_with (first | ((with_reducible refine gate_callee (f := 33) rfl ?_); refine goesL_ (some 4) rfl rfl Tryd.func33 (by kernel_rfl) rfl #[.string (⟨#[48, 49, 46, 49, 48]⟩ : ByteArray)] rfl (by (try simp only [List.map_toArray, List.map_cons, List.map_nil]); first | done | rfl | (simp only [List.length_drop, List.length_take]; rfl)) ?_; (with_reducible refine (classification_Parent.calls k (⟨#[48, 49, 46, 49, 48]⟩ : ByteArray) t158 false _ ?side1 A1.out).mono ?_); (case side1 => first | exact HG.out | exact GL.below HG.out (by repeat (first | (with_reducible first | exact HB.out | apply b_a | apply b_n | apply b_d) | exact HB.out))); rintro e w13 ⟨rfl, hb⟩; refine ⟨_, rfl, ?_⟩; have n0_ := mk0 (below_step (by repeat (first | (with_reducible first | exact HB.out | apply b_a | apply b_n | apply b_d) | exact HB.out)) hb); clear HB; have HB := n0_; clear n0_; (try clear hb); (try clear hb2); (try clear hk); (try clear hi)))
  go_ret
  exact ⟨by first | rfl | (simp [errW_none, errW_some] <;> rfl) | (simp [*, errW_none, errW_some] <;> rfl), by repeat (first | (with_reducible first | exact HB.out | apply b_a | apply b_n | apply b_d) | exact HB.out)⟩

end Go.Proofs.YtpnoliognpmkmaaDoor.P
