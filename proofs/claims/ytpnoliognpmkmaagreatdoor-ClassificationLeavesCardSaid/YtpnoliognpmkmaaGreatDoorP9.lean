/- Lean functions with the same answers as the program's Go functions, and for each the proof that the call comes to these answers; written by a program of mine out of the translation, the functions marked 'by hand' by me. -/
import Derived.Test.YtpnoliognpmkmaaGreatDoorP0
import Derived.Test.YtpnoliognpmkmaaGreatDoorP8
namespace Go.Proofs.YtpnoliognpmkmaaGreatDoor.P
open Go.RowKit Go.Proofs.YtpnoliognpmkmaaGreatDoorW.PrintWords Go.Proofs.YtpnoliognpmkmaaGreatDoorW.PrintLast Go.Proofs.YtpnoliognpmkmaaGreatDoorW.PrintMore
attribute [local go_sem] max2_int min2_int max_two min_two max_three min_three max_four min_four   -- for this text's walks alone
set_option linter.unusedVariables false
set_option linter.unusedSimpArgs false

/-! ### c_Parent: function 22 -/
def c_Parent.f (k : Nat) (a0 : ByteArray) : Option (ByteArray × Bool) := (c_is.f k a0).bind fun t298 => (if t298 = true then ((strings_LastIndex.f a0 (⟨#[46]⟩ : ByteArray)).bind fun t299 => (if 0 ≤ (mx t299 0) then (if (mx t299 0) ≤ (a0.size : Int) then (some (a0.extract 0 ((mx t299 0) : Int).toNat, true)) else (none)) else (none))) else (some ((⟨#[]⟩ : ByteArray), false)))
theorem c_Parent.mono : ∀ a0 k, LeO (c_Parent.f k a0) (c_Parent.f (k + 1) a0) := by
 intro a0 k
 unfold c_Parent.f
 repeat' first
   | (with_reducible exact c_is.mono _ _)
   | (with_reducible exact LeO.refl _)
   | (with_reducible exact LeO.none _)
   | (with_reducible refine LeO.ite ?_ ?_)
   | (with_reducible refine LeO.bind ?_ (fun _ => ?_))
set_option maxHeartbeats 8000000 in
set_option maxRecDepth 100000 in
theorem c_Parent.calls (k : Nat) (a0 : ByteArray) (r1 : ByteArray) (r2 : Bool) (w : World) (hG : GL w) (h : c_Parent.f k a0 = some (r1, r2)) :
  Calls Tryz.prog 22 #[.string a0] w fun e w' => e = .returned (.tuple #[.string r1, .bool r2]) ∧ Below w.heap.size w w' := by
 have HG := mk0 hG
 clear hG
 have HB := mk0 (Below.refl w.heap.size w)
 have H : ((c_is.f k a0).bind fun t298 => (if t298 = true then ((strings_LastIndex.f a0 (⟨#[46]⟩ : ByteArray)).bind fun t299 => (if 0 ≤ (mx t299 0) then (if (mx t299 0) ≤ (a0.size : Int) then (some (a0.extract 0 ((mx t299 0) : Int).toNat, true)) else (none)) else (none))) else (some ((⟨#[]⟩ : ByteArray), false)))) = some (r1, r2) := h
 clear h
 replace H := Option.bind_eq_some_iff.mp H
 obtain ⟨t298, A20, H⟩ := H
 replace H : (if t298 = true then ((strings_LastIndex.f a0 (⟨#[46]⟩ : ByteArray)).bind fun t299 => (if 0 ≤ (mx t299 0) then (if (mx t299 0) ≤ (a0.size : Int) then (some (a0.extract 0 ((mx t299 0) : Int).toNat, true)) else (none)) else (none))) else (some ((⟨#[]⟩ : ByteArray), false))) = some (r1, r2) := H
 have A2 := mk0 A20
 clear A20
 by_cases c3 : t298 = true
 ·subst c3
  have H1 : ((strings_LastIndex.f a0 (⟨#[46]⟩ : ByteArray)).bind fun t299 => (if 0 ≤ (mx t299 0) then (if (mx t299 0) ≤ (a0.size : Int) then (some (a0.extract 0 ((mx t299 0) : Int).toNat, true)) else (none)) else (none))) = some (r1, r2) := by rw [if_pos rfl] at H; exact H
  clear H
  have H := H1
  clear H1
  replace H := Option.bind_eq_some_iff.mp H
  obtain ⟨t299, A40, H⟩ := H
  replace H : (if 0 ≤ (mx t299 0) then (if (mx t299 0) ≤ (a0.size : Int) then (some (a0.extract 0 ((mx t299 0) : Int).toNat, true)) else (none)) else (none)) = some (r1, r2) := H
  have A4 := mk0 A40
  clear A40
  obtain ⟨ji5, hji5⟩ : ∃ j_ : Int, (mx t299 0) = j_ := ⟨_, rfl⟩
  replace H : (if 0 ≤ (ji5) then (if (ji5) ≤ (a0.size : Int) then (some (a0.extract 0 ((ji5) : Int).toNat, true)) else (none)) else (none)) = some (r1, r2) := by first | (rw [hji5] at H; exact H) | (simp only [hji5] at H ⊢; exact H)
  (try rw [hji5] at A2)
  (try rw [hji5] at A4)
  (try (have hji5l : 0 ≤ ji5 := by (rw [← hji5]; unfold mx; (repeat' split) <;> omega)))
  (try (have hji5m : 0 ≤ ji5 := by omega))
  have hji5_ : (if t299 < 0 then 0 else t299) = ji5 := hji5
  by_cases c6 : 0 ≤ (ji5)
  ·rw [if_pos c6] at H
   have c6b0 := eq_true c6
   have c6b1 : decide (0 ≤ (ji5)) = true := decide_eq_true c6
   clear c6
   by_cases c7 : (ji5) ≤ (a0.size : Int)
   ·rw [if_pos c7] at H
    have c7b0 := eq_true c7
    have c7b1 : decide ((ji5) ≤ (a0.size : Int)) = true := decide_eq_true c7
    clear c7
    simp only [Option.some.injEq, Prod.mk.injEq] at H
    obtain ⟨rfl, rfl⟩ := H
    go_enter Tryz.func22, Tryz.ntmps22
    go_wp2_with (first | ((with_reducible refine gate_callee (f := 29) rfl ?_); refine goesL_ (some 5) rfl rfl Tryz.func29 (by kernel_rfl) rfl #[.string a0] rfl (by (try simp only [List.map_toArray, List.map_cons, List.map_nil]); first | done | rfl) ?_; (with_reducible refine (c_is.calls k a0 true _ ?side1 A2.out).mono ?_); (case side1 => first | exact HG.out | exact GL.below HG.out (by repeat (with_reducible first | exact HB.out | apply b_a | apply b_n | apply b_d))); rintro e w8 ⟨rfl, hb⟩; refine ⟨_, rfl, ?_⟩; have n0_ := mk0 (below_step (by repeat (with_reducible first | exact HB.out | apply b_a | apply b_n | apply b_d)) hb); clear HB; have HB := n0_; clear n0_; (try clear hb)) | ((with_reducible refine gate_callee (f := 35) rfl ?_); refine goesL_ (some 9) rfl rfl Tryz.func35 (by kernel_rfl) rfl #[.string a0, .string (⟨#[46]⟩ : ByteArray)] rfl (by (try simp only [List.map_toArray, List.map_cons, List.map_nil]); first | done | rfl) ?_; (with_reducible refine (strings_LastIndex.calls a0 (⟨#[46]⟩ : ByteArray) t299 _ A4.out).mono ?_); rintro e w9 ⟨rfl, hb⟩; refine ⟨_, rfl, ?_⟩; have n0_ := mk0 (below_step (by repeat (with_reducible first | exact HB.out | apply b_a | apply b_n | apply b_d)) hb); clear HB; have HB := n0_; clear n0_; (try clear hb)))
    go_ret2
    exact ⟨by first | rfl | (simp [errW_none, errW_some] <;> rfl) | (simp only [← hji5]; first | rfl | (simp [errW_none, errW_some] <;> rfl)) | (simp [*, errW_none, errW_some] <;> rfl), by repeat (first | (with_reducible first | exact HB.out | apply b_a | apply b_n | apply b_d) | exact HB.out)⟩
   ·rw [if_neg c7] at H
    exact absurd H (by simp)
  ·rw [if_neg c6] at H
   exact absurd H (by simp)
 ·replace c3 := Bool.eq_false_iff.mpr c3
  subst c3
  have H1 : (some ((⟨#[]⟩ : ByteArray), false)) = some (r1, r2) := by rw [if_neg (show ¬ (false = true) by decide)] at H; exact H
  clear H
  have H := H1
  clear H1
  simp only [Option.some.injEq, Prod.mk.injEq] at H
  obtain ⟨rfl, rfl⟩ := H
  go_enter Tryz.func22, Tryz.ntmps22
  go_wp2_with (first | ((with_reducible refine gate_callee (f := 29) rfl ?_); refine goesL_ (some 5) rfl rfl Tryz.func29 (by kernel_rfl) rfl #[.string a0] rfl (by (try simp only [List.map_toArray, List.map_cons, List.map_nil]); first | done | rfl) ?_; (with_reducible refine (c_is.calls k a0 false _ ?side1 A2.out).mono ?_); (case side1 => first | exact HG.out | exact GL.below HG.out (by repeat (with_reducible first | exact HB.out | apply b_a | apply b_n | apply b_d))); rintro e w10 ⟨rfl, hb⟩; refine ⟨_, rfl, ?_⟩; have n0_ := mk0 (below_step (by repeat (with_reducible first | exact HB.out | apply b_a | apply b_n | apply b_d)) hb); clear HB; have HB := n0_; clear n0_; (try clear hb)))
  go_ret2
  exact ⟨by first | rfl | (simp [errW_none, errW_some] <;> rfl) | (simp [*, errW_none, errW_some] <;> rfl), by repeat (first | (with_reducible first | exact HB.out | apply b_a | apply b_n | apply b_d) | exact HB.out)⟩

/-! ### c_class: function 38 -/
def c_class.f (k : Nat) (a0 : ByteArray) : Option (Int) := if a0.toList = ([] : List UInt8) then (some 0) else ((c_is.f k a0).bind fun t300 => (if t300 = true then (some 1) else (some 2)))
theorem c_class.mono : ∀ a0 k, LeO (c_class.f k a0) (c_class.f (k + 1) a0) := by
 intro a0 k
 unfold c_class.f
 repeat' first
   | (with_reducible exact c_is.mono _ _)
   | (with_reducible exact LeO.refl _)
   | (with_reducible exact LeO.none _)
   | (with_reducible refine LeO.ite ?_ ?_)
   | (with_reducible refine LeO.bind ?_ (fun _ => ?_))
set_option maxHeartbeats 8000000 in
set_option maxRecDepth 100000 in
theorem c_class.calls (k : Nat) (a0 : ByteArray) (r : Int) (w : World) (hG : GL w) (h : c_class.f k a0 = some r) :
  Calls Tryz.prog 38 #[.string a0] w fun e w' => e = .returned (.int .i64 r) ∧ Below w.heap.size w w' := by
 have HG := mk0 hG
 clear hG
 have HB := mk0 (Below.refl w.heap.size w)
 have H : (if a0.toList = ([] : List UInt8) then (some 0) else ((c_is.f k a0).bind fun t300 => (if t300 = true then (some 1) else (some 2)))) = some r := h
 clear h
 by_cases c2 : a0.toList = ([] : List UInt8)
 ·rw [if_pos c2] at H
  have c2b0 : (a0.toList == ([] : List UInt8)) = true := beq_iff_eq.mpr c2
  have c2b1 : (a0.toList != ([] : List UInt8)) = false := bne_eq_false_iff_eq.mpr c2
  clear c2
  obtain rfl := Option.some.inj H
  go_enter Tryz.func38, Tryz.ntmps38
  go_wp2
  go_ret
  exact ⟨by first | rfl | (simp [errW_none, errW_some] <;> rfl) | (simp [*, errW_none, errW_some] <;> rfl), by repeat (first | (with_reducible first | exact HB.out | apply b_a | apply b_n | apply b_d) | exact HB.out)⟩
 ·rw [if_neg c2] at H
  have c2b0 : (a0.toList == ([] : List UInt8)) = false := beq_eq_false_iff_ne.mpr c2
  have c2b1 : (a0.toList != ([] : List UInt8)) = true := bne_iff_ne.mpr c2
  replace H := Option.bind_eq_some_iff.mp H
  obtain ⟨t300, A30, H⟩ := H
  replace H : (if t300 = true then (some 1) else (some 2)) = some r := H
  have A3 := mk0 A30
  clear A30
  by_cases c4 : t300 = true
  ·subst c4
   have H1 : (some 1) = some r := by rw [if_pos rfl] at H; exact H
   clear H
   have H := H1
   clear H1
   obtain rfl := Option.some.inj H
   go_enter Tryz.func38, Tryz.ntmps38
   go_wp2_with (first | ((with_reducible refine gate_callee (f := 29) rfl ?_); refine goesL_ (some 8) rfl rfl Tryz.func29 (by kernel_rfl) rfl #[.string a0] rfl (by (try simp only [List.map_toArray, List.map_cons, List.map_nil]); first | done | rfl) ?_; (with_reducible refine (c_is.calls k a0 true _ ?side1 A3.out).mono ?_); (case side1 => first | exact HG.out | exact GL.below HG.out (by repeat (with_reducible first | exact HB.out | apply b_a | apply b_n | apply b_d))); rintro e w5 ⟨rfl, hb⟩; refine ⟨_, rfl, ?_⟩; have n0_ := mk0 (below_step (by repeat (with_reducible first | exact HB.out | apply b_a | apply b_n | apply b_d)) hb); clear HB; have HB := n0_; clear n0_; (try clear hb)))
   go_ret
   exact ⟨by first | rfl | (simp [errW_none, errW_some] <;> rfl) | (simp [*, errW_none, errW_some] <;> rfl), by repeat (first | (with_reducible first | exact HB.out | apply b_a | apply b_n | apply b_d) | exact HB.out)⟩
  ·replace c4 := Bool.eq_false_iff.mpr c4
   subst c4
   have H1 : (some 2) = some r := by rw [if_neg (show ¬ (false = true) by decide)] at H; exact H
   clear H
   have H := H1
   clear H1
   obtain rfl := Option.some.inj H
   go_enter Tryz.func38, Tryz.ntmps38
   go_wp2_with (first | ((with_reducible refine gate_callee (f := 29) rfl ?_); refine goesL_ (some 8) rfl rfl Tryz.func29 (by kernel_rfl) rfl #[.string a0] rfl (by (try simp only [List.map_toArray, List.map_cons, List.map_nil]); first | done | rfl) ?_; (with_reducible refine (c_is.calls k a0 false _ ?side1 A3.out).mono ?_); (case side1 => first | exact HG.out | exact GL.below HG.out (by repeat (with_reducible first | exact HB.out | apply b_a | apply b_n | apply b_d))); rintro e w6 ⟨rfl, hb⟩; refine ⟨_, rfl, ?_⟩; have n0_ := mk0 (below_step (by repeat (with_reducible first | exact HB.out | apply b_a | apply b_n | apply b_d)) hb); clear HB; have HB := n0_; clear n0_; (try clear hb)))
   go_ret
   exact ⟨by first | rfl | (simp [errW_none, errW_some] <;> rfl) | (simp [*, errW_none, errW_some] <;> rfl), by repeat (first | (with_reducible first | exact HB.out | apply b_a | apply b_n | apply b_d) | exact HB.out)⟩

/-! ### c_CompareIn: function 37 -/
def c_CompareIn.f (k : Nat) (a0 : ByteArray) : Option (Int × List Int) := (c_Parse.f k a0).bind fun bt301 => ((c_class.f k a0).bind fun t305 => (some (t305, bt301.1)))
theorem c_CompareIn.mono : ∀ a0 k, LeO (c_CompareIn.f k a0) (c_CompareIn.f (k + 1) a0) := by
 intro a0 k
 unfold c_CompareIn.f
 repeat' first
   | (with_reducible exact c_Parse.mono _ _)
   | (with_reducible exact c_class.mono _ _)
   | (with_reducible exact LeO.refl _)
   | (with_reducible exact LeO.none _)
   | (with_reducible refine LeO.ite ?_ ?_)
   | (with_reducible refine LeO.bind ?_ (fun _ => ?_))
set_option maxHeartbeats 8000000 in
set_option maxRecDepth 100000 in
theorem c_CompareIn.calls (k : Nat) (a0 : ByteArray) (r1 : Int) (r2 : List Int) (w : World) (hG : GL w) (h : c_CompareIn.f k a0 = some (r1, r2)) :
  Calls Tryz.prog 37 #[.string a0] w fun e w' => ∃ v1_ : Value, e = .returned (.tuple #[.int .i64 r1, v1_]) ∧ Kd.R (Kd.int .i64) 3 w' w.heap.size (fun _ => True) v1_ r2 ∧ Below w.heap.size w w' := by
 have HG := mk0 hG
 clear hG
 have HB := mk0 (Below.refl w.heap.size w)
 have H : ((c_Parse.f k a0).bind fun bt301 => ((c_class.f k a0).bind fun t305 => (some (t305, bt301.1)))) = some (r1, r2) := h
 clear h
 replace H := Option.bind_eq_some_iff.mp H
 obtain ⟨⟨t301, t302⟩, A20, H⟩ := H
 replace H : ((c_class.f k a0).bind fun t305 => (some (t305, t301))) = some (r1, r2) := H
 have A2 := mk0 A20
 clear A20
 replace H := Option.bind_eq_some_iff.mp H
 obtain ⟨t305, A30, H⟩ := H
 replace H : (some (t305, t301)) = some (r1, r2) := H
 have A3 := mk0 A30
 clear A30
 simp only [Option.some.injEq, Prod.mk.injEq] at H
 obtain ⟨rfl, rfl⟩ := H
 go_enter Tryz.func37, Tryz.ntmps37
 go_wp2_with (first | ((with_reducible refine gate_callee (f := 31) rfl ?_); refine goesL_ (some 8) rfl rfl Tryz.func31 (by kernel_rfl) rfl #[.string a0] rfl (by (try simp only [List.map_toArray, List.map_cons, List.map_nil]); first | done | rfl) ?_; (with_reducible refine (c_Parse.calls k a0 t301 t302 _ ?side1 A2.out).mono ?_); (case side1 => first | exact HG.out | exact GL.below HG.out (by repeat (with_reducible first | exact HB.out | apply b_a | apply b_n | apply b_d))); rintro e w4 ⟨v303, rfl, ho0, hb⟩; refine ⟨_, rfl, ?_⟩; have n0_ := mk0 (Kd.R_lower ho0 (below_size (by repeat (with_reducible first | exact HB.out | apply b_a | apply b_n | apply b_d)))); have n1_ := mk0 (below_step (by repeat (with_reducible first | exact HB.out | apply b_a | apply b_n | apply b_d)) hb); clear HB; have HO304 := n0_; have HB := n1_; clear n0_ n1_; (try clear hb); (try clear hb2); (try clear hk); (try clear hi); (try clear ho0)) | ((with_reducible refine gate_callee (f := 38) rfl ?_); refine goesL_ (some 12) rfl rfl Tryz.func38 (by kernel_rfl) rfl #[.string a0] rfl (by (try simp only [List.map_toArray, List.map_cons, List.map_nil]); first | done | rfl) ?_; (with_reducible refine (c_class.calls k a0 t305 _ ?side1 A3.out).mono ?_); (case side1 => first | exact HG.out | exact GL.below HG.out (by repeat (with_reducible first | exact HB.out | apply b_a | apply b_n | apply b_d))); rintro e w5 ⟨rfl, hb⟩; refine ⟨_, rfl, ?_⟩; have n0_ := mk0 (Kd.R_below (by (with_reducible repeat (first | apply r_a | apply r_n | apply r_d)); exact HO304.out) hb); have n1_ := mk0 (below_step (by repeat (with_reducible first | exact HB.out | apply b_a | apply b_n | apply b_d)) hb); clear HO304; clear HB; have HO304 := n0_; have HB := n1_; clear n0_ n1_; (try clear hb)))
 go_ret2
 exact ⟨_, by first | rfl | (simp [errW_none, errW_some] <;> rfl) | (simp [*, errW_none, errW_some] <;> rfl), by (with_reducible repeat (first | apply r_a | apply r_n | apply r_d)); exact HO304.out, by repeat (first | (with_reducible first | exact HB.out | apply b_a | apply b_n | apply b_d) | exact HB.out)⟩

/-! ### cmp_isNaN_int: function 62 -/
def cmp_isNaN_int.f (a0 : Int) : Option (Bool) := some (a0 != a0)
set_option maxHeartbeats 8000000 in
set_option maxRecDepth 100000 in
theorem cmp_isNaN_int.calls (a0 : Int) (r : Bool) (w : World) (h : cmp_isNaN_int.f a0 = some r) :
  Calls Tryz.prog 62 #[.int .i64 a0] w fun e w' => e = .returned (.bool r) ∧ Drawn0 w w' := by
 have H : (some (a0 != a0)) = some r := h
 clear h
 obtain rfl := Option.some.inj H
 go_enter Tryz.func62, Tryz.ntmps62
 go_wp2
 go_ret
 exact ⟨by first | rfl | (simp; done) | (simp [*]; done), by repeat (first | exact Drawn0.refl _ | apply Drawn0.step)⟩

/-! ### cmp_Compare_int: function 52 -/
def cmp_Compare_int.f (a0 : Int) (a1 : Int) : Option (Int) := (cmp_isNaN_int.f a0).bind fun t306 => ((cmp_isNaN_int.f a1).bind fun t307 => (if t306 = true then (if t307 = true then (some 0) else (some (-1))) else (if t307 = true then (some 1) else (if a0 < a1 then (some (-1)) else (if a0 > a1 then (some 1) else (some 0))))))
set_option maxHeartbeats 8000000 in
set_option maxRecDepth 100000 in
theorem cmp_Compare_int.calls (a0 : Int) (a1 : Int) (r : Int) (w : World) (h : cmp_Compare_int.f a0 a1 = some r) :
  Calls Tryz.prog 52 #[.int .i64 a0, .int .i64 a1] w fun e w' => e = .returned (.int .i64 r) ∧ Drawn0 w w' := by
 have H : ((cmp_isNaN_int.f a0).bind fun t306 => ((cmp_isNaN_int.f a1).bind fun t307 => (if t306 = true then (if t307 = true then (some 0) else (some (-1))) else (if t307 = true then (some 1) else (if a0 < a1 then (some (-1)) else (if a0 > a1 then (some 1) else (some 0))))))) = some r := h
 clear h
 replace H := Option.bind_eq_some_iff.mp H
 obtain ⟨t306, A30, H⟩ := H
 replace H : ((cmp_isNaN_int.f a1).bind fun t307 => (if t306 = true then (if t307 = true then (some 0) else (some (-1))) else (if t307 = true then (some 1) else (if a0 < a1 then (some (-1)) else (if a0 > a1 then (some 1) else (some 0)))))) = some r := H
 have A3 := mk0 A30
 clear A30
 replace H := Option.bind_eq_some_iff.mp H
 obtain ⟨t307, A40, H⟩ := H
 replace H : (if t306 = true then (if t307 = true then (some 0) else (some (-1))) else (if t307 = true then (some 1) else (if a0 < a1 then (some (-1)) else (if a0 > a1 then (some 1) else (some 0))))) = some r := H
 have A4 := mk0 A40
 clear A40
 by_cases c5 : t306 = true
 ·subst c5
  have H1 : (if t307 = true then (some 0) else (some (-1))) = some r := by rw [if_pos rfl] at H; exact H
  clear H
  have H := H1
  clear H1
  by_cases c6 : t307 = true
  ·subst c6
   have H1 : (some 0) = some r := by rw [if_pos rfl] at H; exact H
   clear H
   have H := H1
   clear H1
   obtain rfl := Option.some.inj H
   go_enter Tryz.func52, Tryz.ntmps52
   go_wp2_with (first | ((with_reducible refine gate_callee (f := 62) rfl ?_); refine goesL_ (some 8) rfl rfl Tryz.func62 (by kernel_rfl) rfl #[.int .i64 a0] rfl (by (try simp only [List.map_toArray, List.map_cons, List.map_nil]); first | done | rfl) ?_; (with_reducible refine (cmp_isNaN_int.calls a0 true _ A3.out).mono ?_); rintro e w' ⟨rfl, ⟨nd, rfl⟩⟩; refine ⟨_, rfl, ?_⟩) | ((with_reducible refine gate_callee (f := 62) rfl ?_); refine goesL_ (some 10) rfl rfl Tryz.func62 (by kernel_rfl) rfl #[.int .i64 a1] rfl (by (try simp only [List.map_toArray, List.map_cons, List.map_nil]); first | done | rfl) ?_; (with_reducible refine (cmp_isNaN_int.calls a1 true _ A4.out).mono ?_); rintro e w' ⟨rfl, ⟨nd, rfl⟩⟩; refine ⟨_, rfl, ?_⟩))
   go_ret
   exact ⟨by first | rfl | (simp; done) | (simp [*]; done), by repeat (first | exact Drawn0.refl _ | apply Drawn0.step)⟩
  ·replace c6 := Bool.eq_false_iff.mpr c6
   subst c6
   have H1 : (some (-1)) = some r := by rw [if_neg (show ¬ (false = true) by decide)] at H; exact H
   clear H
   have H := H1
   clear H1
   obtain rfl := Option.some.inj H
   go_enter Tryz.func52, Tryz.ntmps52
   go_wp2_with (first | ((with_reducible refine gate_callee (f := 62) rfl ?_); refine goesL_ (some 8) rfl rfl Tryz.func62 (by kernel_rfl) rfl #[.int .i64 a0] rfl (by (try simp only [List.map_toArray, List.map_cons, List.map_nil]); first | done | rfl) ?_; (with_reducible refine (cmp_isNaN_int.calls a0 true _ A3.out).mono ?_); rintro e w' ⟨rfl, ⟨nd, rfl⟩⟩; refine ⟨_, rfl, ?_⟩) | ((with_reducible refine gate_callee (f := 62) rfl ?_); refine goesL_ (some 10) rfl rfl Tryz.func62 (by kernel_rfl) rfl #[.int .i64 a1] rfl (by (try simp only [List.map_toArray, List.map_cons, List.map_nil]); first | done | rfl) ?_; (with_reducible refine (cmp_isNaN_int.calls a1 false _ A4.out).mono ?_); rintro e w' ⟨rfl, ⟨nd, rfl⟩⟩; refine ⟨_, rfl, ?_⟩))
   go_ret
   exact ⟨by first | rfl | (simp; done) | (simp [*]; done), by repeat (first | exact Drawn0.refl _ | apply Drawn0.step)⟩
 ·replace c5 := Bool.eq_false_iff.mpr c5
  subst c5
  have H1 : (if t307 = true then (some 1) else (if a0 < a1 then (some (-1)) else (if a0 > a1 then (some 1) else (some 0)))) = some r := by rw [if_neg (show ¬ (false = true) by decide)] at H; exact H
  clear H
  have H := H1
  clear H1
  by_cases c7 : t307 = true
  ·subst c7
   have H1 : (some 1) = some r := by rw [if_pos rfl] at H; exact H
   clear H
   have H := H1
   clear H1
   obtain rfl := Option.some.inj H
   go_enter Tryz.func52, Tryz.ntmps52
   go_wp2_with (first | ((with_reducible refine gate_callee (f := 62) rfl ?_); refine goesL_ (some 8) rfl rfl Tryz.func62 (by kernel_rfl) rfl #[.int .i64 a0] rfl (by (try simp only [List.map_toArray, List.map_cons, List.map_nil]); first | done | rfl) ?_; (with_reducible refine (cmp_isNaN_int.calls a0 false _ A3.out).mono ?_); rintro e w' ⟨rfl, ⟨nd, rfl⟩⟩; refine ⟨_, rfl, ?_⟩) | ((with_reducible refine gate_callee (f := 62) rfl ?_); refine goesL_ (some 10) rfl rfl Tryz.func62 (by kernel_rfl) rfl #[.int .i64 a1] rfl (by (try simp only [List.map_toArray, List.map_cons, List.map_nil]); first | done | rfl) ?_; (with_reducible refine (cmp_isNaN_int.calls a1 true _ A4.out).mono ?_); rintro e w' ⟨rfl, ⟨nd, rfl⟩⟩; refine ⟨_, rfl, ?_⟩))
   go_ret
   exact ⟨by first | rfl | (simp; done) | (simp [*]; done), by repeat (first | exact Drawn0.refl _ | apply Drawn0.step)⟩
  ·replace c7 := Bool.eq_false_iff.mpr c7
   subst c7
   have H1 : (if a0 < a1 then (some (-1)) else (if a0 > a1 then (some 1) else (some 0))) = some r := by rw [if_neg (show ¬ (false = true) by decide)] at H; exact H
   clear H
   have H := H1
   clear H1
   by_cases c8 : a0 < a1
   ·rw [if_pos c8] at H
    have c8b0 : decide (a0 < a1) = true := decide_eq_true c8
    clear c8
    obtain rfl := Option.some.inj H
    go_enter Tryz.func52, Tryz.ntmps52
    go_wp2_with (first | ((with_reducible refine gate_callee (f := 62) rfl ?_); refine goesL_ (some 8) rfl rfl Tryz.func62 (by kernel_rfl) rfl #[.int .i64 a0] rfl (by (try simp only [List.map_toArray, List.map_cons, List.map_nil]); first | done | rfl) ?_; (with_reducible refine (cmp_isNaN_int.calls a0 false _ A3.out).mono ?_); rintro e w' ⟨rfl, ⟨nd, rfl⟩⟩; refine ⟨_, rfl, ?_⟩) | ((with_reducible refine gate_callee (f := 62) rfl ?_); refine goesL_ (some 10) rfl rfl Tryz.func62 (by kernel_rfl) rfl #[.int .i64 a1] rfl (by (try simp only [List.map_toArray, List.map_cons, List.map_nil]); first | done | rfl) ?_; (with_reducible refine (cmp_isNaN_int.calls a1 false _ A4.out).mono ?_); rintro e w' ⟨rfl, ⟨nd, rfl⟩⟩; refine ⟨_, rfl, ?_⟩))
    go_ret
    exact ⟨by first | rfl | (simp; done) | (simp [*]; done), by repeat (first | exact Drawn0.refl _ | apply Drawn0.step)⟩
   ·rw [if_neg c8] at H
    have c8b0 : decide (a0 < a1) = false := decide_eq_false c8
    clear c8
    by_cases c9 : a0 > a1
    ·rw [if_pos c9] at H
     have c9b0 : decide (a1 < a0) = true := decide_eq_true c9
     clear c9
     obtain rfl := Option.some.inj H
     go_enter Tryz.func52, Tryz.ntmps52
     go_wp2_with (first | ((with_reducible refine gate_callee (f := 62) rfl ?_); refine goesL_ (some 8) rfl rfl Tryz.func62 (by kernel_rfl) rfl #[.int .i64 a0] rfl (by (try simp only [List.map_toArray, List.map_cons, List.map_nil]); first | done | rfl) ?_; (with_reducible refine (cmp_isNaN_int.calls a0 false _ A3.out).mono ?_); rintro e w' ⟨rfl, ⟨nd, rfl⟩⟩; refine ⟨_, rfl, ?_⟩) | ((with_reducible refine gate_callee (f := 62) rfl ?_); refine goesL_ (some 10) rfl rfl Tryz.func62 (by kernel_rfl) rfl #[.int .i64 a1] rfl (by (try simp only [List.map_toArray, List.map_cons, List.map_nil]); first | done | rfl) ?_; (with_reducible refine (cmp_isNaN_int.calls a1 false _ A4.out).mono ?_); rintro e w' ⟨rfl, ⟨nd, rfl⟩⟩; refine ⟨_, rfl, ?_⟩))
     go_ret
     exact ⟨by first | rfl | (simp; done) | (simp [*]; done), by repeat (first | exact Drawn0.refl _ | apply Drawn0.step)⟩
    ·rw [if_neg c9] at H
     have c9b0 : decide (a1 < a0) = false := decide_eq_false c9
     clear c9
     obtain rfl := Option.some.inj H
     go_enter Tryz.func52, Tryz.ntmps52
     go_wp2_with (first | ((with_reducible refine gate_callee (f := 62) rfl ?_); refine goesL_ (some 8) rfl rfl Tryz.func62 (by kernel_rfl) rfl #[.int .i64 a0] rfl (by (try simp only [List.map_toArray, List.map_cons, List.map_nil]); first | done | rfl) ?_; (with_reducible refine (cmp_isNaN_int.calls a0 false _ A3.out).mono ?_); rintro e w' ⟨rfl, ⟨nd, rfl⟩⟩; refine ⟨_, rfl, ?_⟩) | ((with_reducible refine gate_callee (f := 62) rfl ?_); refine goesL_ (some 10) rfl rfl Tryz.func62 (by kernel_rfl) rfl #[.int .i64 a1] rfl (by (try simp only [List.map_toArray, List.map_cons, List.map_nil]); first | done | rfl) ?_; (with_reducible refine (cmp_isNaN_int.calls a1 false _ A4.out).mono ?_); rintro e w' ⟨rfl, ⟨nd, rfl⟩⟩; refine ⟨_, rfl, ?_⟩))
     go_ret
     exact ⟨by first | rfl | (simp; done) | (simp [*]; done), by repeat (first | exact Drawn0.refl _ | apply Drawn0.step)⟩

/-! ### slices_Compare_int_int: function 39 -/
def slices_Compare_int_int.l0 : Nat → List Int → List Int → List Int → Int → Int → Option (Int)
 | 0, _, _, _, _, _ => none
 | k + 1, x0, x1, x9, x10, x11 => if x11 < x10 then (if 0 ≤ x11 then (if x11 < (x9.length : Int) then (if x11 ≥ (x1.length : Int) then (some 1) else (if x11 < (x1.length : Int) then ((cmp_Compare_int.f (rd x9 x11) (rd x1 x11)).bind fun t310 => (if t310 = 0 then (slices_Compare_int_int.l0 k x0 x1 x9 x10 (wrap64 (x11 + 1))) else (some t310))) else (none))) else (none)) else (none)) else (if (x0.length : Int) < (x1.length : Int) then (some (-1)) else (some 0))
def slices_Compare_int_int.f (k : Nat) (l0 : List Int) (l1 : List Int) : Option (Int) := slices_Compare_int_int.l0 k l0 l1 l0 (l0.length : Int) 0
theorem slices_Compare_int_int.mono_l : ∀ k, (∀ y0 y1 y2 y3 y4, LeO (slices_Compare_int_int.l0 k y0 y1 y2 y3 y4) (slices_Compare_int_int.l0 (k + 1) y0 y1 y2 y3 y4))
 | 0 => fun _ _ _ _ _ r h => by simp [slices_Compare_int_int.l0] at h
 | k + 1 => by
  have ih0 := slices_Compare_int_int.mono_l k
  ·intro y0 y1 y2 y3 y4
   unfold slices_Compare_int_int.l0
   repeat' first
   | (with_reducible exact ih0 _ _ _ _ _)
   | (with_reducible exact LeO.refl _)
   | (with_reducible exact LeO.none _)
   | (with_reducible refine LeO.ite ?_ ?_)
   | (with_reducible refine LeO.bind ?_ (fun _ => ?_))
theorem slices_Compare_int_int.mono : ∀ a0 a1 k, LeO (slices_Compare_int_int.f k a0 a1) (slices_Compare_int_int.f (k + 1) a0 a1) := by
 intro a0 a1 k
 have ih0 := slices_Compare_int_int.mono_l k
 unfold slices_Compare_int_int.f
 repeat' first
   | (with_reducible exact ih0 _ _ _ _ _)
   | (with_reducible exact LeO.refl _)
   | (with_reducible exact LeO.none _)
   | (with_reducible refine LeO.ite ?_ ?_)
   | (with_reducible refine LeO.bind ?_ (fun _ => ?_))
set_option maxHeartbeats 8000000 in
set_option maxRecDepth 100000 in
theorem slices_Compare_int_int.calls (k : Nat) (A0 : Option Addr) (c0 : Nat) (l0 : List Int) (A1 : Option Addr) (c1 : Nat) (l1 : List Int) (r : Int) (w : World) (hr0 : Kd.C (Kd.int .i64) w A0 l0.length l0) (hc0 : l0.length ≤ c0) (hr1 : Kd.C (Kd.int .i64) w A1 l1.length l1) (hc1 : l1.length ≤ c1) (h : slices_Compare_int_int.f k l0 l1 = some r) :
  Calls Tryz.prog 39 #[.slice A0 l0.length c0, .slice A1 l1.length c1] w fun e w' => e = .returned (.int .i64 r) ∧ Drawn0 w w' := by
 have HR0 := mk0 hr0
 have HC0 := mk0 hc0
 clear hr0 hc0
 have HR1 := mk0 hr1
 have HC1 := mk0 hc1
 clear hr1 hc1
 have H : (slices_Compare_int_int.l0 k l0 l1 l0 (l0.length : Int) 0) = some r := h
 clear h
 have H' := mk0 H
 clear H
 go_enter Tryz.func39, Tryz.ntmps39
 go_wp2
 go_loopg [11] k (fun kq v11 w' => ∃ (x11_1 : Int), v11 = .int .i64 x11_1 ∧ Aside0 (slices_Compare_int_int.l0 kq l0 l1 l0 (l0.length : Int) x11_1 = some r) ∧ Aside0 (kq ≤ k) ∧ Drawn0 w w')
 case atStart => exact ⟨(0), (by first | rfl | (simp; done) | (simp [*]; done)), H', ⟨Nat.le_refl _⟩, by repeat (first | exact Drawn0.refl _ | apply Drawn0.step)⟩
 case round =>
  clear H'
  try clear c1
  try clear p2
  obtain ⟨x11_1, rfl, HA, HK1, ⟨m1, rfl⟩⟩ := hrel
  cases gk with
  | zero => exact absurd HA.out (by simp [slices_Compare_int_int.l0])
  | succ k1 =>
   have H := HA.out
   clear HA
   simp only [slices_Compare_int_int.l0] at H
   by_cases c3 : x11_1 < (l0.length : Int)
   ·rw [if_pos c3] at H
    have c3b0 : decide (x11_1 < (l0.length : Int)) = true := decide_eq_true c3
    clear c3
    by_cases c4 : 0 ≤ x11_1
    ·rw [if_pos c4] at H
     have c4b0 : decide (0 ≤ x11_1) = true := decide_eq_true c4
     clear c4
     by_cases c5 : x11_1 < (l0.length : Int)
     ·rw [if_pos c5] at H
      have c5b0 : decide (x11_1 < (l0.length : Int)) = true := decide_eq_true c5
      clear c5
      by_cases c6 : x11_1 ≥ (l1.length : Int)
      ·rw [if_pos c6] at H
       have c6b0 : decide ((l1.length : Int) ≤ x11_1) = true := decide_eq_true c6
       clear c6
       obtain rfl := Option.some.inj H
       have p308 : 0 ≤ (x11_1 : Int) := of_decide_eq_true (by assumption)
       have q308 : x11_1 < (l0.length : Int) := of_decide_eq_true (by assumption)
       obtain ⟨ad308, e308, hx308_0⟩ := Kd.at_int HR0.out x11_1 p308 q308
       cases e308
       replace p308 := eq_true p308
       replace q308 := eq_true q308
       go_wp2
       go_ret
       exact ⟨by first | rfl | (simp; done) | (simp [*]; done), by repeat (first | exact Drawn0.refl _ | apply Drawn0.step)⟩
      ·rw [if_neg c6] at H
       have c6b0 : decide ((l1.length : Int) ≤ x11_1) = false := decide_eq_false c6
       clear c6
       by_cases c7 : x11_1 < (l1.length : Int)
       ·rw [if_pos c7] at H
        have c7b0 : decide (x11_1 < (l1.length : Int)) = true := decide_eq_true c7
        clear c7
        replace H := Option.bind_eq_some_iff.mp H
        obtain ⟨t310, A80, H⟩ := H
        replace H : (if t310 = 0 then (slices_Compare_int_int.l0 k1 l0 l1 l0 (l0.length : Int) (wrap64 (x11_1 + 1))) else (some t310)) = some r := H
        have A8 := mk0 A80
        clear A80
        by_cases c9 : t310 = 0
        ·rw [if_pos c9] at H
         have c9b0 : (t310 == 0) = true := beq_iff_eq.mpr c9
         have c9b1 : (t310 != 0) = false := bne_eq_false_iff_eq.mpr c9
         clear c9
         have H' := mk0 H
         clear H
         have p308 : 0 ≤ (x11_1 : Int) := of_decide_eq_true (by assumption)
         have q308 : x11_1 < (l0.length : Int) := of_decide_eq_true (by assumption)
         obtain ⟨ad308, e308, hx308_0⟩ := Kd.at_int HR0.out x11_1 p308 q308
         cases e308
         replace p308 := eq_true p308
         replace q308 := eq_true q308
         have p309 : 0 ≤ (x11_1 : Int) := of_decide_eq_true (by assumption)
         have q309 : x11_1 < (l1.length : Int) := of_decide_eq_true (by assumption)
         obtain ⟨ad309, e309, hx309_0⟩ := Kd.at_int HR1.out x11_1 p309 q309
         cases e309
         replace p309 := eq_true p309
         replace q309 := eq_true q309
         go_wp2_with (first | ((with_reducible refine gate_callee (f := 52) rfl ?_); refine goesL_ (some 26) rfl rfl Tryz.func52 (by kernel_rfl) rfl #[.int .i64 (rd l0 x11_1), .int .i64 (rd l1 x11_1)] rfl (by (try simp only [List.map_toArray, List.map_cons, List.map_nil]); first | done | rfl) ?_; (with_reducible refine (cmp_Compare_int.calls (rd l0 x11_1) (rd l1 x11_1) t310 _ A8.out).mono ?_); rintro e w' ⟨rfl, ⟨nd, rfl⟩⟩; refine ⟨_, rfl, ?_⟩))
         go_roundg k1
         case measure => have := HK1.out; omega
         case rel => exact ⟨(wrap64 (x11_1 + 1)), (by first | rfl | (simp; done) | (simp [*]; done)), H', ⟨by have := HK1.out; omega⟩, by repeat (first | exact Drawn0.refl _ | apply Drawn0.step)⟩
        ·rw [if_neg c9] at H
         have c9b0 : (t310 == 0) = false := beq_eq_false_iff_ne.mpr c9
         have c9b1 : (t310 != 0) = true := bne_iff_ne.mpr c9
         obtain rfl := Option.some.inj H
         have p308 : 0 ≤ (x11_1 : Int) := of_decide_eq_true (by assumption)
         have q308 : x11_1 < (l0.length : Int) := of_decide_eq_true (by assumption)
         obtain ⟨ad308, e308, hx308_0⟩ := Kd.at_int HR0.out x11_1 p308 q308
         cases e308
         replace p308 := eq_true p308
         replace q308 := eq_true q308
         have p309 : 0 ≤ (x11_1 : Int) := of_decide_eq_true (by assumption)
         have q309 : x11_1 < (l1.length : Int) := of_decide_eq_true (by assumption)
         obtain ⟨ad309, e309, hx309_0⟩ := Kd.at_int HR1.out x11_1 p309 q309
         cases e309
         replace p309 := eq_true p309
         replace q309 := eq_true q309
         go_wp2_with (first | ((with_reducible refine gate_callee (f := 52) rfl ?_); refine goesL_ (some 26) rfl rfl Tryz.func52 (by kernel_rfl) rfl #[.int .i64 (rd l0 x11_1), .int .i64 (rd l1 x11_1)] rfl (by (try simp only [List.map_toArray, List.map_cons, List.map_nil]); first | done | rfl) ?_; (with_reducible refine (cmp_Compare_int.calls (rd l0 x11_1) (rd l1 x11_1) t310 _ A8.out).mono ?_); rintro e w' ⟨rfl, ⟨nd, rfl⟩⟩; refine ⟨_, rfl, ?_⟩))
         go_ret
         exact ⟨by first | rfl | (simp; done) | (simp [*]; done), by repeat (first | exact Drawn0.refl _ | apply Drawn0.step)⟩
       ·rw [if_neg c7] at H
        exact absurd H (by simp)
     ·rw [if_neg c5] at H
      exact absurd H (by simp)
    ·rw [if_neg c4] at H
     exact absurd H (by simp)
   ·rw [if_neg c3] at H
    have c3b0 : decide (x11_1 < (l0.length : Int)) = false := decide_eq_false c3
    clear c3
    by_cases c10 : (l0.length : Int) < (l1.length : Int)
    ·rw [if_pos c10] at H
     have c10b0 : decide ((l0.length : Int) < (l1.length : Int)) = true := decide_eq_true c10
     have c10b1 : decide (l0.length < l1.length) = true := decide_eq_true (Int.ofNat_lt.mp c10)
     clear c10
     obtain rfl := Option.some.inj H
     go_wp2
     go_ret
     exact ⟨by first | rfl | (simp; done) | (simp [*]; done), by repeat (first | exact Drawn0.refl _ | apply Drawn0.step)⟩
    ·rw [if_neg c10] at H
     have c10b0 : decide ((l0.length : Int) < (l1.length : Int)) = false := decide_eq_false c10
     have c10b1 : decide (l0.length < l1.length) = false := decide_eq_false (fun h => c10 (Int.ofNat_lt.mpr h))
     clear c10
     obtain rfl := Option.some.inj H
     go_wp2
     go_ret
     exact ⟨by first | rfl | (simp; done) | (simp [*]; done), by repeat (first | exact Drawn0.refl _ | apply Drawn0.step)⟩

/-! ### strings_Compare: function 40 (by hand) -/


def strings_Compare.f (a0 : ByteArray) (a1 : ByteArray) : Option (Int) := some (Lib.compareBytes a0.data.toList a1.data.toList)
theorem strings_Compare.calls (a0 : ByteArray) (a1 : ByteArray) (r : Int) (w : World) (h : strings_Compare.f a0 a1 = some r) :
  Calls Tryz.prog 40 #[.string a0, .string a1] w fun e w' => e = .returned (.int .i64 r) ∧ Below w.heap.size w w' := by
 obtain rfl := Option.some.inj h
 exact compare_any a0 a1 w

/-! ### c_Compare: function 25 -/
def c_Compare.f (k : Nat) (a0 : ByteArray) (a1 : ByteArray) : Option (Int) := (c_CompareIn.f k a0).bind fun bt311 => ((c_CompareIn.f k a1).bind fun bt315 => (if bt311.1 = bt315.1 then (if bt311.1 = 1 then ((slices_Compare_int_int.f k bt311.2 bt315.2).bind fun t319 => (some t319)) else ((strings_Compare.f a0 a1).bind fun t320 => (some t320))) else ((slices_Compare_int_int.f k (([bt311.1] : List Int)) (([bt315.1] : List Int))).bind fun t327 => (some t327))))
theorem c_Compare.mono : ∀ a0 a1 k, LeO (c_Compare.f k a0 a1) (c_Compare.f (k + 1) a0 a1) := by
 intro a0 a1 k
 unfold c_Compare.f
 repeat' first
   | (with_reducible exact c_CompareIn.mono _ _)
   | (with_reducible exact slices_Compare_int_int.mono _ _ _)
   | (with_reducible exact LeO.refl _)
   | (with_reducible exact LeO.none _)
   | (with_reducible refine LeO.ite ?_ ?_)
   | (with_reducible refine LeO.bind ?_ (fun _ => ?_))
set_option maxHeartbeats 8000000 in
set_option maxRecDepth 100000 in
theorem c_Compare.calls (k : Nat) (a0 : ByteArray) (a1 : ByteArray) (r : Int) (w : World) (hG : GL w) (h : c_Compare.f k a0 a1 = some r) :
  Calls Tryz.prog 25 #[.string a0, .string a1] w fun e w' => e = .returned (.int .i64 r) ∧ Below w.heap.size w w' := by
 have HG := mk0 hG
 clear hG
 have HB := mk0 (Below.refl w.heap.size w)
 have H : ((c_CompareIn.f k a0).bind fun bt311 => ((c_CompareIn.f k a1).bind fun bt315 => (if bt311.1 = bt315.1 then (if bt311.1 = 1 then ((slices_Compare_int_int.f k bt311.2 bt315.2).bind fun t319 => (some t319)) else ((strings_Compare.f a0 a1).bind fun t320 => (some t320))) else ((slices_Compare_int_int.f k (([bt311.1] : List Int)) (([bt315.1] : List Int))).bind fun t327 => (some t327))))) = some r := h
 clear h
 replace H := Option.bind_eq_some_iff.mp H
 obtain ⟨⟨t311, t312⟩, A30, H⟩ := H
 replace H : ((c_CompareIn.f k a1).bind fun bt315 => (if t311 = bt315.1 then (if t311 = 1 then ((slices_Compare_int_int.f k t312 bt315.2).bind fun t319 => (some t319)) else ((strings_Compare.f a0 a1).bind fun t320 => (some t320))) else ((slices_Compare_int_int.f k (([t311] : List Int)) (([bt315.1] : List Int))).bind fun t327 => (some t327)))) = some r := H
 have A3 := mk0 A30
 clear A30
 replace H := Option.bind_eq_some_iff.mp H
 obtain ⟨⟨t315, t316⟩, A40, H⟩ := H
 replace H : (if t311 = t315 then (if t311 = 1 then ((slices_Compare_int_int.f k t312 t316).bind fun t319 => (some t319)) else ((strings_Compare.f a0 a1).bind fun t320 => (some t320))) else ((slices_Compare_int_int.f k (([t311] : List Int)) (([t315] : List Int))).bind fun t327 => (some t327))) = some r := H
 have A4 := mk0 A40
 clear A40
 by_cases c5 : t311 = t315
 ·rw [if_pos c5] at H
  have c5b0 : (t311 == t315) = true := beq_iff_eq.mpr c5
  have c5b1 : (t311 != t315) = false := bne_eq_false_iff_eq.mpr c5
  clear c5
  by_cases c6 : t311 = 1
  ·rw [if_pos c6] at H
   have c6b0 : (t311 == 1) = true := beq_iff_eq.mpr c6
   have c6b1 : (t311 != 1) = false := bne_eq_false_iff_eq.mpr c6
   clear c6
   replace H := Option.bind_eq_some_iff.mp H
   obtain ⟨t319, A70, H⟩ := H
   replace H : (some t319) = some r := H
   have A7 := mk0 A70
   clear A70
   obtain rfl := Option.some.inj H
   go_enter Tryz.func25, Tryz.ntmps25
   go_wp2_with (first | ((with_reducible refine gate_calleeT rfl ?_); refine goesLT_ (some 13) rfl rfl Tryz.func37 (by kernel_rfl) rfl #[.string a0] rfl rfl (by (try simp only [List.map_toArray, List.map_cons, List.map_nil]); first | done | rfl) ?_; (with_reducible refine (c_CompareIn.calls k a0 t311 t312 _ ?side1 A3.out).mono ?_); (case side1 => first | exact HG.out | exact GL.below HG.out (by repeat (with_reducible first | exact HB.out | apply b_a | apply b_n | apply b_d))); rintro e w8 ⟨v313, rfl, ho0, hb⟩; refine ⟨_, rfl, ?_⟩; have n0_ := mk0 (Kd.R_lower ho0 (below_size (by repeat (with_reducible first | exact HB.out | apply b_a | apply b_n | apply b_d)))); have n1_ := mk0 (below_step (by repeat (with_reducible first | exact HB.out | apply b_a | apply b_n | apply b_d)) hb); clear HB; have HO314 := n0_; have HB := n1_; clear n0_ n1_; (try clear hb); (try clear hb2); (try clear hk); (try clear hi); (try clear ho0)) | ((with_reducible refine gate_calleeT rfl ?_); refine goesLT_ (some 19) rfl rfl Tryz.func37 (by kernel_rfl) rfl #[.string a1] rfl rfl (by (try simp only [List.map_toArray, List.map_cons, List.map_nil]); first | done | rfl) ?_; (with_reducible refine (c_CompareIn.calls k a1 t315 t316 _ ?side1 A4.out).mono ?_); (case side1 => first | exact HG.out | exact GL.below HG.out (by repeat (with_reducible first | exact HB.out | apply b_a | apply b_n | apply b_d))); rintro e w9 ⟨v317, rfl, ho0, hb⟩; refine ⟨_, rfl, ?_⟩; have n0_ := mk0 (Kd.R_elder' (by (with_reducible repeat (first | apply r_a | apply r_n | apply r_d)); exact HO314.out) (Kd.R_base ho0) hb); have n1_ := mk0 (Kd.R_lower (Kd.R_new' ho0 (Kd.R_lt (by (with_reducible repeat (first | apply r_a | apply r_n | apply r_d)); exact HO314.out))) (below_size (by repeat (with_reducible first | exact HB.out | apply b_a | apply b_n | apply b_d)))); have n2_ := mk0 (below_step (by repeat (with_reducible first | exact HB.out | apply b_a | apply b_n | apply b_d)) hb); clear HO314; clear HB; have HO314 := n0_; have HO318 := n1_; have HB := n2_; clear n0_ n1_ n2_; (try clear hb); (try clear hb2); (try clear hk); (try clear hi); (try clear ho0); obtain ⟨Ao10, co10, eo10⟩ := Kd.R_slice HO314.out; subst eo10; obtain ⟨Ao11, co11, eo11⟩ := Kd.R_slice HO318.out; subst eo11) | ((with_reducible refine gate_callee (f := 39) rfl ?_); refine goesL_ (some 36) rfl rfl Tryz.func39 (by kernel_rfl) rfl #[.slice Ao10 t312.length co10, .slice Ao11 t316.length co11] rfl (by (try simp only [List.map_toArray, List.map_cons, List.map_nil]); first | done | rfl) ?_; (with_reducible refine (slices_Compare_int_int.calls k _ _ t312 _ _ t316 t319 _ ?side1 ?side2 ?side3 ?side4 A7.out).mono ?_); (case side1 => repeat (first | exact (Kd.R_reads' HO314.out).2.2 | (with_reducible refine Kd.C_alloc ?_ _) | (with_reducible refine Kd.C_drewN ?_ _) | (with_reducible refine Kd.C_drew ?_))); (case side2 => exact (Kd.R_reads' HO314.out).2.1); (case side3 => repeat (first | exact (Kd.R_reads' HO318.out).2.2 | (with_reducible refine Kd.C_alloc ?_ _) | (with_reducible refine Kd.C_drewN ?_ _) | (with_reducible refine Kd.C_drew ?_))); (case side4 => exact (Kd.R_reads' HO318.out).2.1); rintro e w' ⟨rfl, ⟨nd, rfl⟩⟩; refine ⟨_, rfl, ?_⟩))
   go_ret
   exact ⟨by first | rfl | (simp [errW_none, errW_some] <;> rfl) | (simp [*, errW_none, errW_some] <;> rfl), by repeat (first | (with_reducible first | exact HB.out | apply b_a | apply b_n | apply b_d) | exact HB.out)⟩
  ·rw [if_neg c6] at H
   have c6b0 : (t311 == 1) = false := beq_eq_false_iff_ne.mpr c6
   have c6b1 : (t311 != 1) = true := bne_iff_ne.mpr c6
   replace H := Option.bind_eq_some_iff.mp H
   obtain ⟨t320, A120, H⟩ := H
   replace H : (some t320) = some r := H
   have A12 := mk0 A120
   clear A120
   obtain rfl := Option.some.inj H
   go_enter Tryz.func25, Tryz.ntmps25
   go_wp2_with (first | ((with_reducible refine gate_calleeT rfl ?_); refine goesLT_ (some 13) rfl rfl Tryz.func37 (by kernel_rfl) rfl #[.string a0] rfl rfl (by (try simp only [List.map_toArray, List.map_cons, List.map_nil]); first | done | rfl) ?_; (with_reducible refine (c_CompareIn.calls k a0 t311 t312 _ ?side1 A3.out).mono ?_); (case side1 => first | exact HG.out | exact GL.below HG.out (by repeat (with_reducible first | exact HB.out | apply b_a | apply b_n | apply b_d))); rintro e w13 ⟨v313, rfl, ho0, hb⟩; refine ⟨_, rfl, ?_⟩; have n0_ := mk0 (Kd.R_lower ho0 (below_size (by repeat (with_reducible first | exact HB.out | apply b_a | apply b_n | apply b_d)))); have n1_ := mk0 (below_step (by repeat (with_reducible first | exact HB.out | apply b_a | apply b_n | apply b_d)) hb); clear HB; have HO314 := n0_; have HB := n1_; clear n0_ n1_; (try clear hb); (try clear hb2); (try clear hk); (try clear hi); (try clear ho0)) | ((with_reducible refine gate_calleeT rfl ?_); refine goesLT_ (some 19) rfl rfl Tryz.func37 (by kernel_rfl) rfl #[.string a1] rfl rfl (by (try simp only [List.map_toArray, List.map_cons, List.map_nil]); first | done | rfl) ?_; (with_reducible refine (c_CompareIn.calls k a1 t315 t316 _ ?side1 A4.out).mono ?_); (case side1 => first | exact HG.out | exact GL.below HG.out (by repeat (with_reducible first | exact HB.out | apply b_a | apply b_n | apply b_d))); rintro e w14 ⟨v317, rfl, ho0, hb⟩; refine ⟨_, rfl, ?_⟩; have n0_ := mk0 (Kd.R_elder' (by (with_reducible repeat (first | apply r_a | apply r_n | apply r_d)); exact HO314.out) (Kd.R_base ho0) hb); have n1_ := mk0 (Kd.R_lower (Kd.R_new' ho0 (Kd.R_lt (by (with_reducible repeat (first | apply r_a | apply r_n | apply r_d)); exact HO314.out))) (below_size (by repeat (with_reducible first | exact HB.out | apply b_a | apply b_n | apply b_d)))); have n2_ := mk0 (below_step (by repeat (with_reducible first | exact HB.out | apply b_a | apply b_n | apply b_d)) hb); clear HO314; clear HB; have HO314 := n0_; have HO318 := n1_; have HB := n2_; clear n0_ n1_ n2_; (try clear hb); (try clear hb2); (try clear hk); (try clear hi); (try clear ho0)) | ((with_reducible refine gate_callee (f := 40) rfl ?_); refine goesL_ (some 39) rfl rfl Tryz.func40 (by kernel_rfl) rfl #[.string a0, .string a1] rfl (by (try simp only [List.map_toArray, List.map_cons, List.map_nil]); first | done | rfl) ?_; (with_reducible refine (strings_Compare.calls a0 a1 t320 _ A12.out).mono ?_); rintro e w15 ⟨rfl, hb⟩; refine ⟨_, rfl, ?_⟩; have n0_ := mk0 (Kd.R_below (by (with_reducible repeat (first | apply r_a | apply r_n | apply r_d)); exact HO314.out) hb); have n1_ := mk0 (Kd.R_below (by (with_reducible repeat (first | apply r_a | apply r_n | apply r_d)); exact HO318.out) hb); have n2_ := mk0 (below_step (by repeat (with_reducible first | exact HB.out | apply b_a | apply b_n | apply b_d)) hb); clear HO314; clear HO318; clear HB; have HO314 := n0_; have HO318 := n1_; have HB := n2_; clear n0_ n1_ n2_; (try clear hb)))
   go_ret
   exact ⟨by first | rfl | (simp [errW_none, errW_some] <;> rfl) | (simp [*, errW_none, errW_some] <;> rfl), by repeat (first | (with_reducible first | exact HB.out | apply b_a | apply b_n | apply b_d) | exact HB.out)⟩
 ·rw [if_neg c5] at H
  have c5b0 : (t311 == t315) = false := beq_eq_false_iff_ne.mpr c5
  have c5b1 : (t311 != t315) = true := bne_iff_ne.mpr c5
  obtain ⟨y321, hy321⟩ : ∃ y_ : List Int, y_ = (([t311] : List Int)) := ⟨_, rfl⟩
  replace H : ((slices_Compare_int_int.f k y321 (([t315] : List Int))).bind fun t327 => (some t327)) = some r := by first | (rw [hy321]; with_reducible exact H) | (have H2_ := (Option.bind_some _ _).symm.trans H; rw [hy321]; with_reducible exact H2_) | (have H2_ := (Option.bind_some _ _).symm.trans H; with_reducible exact H2_) | with_reducible exact H | (rw [hy321]; exact H) | exact H
  have Ny321 := mk0 hy321
  clear hy321
  obtain ⟨y324, hy324⟩ : ∃ y_ : List Int, y_ = (([t315] : List Int)) := ⟨_, rfl⟩
  replace H : ((slices_Compare_int_int.f k y321 y324).bind fun t327 => (some t327)) = some r := by first | (rw [hy324]; with_reducible exact H) | (have H2_ := (Option.bind_some _ _).symm.trans H; rw [hy324]; with_reducible exact H2_) | (have H2_ := (Option.bind_some _ _).symm.trans H; with_reducible exact H2_) | with_reducible exact H | (rw [hy324]; exact H) | exact H
  have Ny324 := mk0 hy324
  clear hy324
  replace H := Option.bind_eq_some_iff.mp H
  obtain ⟨t327, A160, H⟩ := H
  replace H : (some t327) = some r := H
  have A16 := mk0 A160
  clear A160
  obtain rfl := Option.some.inj H
  go_enter Tryz.func25, Tryz.ntmps25
  go_wp2_with (first | ((with_reducible refine gate_calleeT rfl ?_); refine goesLT_ (some 13) rfl rfl Tryz.func37 (by kernel_rfl) rfl #[.string a0] rfl rfl (by (try simp only [List.map_toArray, List.map_cons, List.map_nil]); first | done | rfl) ?_; (with_reducible refine (c_CompareIn.calls k a0 t311 t312 _ ?side1 A3.out).mono ?_); (case side1 => first | exact HG.out | exact GL.below HG.out (by repeat (with_reducible first | exact HB.out | apply b_a | apply b_n | apply b_d))); rintro e w17 ⟨v313, rfl, ho0, hb⟩; refine ⟨_, rfl, ?_⟩; have n0_ := mk0 (Kd.R_lower ho0 (below_size (by repeat (with_reducible first | exact HB.out | apply b_a | apply b_n | apply b_d)))); have n1_ := mk0 (below_step (by repeat (with_reducible first | exact HB.out | apply b_a | apply b_n | apply b_d)) hb); clear HB; have HO314 := n0_; have HB := n1_; clear n0_ n1_; (try clear hb); (try clear hb2); (try clear hk); (try clear hi); (try clear ho0)) | ((with_reducible refine gate_calleeT rfl ?_); refine goesLT_ (some 19) rfl rfl Tryz.func37 (by kernel_rfl) rfl #[.string a1] rfl rfl (by (try simp only [List.map_toArray, List.map_cons, List.map_nil]); first | done | rfl) ?_; (with_reducible refine (c_CompareIn.calls k a1 t315 t316 _ ?side1 A4.out).mono ?_); (case side1 => first | exact HG.out | exact GL.below HG.out (by repeat (with_reducible first | exact HB.out | apply b_a | apply b_n | apply b_d))); rintro e w18 ⟨v317, rfl, ho0, hb⟩; refine ⟨_, rfl, ?_⟩; have n0_ := mk0 (Kd.R_elder' (by (with_reducible repeat (first | apply r_a | apply r_n | apply r_d)); exact HO314.out) (Kd.R_base ho0) hb); have n1_ := mk0 (Kd.R_lower (Kd.R_new' ho0 (Kd.R_lt (by (with_reducible repeat (first | apply r_a | apply r_n | apply r_d)); exact HO314.out))) (below_size (by repeat (with_reducible first | exact HB.out | apply b_a | apply b_n | apply b_d)))); have n2_ := mk0 (below_step (by repeat (with_reducible first | exact HB.out | apply b_a | apply b_n | apply b_d)) hb); clear HO314; clear HB; have HO314 := n0_; have HO318 := n1_; have HB := n2_; clear n0_ n1_ n2_; (try clear hb); (try clear hb2); (try clear hk); (try clear hi); (try clear ho0)) | ((with_reducible refine gate_dst (N := 27) rfl ?_); refine Kd.R_lit (Kd.int .i64) _ 3 ?hg (N := 27) ?hd (xs := ([t311] : List Int)) (inner := [.int .i64 t311]) (ok := fun _ => True) (okp := fun _ => True) ?hr ?hp (fun _ hk => hk) trivial (Below.refl _ _) (Nat.le_refl _) (by simp) ?_; (case hd => rfl); (case hg => rfl); (case hr => first | (go_simp; done) | (go_simp; rfl)); (case hp => exact (Reps.one (show Kd.M (Kd.int .i64) _ _ _ t311 [.int .i64 t311] from rfl) (Reps.none _ _))); intro v322 w19 ho20 hb hg_ hnew_; clear hg_ hnew_; (first | rw [← Ny321.out] at ho20 | (simp only [Int.reduceToNat] at ho20; rw [← Ny321.out] at ho20)); have n0_ := mk0 (Kd.R_elder' (by (with_reducible repeat (first | apply r_a | apply r_n | apply r_d)); exact HO314.out) (Kd.R_base ho20) hb); have n1_ := mk0 (Kd.R_elder' (by (with_reducible repeat (first | apply r_a | apply r_n | apply r_d)); exact HO318.out) (Kd.R_base ho20) hb); have n2_ := mk0 (Kd.R_lower (Kd.R_new' (Kd.R_new' ho20 (Kd.R_lt (by (with_reducible repeat (first | apply r_a | apply r_n | apply r_d)); exact HO314.out))) (Kd.R_lt (by (with_reducible repeat (first | apply r_a | apply r_n | apply r_d)); exact HO318.out))) (below_size (by repeat (with_reducible first | exact HB.out | apply b_a | apply b_n | apply b_d)))); have n3_ := mk0 (below_step (by repeat (with_reducible first | exact HB.out | apply b_a | apply b_n | apply b_d)) hb); clear HO314; clear HO318; clear HB; have HO314 := n0_; have HO318 := n1_; have HO323 := n2_; have HB := n3_; clear n0_ n1_ n2_ n3_; clear hb ho20) | ((with_reducible refine gate_dst (N := 29) rfl ?_); refine Kd.R_lit (Kd.int .i64) _ 3 ?hg (N := 29) ?hd (xs := ([t315] : List Int)) (inner := [.int .i64 t315]) (ok := fun _ => True) (okp := fun _ => True) ?hr ?hp (fun _ hk => hk) trivial (Below.refl _ _) (Nat.le_refl _) (by simp) ?_; (case hd => rfl); (case hg => rfl); (case hr => first | (go_simp; done) | (go_simp; rfl)); (case hp => exact (Reps.one (show Kd.M (Kd.int .i64) _ _ _ t315 [.int .i64 t315] from rfl) (Reps.none _ _))); intro v325 w21 ho22 hb hg_ hnew_; clear hg_ hnew_; (first | rw [← Ny324.out] at ho22 | (simp only [Int.reduceToNat] at ho22; rw [← Ny324.out] at ho22)); have n0_ := mk0 (Kd.R_elder' (by (with_reducible repeat (first | apply r_a | apply r_n | apply r_d)); exact HO314.out) (Kd.R_base ho22) hb); have n1_ := mk0 (Kd.R_elder' (by (with_reducible repeat (first | apply r_a | apply r_n | apply r_d)); exact HO318.out) (Kd.R_base ho22) hb); have n2_ := mk0 (Kd.R_elder' (by (with_reducible repeat (first | apply r_a | apply r_n | apply r_d)); exact HO323.out) (Kd.R_base ho22) hb); have n3_ := mk0 (Kd.R_lower (Kd.R_new' (Kd.R_new' (Kd.R_new' ho22 (Kd.R_lt (by (with_reducible repeat (first | apply r_a | apply r_n | apply r_d)); exact HO314.out))) (Kd.R_lt (by (with_reducible repeat (first | apply r_a | apply r_n | apply r_d)); exact HO318.out))) (Kd.R_lt (by (with_reducible repeat (first | apply r_a | apply r_n | apply r_d)); exact HO323.out))) (below_size (by repeat (with_reducible first | exact HB.out | apply b_a | apply b_n | apply b_d)))); have n4_ := mk0 (below_step (by repeat (with_reducible first | exact HB.out | apply b_a | apply b_n | apply b_d)) hb); clear HO314; clear HO318; clear HO323; clear HB; have HO314 := n0_; have HO318 := n1_; have HO323 := n2_; have HO326 := n3_; have HB := n4_; clear n0_ n1_ n2_ n3_ n4_; clear hb ho22; obtain ⟨Ao23, co23, eo23⟩ := Kd.R_slice HO323.out; subst eo23; obtain ⟨Ao24, co24, eo24⟩ := Kd.R_slice HO326.out; subst eo24) | ((with_reducible refine gate_callee (f := 39) rfl ?_); refine goesL_ (some 30) rfl rfl Tryz.func39 (by kernel_rfl) rfl #[.slice Ao23 y321.length co23, .slice Ao24 y324.length co24] rfl (by (try simp only [List.map_toArray, List.map_cons, List.map_nil]); first | done | rfl) ?_; (with_reducible refine (slices_Compare_int_int.calls k _ _ y321 _ _ y324 t327 _ ?side1 ?side2 ?side3 ?side4 A16.out).mono ?_); (case side1 => repeat (first | exact (Kd.R_reads' HO323.out).2.2 | (with_reducible refine Kd.C_alloc ?_ _) | (with_reducible refine Kd.C_drewN ?_ _) | (with_reducible refine Kd.C_drew ?_))); (case side2 => exact (Kd.R_reads' HO323.out).2.1); (case side3 => repeat (first | exact (Kd.R_reads' HO326.out).2.2 | (with_reducible refine Kd.C_alloc ?_ _) | (with_reducible refine Kd.C_drewN ?_ _) | (with_reducible refine Kd.C_drew ?_))); (case side4 => exact (Kd.R_reads' HO326.out).2.1); rintro e w' ⟨rfl, ⟨nd, rfl⟩⟩; refine ⟨_, rfl, ?_⟩))
  go_ret
  exact ⟨by first | rfl | (simp [errW_none, errW_some] <;> rfl) | (simp [*, errW_none, errW_some] <;> rfl), by repeat (first | (with_reducible first | exact HB.out | apply b_a | apply b_n | apply b_d) | exact HB.out)⟩

/-! ### slices_Index_string_string: function 54 -/
def slices_Index_string_string.l0 : Nat → List ByteArray → ByteArray → Int → Int → Option (Int)
 | 0, _, _, _, _ => none
 | k + 1, x0, x1, x7, x8 => if x8 < x7 then (if 0 ≤ x8 then (if x8 < (x0.length : Int) then (if x1.toList = (rdOf ByteArray.empty x0 x8).toList then (some x8) else (slices_Index_string_string.l0 k x0 x1 x7 (wrap64 (x8 + 1)))) else (none)) else (none)) else (some (-1))
def slices_Index_string_string.f (k : Nat) (l0 : List ByteArray) (a1 : ByteArray) : Option (Int) := slices_Index_string_string.l0 k l0 a1 (l0.length : Int) 0
theorem slices_Index_string_string.mono_l : ∀ k, (∀ y0 y1 y2 y3, LeO (slices_Index_string_string.l0 k y0 y1 y2 y3) (slices_Index_string_string.l0 (k + 1) y0 y1 y2 y3))
 | 0 => fun _ _ _ _ r h => by simp [slices_Index_string_string.l0] at h
 | k + 1 => by
  have ih0 := slices_Index_string_string.mono_l k
  ·intro y0 y1 y2 y3
   unfold slices_Index_string_string.l0
   repeat' first
   | (with_reducible exact ih0 _ _ _ _)
   | (with_reducible exact LeO.refl _)
   | (with_reducible exact LeO.none _)
   | (with_reducible refine LeO.ite ?_ ?_)
   | (with_reducible refine LeO.bind ?_ (fun _ => ?_))
theorem slices_Index_string_string.mono : ∀ a0 a1 k, LeO (slices_Index_string_string.f k a0 a1) (slices_Index_string_string.f (k + 1) a0 a1) := by
 intro a0 a1 k
 have ih0 := slices_Index_string_string.mono_l k
 unfold slices_Index_string_string.f
 repeat' first
   | (with_reducible exact ih0 _ _ _ _)
   | (with_reducible exact LeO.refl _)
   | (with_reducible exact LeO.none _)
   | (with_reducible refine LeO.ite ?_ ?_)
   | (with_reducible refine LeO.bind ?_ (fun _ => ?_))
set_option maxHeartbeats 8000000 in
set_option maxRecDepth 100000 in
theorem slices_Index_string_string.calls (k : Nat) (A0 : Option Addr) (c0 : Nat) (l0 : List ByteArray) (a1 : ByteArray) (r : Int) (w : World) (hr0 : Kd.C Kd.string w A0 l0.length l0) (hc0 : l0.length ≤ c0) (h : slices_Index_string_string.f k l0 a1 = some r) :
  Calls Tryz.prog 54 #[.slice A0 l0.length c0, .string a1] w fun e w' => e = .returned (.int .i64 r) ∧ Drawn0 w w' := by
 have HR0 := mk0 hr0
 have HC0 := mk0 hc0
 clear hr0 hc0
 have H : (slices_Index_string_string.l0 k l0 a1 (l0.length : Int) 0) = some r := h
 clear h
 have H' := mk0 H
 clear H
 go_enter Tryz.func54, Tryz.ntmps54
 go_wp2
 go_loopg [8] k (fun kq v8 w' => ∃ (x8_1 : Int), v8 = .int .i64 x8_1 ∧ Aside0 (slices_Index_string_string.l0 kq l0 a1 (l0.length : Int) x8_1 = some r) ∧ Aside0 (kq ≤ k) ∧ Drawn0 w w')
 case atStart => exact ⟨(0), (by first | rfl | (simp; done) | (simp [*]; done)), H', ⟨Nat.le_refl _⟩, by repeat (first | exact Drawn0.refl _ | apply Drawn0.step)⟩
 case round =>
  clear H'
  try clear p2
  obtain ⟨x8_1, rfl, HA, HK1, ⟨m1, rfl⟩⟩ := hrel
  cases gk with
  | zero => exact absurd HA.out (by simp [slices_Index_string_string.l0])
  | succ k1 =>
   have H := HA.out
   clear HA
   simp only [slices_Index_string_string.l0] at H
   by_cases c3 : x8_1 < (l0.length : Int)
   ·rw [if_pos c3] at H
    have c3b0 : decide (x8_1 < (l0.length : Int)) = true := decide_eq_true c3
    clear c3
    by_cases c4 : 0 ≤ x8_1
    ·rw [if_pos c4] at H
     have c4b0 : decide (0 ≤ x8_1) = true := decide_eq_true c4
     clear c4
     by_cases c5 : x8_1 < (l0.length : Int)
     ·rw [if_pos c5] at H
      have c5b0 : decide (x8_1 < (l0.length : Int)) = true := decide_eq_true c5
      clear c5
      by_cases c6 : a1.toList = (rdOf ByteArray.empty l0 x8_1).toList
      ·rw [if_pos c6] at H
       have c6b0 : (a1.toList == (rdOf ByteArray.empty l0 x8_1).toList) = true := beq_iff_eq.mpr c6
       have c6b1 : (a1.toList != (rdOf ByteArray.empty l0 x8_1).toList) = false := bne_eq_false_iff_eq.mpr c6
       clear c6
       obtain rfl := Option.some.inj H
       have p328 : 0 ≤ (x8_1 : Int) := of_decide_eq_true (by assumption)
       have q328 : x8_1 < (l0.length : Int) := of_decide_eq_true (by assumption)
       obtain ⟨ad328, e328, hx328_0⟩ := Kd.at_string HR0.out x8_1 p328 q328
       cases e328
       replace p328 := eq_true p328
       replace q328 := eq_true q328
       go_wp2
       go_ret
       exact ⟨by first | rfl | (simp; done) | (simp [*]; done), by repeat (first | exact Drawn0.refl _ | apply Drawn0.step)⟩
      ·rw [if_neg c6] at H
       have c6b0 : (a1.toList == (rdOf ByteArray.empty l0 x8_1).toList) = false := beq_eq_false_iff_ne.mpr c6
       have c6b1 : (a1.toList != (rdOf ByteArray.empty l0 x8_1).toList) = true := bne_iff_ne.mpr c6
       have H' := mk0 H
       clear H
       have p328 : 0 ≤ (x8_1 : Int) := of_decide_eq_true (by assumption)
       have q328 : x8_1 < (l0.length : Int) := of_decide_eq_true (by assumption)
       obtain ⟨ad328, e328, hx328_0⟩ := Kd.at_string HR0.out x8_1 p328 q328
       cases e328
       replace p328 := eq_true p328
       replace q328 := eq_true q328
       go_wp2
       go_roundg k1
       case measure => have := HK1.out; omega
       case rel => exact ⟨(wrap64 (x8_1 + 1)), (by first | rfl | (simp; done) | (simp [*]; done)), H', ⟨by have := HK1.out; omega⟩, by repeat (first | exact Drawn0.refl _ | apply Drawn0.step)⟩
     ·rw [if_neg c5] at H
      exact absurd H (by simp)
    ·rw [if_neg c4] at H
     exact absurd H (by simp)
   ·rw [if_neg c3] at H
    have c3b0 : decide (x8_1 < (l0.length : Int)) = false := decide_eq_false c3
    clear c3
    obtain rfl := Option.some.inj H
    go_wp2
    go_ret
    exact ⟨by first | rfl | (simp; done) | (simp [*]; done), by repeat (first | exact Drawn0.refl _ | apply Drawn0.step)⟩

/-! ### slices_Contains_string_string: function 44 -/
def slices_Contains_string_string.f (k : Nat) (l0 : List ByteArray) (a1 : ByteArray) : Option (Bool) := (slices_Index_string_string.f k l0 a1).bind fun t329 => (some (decide (t329 ≥ 0)))
theorem slices_Contains_string_string.mono : ∀ a0 a1 k, LeO (slices_Contains_string_string.f k a0 a1) (slices_Contains_string_string.f (k + 1) a0 a1) := by
 intro a0 a1 k
 unfold slices_Contains_string_string.f
 repeat' first
   | (with_reducible exact slices_Index_string_string.mono _ _ _)
   | (with_reducible exact LeO.refl _)
   | (with_reducible exact LeO.none _)
   | (with_reducible refine LeO.ite ?_ ?_)
   | (with_reducible refine LeO.bind ?_ (fun _ => ?_))
set_option maxHeartbeats 8000000 in
set_option maxRecDepth 100000 in
theorem slices_Contains_string_string.calls (k : Nat) (A0 : Option Addr) (c0 : Nat) (l0 : List ByteArray) (a1 : ByteArray) (r : Bool) (w : World) (hr0 : Kd.C Kd.string w A0 l0.length l0) (hc0 : l0.length ≤ c0) (h : slices_Contains_string_string.f k l0 a1 = some r) :
  Calls Tryz.prog 44 #[.slice A0 l0.length c0, .string a1] w fun e w' => e = .returned (.bool r) ∧ Drawn0 w w' := by
 have HR0 := mk0 hr0
 have HC0 := mk0 hc0
 clear hr0 hc0
 have H : ((slices_Index_string_string.f k l0 a1).bind fun t329 => (some (decide (t329 ≥ 0)))) = some r := h
 clear h
 replace H := Option.bind_eq_some_iff.mp H
 obtain ⟨t329, A30, H⟩ := H
 replace H : (some (decide (t329 ≥ 0))) = some r := H
 have A3 := mk0 A30
 clear A30
 obtain rfl := Option.some.inj H
 go_enter Tryz.func44, Tryz.ntmps44
 go_wp2_with (first | ((with_reducible refine gate_callee (f := 54) rfl ?_); refine goesL_ (some 7) rfl rfl Tryz.func54 (by kernel_rfl) rfl #[.slice A0 l0.length c0, .string a1] rfl (by (try simp only [List.map_toArray, List.map_cons, List.map_nil]); first | done | rfl) ?_; (with_reducible refine (slices_Index_string_string.calls k _ _ l0 a1 t329 _ ?side1 ?side2 A3.out).mono ?_); (case side1 => repeat (first | exact HR0.out | (with_reducible refine Kd.C_alloc ?_ _) | (with_reducible refine Kd.C_drewN ?_ _) | (with_reducible refine Kd.C_drew ?_))); (case side2 => exact HC0.out); rintro e w' ⟨rfl, ⟨nd, rfl⟩⟩; refine ⟨_, rfl, ?_⟩))
 go_ret
 exact ⟨by first | rfl | (simp; done) | (simp [*]; done), by repeat (first | exact Drawn0.refl _ | apply Drawn0.step)⟩

end Go.Proofs.YtpnoliognpmkmaaGreatDoor.P
