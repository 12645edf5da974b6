/- Lean functions with the same answers as the program's Go functions, and for each the proof that the call comes to these answers; written by a program of mine out of the translation, the functions marked 'by hand' by me. -/
import Derived.Test.YtpnoliognpmkmaaGreatDoorP0
import Derived.Test.YtpnoliognpmkmaaGreatDoorP4
import Derived.Test.YtpnoliognpmkmaaGreatDoorP13
import Derived.Test.YtpnoliognpmkmaaGreatDoorP14
namespace Go.Proofs.YtpnoliognpmkmaaGreatDoor.P
open Go.RowKit Go.Proofs.YtpnoliognpmkmaaGreatDoorW.PrintWords Go.Proofs.YtpnoliognpmkmaaGreatDoorW.PrintLast Go.Proofs.YtpnoliognpmkmaaGreatDoorW.PrintMore
attribute [local go_sem] max2_int min2_int max_two min_two max_three min_three max_four min_four   -- for this text's walks alone
set_option linter.unusedVariables false
set_option linter.unusedSimpArgs false

/-! ### r6_Level: function 36 -/
def r6_Level.f (k : Nat) (a0 : ByteArray) : Option (Int) := (r6_Parse.f k a0).bind fun bt396 => (if bt396.2 = 0 then (some (bt396.1.length : Int)) else (if a0.toList = ([] : List UInt8) then (some (bt396.1.length : Int)) else (some (-1))))
theorem r6_Level.mono : ∀ a0 k, LeO (r6_Level.f k a0) (r6_Level.f (k + 1) a0) := by
 intro a0 k
 unfold r6_Level.f
 repeat' first
   | (with_reducible exact r6_Parse.mono _ _)
   | (with_reducible exact LeO.refl _)
   | (with_reducible exact LeO.none _)
   | (with_reducible refine LeO.ite ?_ ?_)
   | (with_reducible refine LeO.bind ?_ (fun _ => ?_))
set_option maxHeartbeats 8000000 in
set_option maxRecDepth 100000 in
theorem r6_Level.calls (k : Nat) (a0 : ByteArray) (r : Int) (w : World) (h : r6_Level.f k a0 = some r) :
  Calls Tryz.prog 36 #[.string a0] w fun e w' => e = .returned (.int .i64 r) ∧ Below w.heap.size w w' := by
 have HB := mk0 (Below.refl w.heap.size w)
 have H : ((r6_Parse.f k a0).bind fun bt396 => (if bt396.2 = 0 then (some (bt396.1.length : Int)) else (if a0.toList = ([] : List UInt8) then (some (bt396.1.length : Int)) else (some (-1))))) = some r := h
 clear h
 replace H := Option.bind_eq_some_iff.mp H
 obtain ⟨⟨t396, t397⟩, A20, H⟩ := H
 replace H : (if t397 = 0 then (some (t396.length : Int)) else (if a0.toList = ([] : List UInt8) then (some (t396.length : Int)) else (some (-1)))) = some r := H
 have A2 := mk0 A20
 clear A20
 by_cases c3 : t397 = 0
 ·rw [if_pos c3] at H
  have c3b0 : (t397 == 0) = true := beq_iff_eq.mpr c3
  have c3b1 : (t397 != 0) = false := bne_eq_false_iff_eq.mpr c3
  clear c3
  obtain rfl := Option.some.inj H
  go_enter Tryz.func36, Tryz.ntmps36
  go_wp2_with (first | ((with_reducible refine gate_callee (f := 27) rfl ?_); refine goesL_ (some 7) rfl rfl Tryz.func27 (by kernel_rfl) rfl #[.string a0] rfl (by (try simp only [List.map_toArray, List.map_cons, List.map_nil]); first | done | rfl) ?_; (with_reducible refine (r6_Parse.calls k a0 t396 t397 _ A2.out).mono ?_); rintro e w4 ⟨v398, rfl, ho0, hb⟩; refine ⟨_, rfl, ?_⟩; have n0_ := mk0 (Kd.R_lower ho0 (below_size (by repeat (with_reducible first | exact HB.out | apply b_a | apply b_n | apply b_d)))); have n1_ := mk0 (below_step (by repeat (with_reducible first | exact HB.out | apply b_a | apply b_n | apply b_d)) hb); clear HB; have HO399 := n0_; have HB := n1_; clear n0_ n1_; (try clear hb); (try clear hb2); (try clear hk); (try clear hi); (try clear ho0); obtain ⟨Ao5, co5, eo5⟩ := Kd.R_slice HO399.out; subst eo5))
  go_ret
  exact ⟨by first | rfl | (simp [errW_none, errW_some] <;> rfl) | (simp [*, errW_none, errW_some] <;> rfl), by repeat (first | (with_reducible first | exact HB.out | apply b_a | apply b_n | apply b_d) | exact HB.out)⟩
 ·rw [if_neg c3] at H
  have c3b0 : (t397 == 0) = false := beq_eq_false_iff_ne.mpr c3
  have c3b1 : (t397 != 0) = true := bne_iff_ne.mpr c3
  by_cases c6 : a0.toList = ([] : List UInt8)
  ·rw [if_pos c6] at H
   have c6b0 : (a0.toList == ([] : List UInt8)) = true := beq_iff_eq.mpr c6
   have c6b1 : (a0.toList != ([] : List UInt8)) = false := bne_eq_false_iff_eq.mpr c6
   clear c6
   obtain rfl := Option.some.inj H
   go_enter Tryz.func36, Tryz.ntmps36
   go_wp2_with (first | ((with_reducible refine gate_callee (f := 27) rfl ?_); refine goesL_ (some 7) rfl rfl Tryz.func27 (by kernel_rfl) rfl #[.string a0] rfl (by (try simp only [List.map_toArray, List.map_cons, List.map_nil]); first | done | rfl) ?_; (with_reducible refine (r6_Parse.calls k a0 t396 t397 _ A2.out).mono ?_); rintro e w7 ⟨v398, rfl, ho0, hb⟩; refine ⟨_, rfl, ?_⟩; have n0_ := mk0 (Kd.R_lower ho0 (below_size (by repeat (with_reducible first | exact HB.out | apply b_a | apply b_n | apply b_d)))); have n1_ := mk0 (below_step (by repeat (with_reducible first | exact HB.out | apply b_a | apply b_n | apply b_d)) hb); clear HB; have HO399 := n0_; have HB := n1_; clear n0_ n1_; (try clear hb); (try clear hb2); (try clear hk); (try clear hi); (try clear ho0); obtain ⟨Ao8, co8, eo8⟩ := Kd.R_slice HO399.out; subst eo8))
   go_ret
   exact ⟨by first | rfl | (simp [errW_none, errW_some] <;> rfl) | (simp [*, errW_none, errW_some] <;> rfl), by repeat (first | (with_reducible first | exact HB.out | apply b_a | apply b_n | apply b_d) | exact HB.out)⟩
  ·rw [if_neg c6] at H
   have c6b0 : (a0.toList == ([] : List UInt8)) = false := beq_eq_false_iff_ne.mpr c6
   have c6b1 : (a0.toList != ([] : List UInt8)) = true := bne_iff_ne.mpr c6
   obtain rfl := Option.some.inj H
   go_enter Tryz.func36, Tryz.ntmps36
   go_wp2_with (first | ((with_reducible refine gate_callee (f := 27) rfl ?_); refine goesL_ (some 7) rfl rfl Tryz.func27 (by kernel_rfl) rfl #[.string a0] rfl (by (try simp only [List.map_toArray, List.map_cons, List.map_nil]); first | done | rfl) ?_; (with_reducible refine (r6_Parse.calls k a0 t396 t397 _ A2.out).mono ?_); rintro e w9 ⟨v398, rfl, ho0, hb⟩; refine ⟨_, rfl, ?_⟩; have n0_ := mk0 (Kd.R_lower ho0 (below_size (by repeat (with_reducible first | exact HB.out | apply b_a | apply b_n | apply b_d)))); have n1_ := mk0 (below_step (by repeat (with_reducible first | exact HB.out | apply b_a | apply b_n | apply b_d)) hb); clear HB; have HO399 := n0_; have HB := n1_; clear n0_ n1_; (try clear hb); (try clear hb2); (try clear hk); (try clear hi); (try clear ho0)))
   go_ret
   exact ⟨by first | rfl | (simp [errW_none, errW_some] <;> rfl) | (simp [*, errW_none, errW_some] <;> rfl), by repeat (first | (with_reducible first | exact HB.out | apply b_a | apply b_n | apply b_d) | exact HB.out)⟩

/-! ### r6_Within: function 24 -/
mutual
def r6_Within.j0 : Nat → ByteArray → ByteArray → Bool → Option (Bool)
 | 0, _, _, _ => none
 | k + 1, x0, x1, x16 => if x16 = true then (some true) else ((r6_Path.f k x0).bind fun t401 => (r6_Within.l0 k x1 t401 (t401.length : Int) 0))
def r6_Within.l0 : Nat → ByteArray → List ByteArray → Int → Int → Option (Bool)
 | 0, _, _, _, _ => none
 | k + 1, x1, x18, x19, x20 => if x20 < x19 then (if 0 ≤ x20 then (if x20 < (x18.length : Int) then (if (rdOf ByteArray.empty x18 x20).toList = x1.toList then (some true) else (r6_Within.l0 k x1 x18 x19 (wrap64 (x20 + 1)))) else (none)) else (none)) else (some false)
end
def r6_Within.f (k : Nat) (a0 : ByteArray) (a1 : ByteArray) : Option (Bool) := (r6_Level.f k a0).bind fun t400 => (if t400 < 0 then (some false) else (if a1.toList = ([] : List UInt8) then (r6_Within.j0 k a0 a1 true) else (r6_Within.j0 k a0 a1 (a1.toList == a0.toList))))
theorem r6_Within.mono_l : ∀ k, (∀ y0 y1 y2, LeO (r6_Within.j0 k y0 y1 y2) (r6_Within.j0 (k + 1) y0 y1 y2)) ∧ (∀ y0 y1 y2 y3, LeO (r6_Within.l0 k y0 y1 y2 y3) (r6_Within.l0 (k + 1) y0 y1 y2 y3))
 | 0 => ⟨fun _ _ _ r h => by simp [r6_Within.j0] at h, fun _ _ _ _ r h => by simp [r6_Within.l0] at h⟩
 | k + 1 => by
  obtain ⟨ih0, ih1⟩ := r6_Within.mono_l k
  refine ⟨?_, ?_⟩
  ·intro y0 y1 y2
   unfold r6_Within.j0
   repeat' first
   | (with_reducible exact ih0 _ _ _)
   | (with_reducible exact ih1 _ _ _ _)
   | (with_reducible exact r6_Level.mono _ _)
   | (with_reducible exact r6_Path.mono _ _)
   | (with_reducible exact LeO.refl _)
   | (with_reducible exact LeO.none _)
   | (with_reducible refine LeO.ite ?_ ?_)
   | (with_reducible refine LeO.bind ?_ (fun _ => ?_))
  ·intro y0 y1 y2 y3
   unfold r6_Within.l0
   repeat' first
   | (with_reducible exact ih0 _ _ _)
   | (with_reducible exact ih1 _ _ _ _)
   | (with_reducible exact r6_Level.mono _ _)
   | (with_reducible exact r6_Path.mono _ _)
   | (with_reducible exact LeO.refl _)
   | (with_reducible exact LeO.none _)
   | (with_reducible refine LeO.ite ?_ ?_)
   | (with_reducible refine LeO.bind ?_ (fun _ => ?_))
theorem r6_Within.mono : ∀ a0 a1 k, LeO (r6_Within.f k a0 a1) (r6_Within.f (k + 1) a0 a1) := by
 intro a0 a1 k
 obtain ⟨ih0, ih1⟩ := r6_Within.mono_l k
 unfold r6_Within.f
 repeat' first
   | (with_reducible exact ih0 _ _ _)
   | (with_reducible exact ih1 _ _ _ _)
   | (with_reducible exact r6_Level.mono _ _)
   | (with_reducible exact r6_Path.mono _ _)
   | (with_reducible exact LeO.refl _)
   | (with_reducible exact LeO.none _)
   | (with_reducible refine LeO.ite ?_ ?_)
   | (with_reducible refine LeO.bind ?_ (fun _ => ?_))
set_option maxHeartbeats 8000000 in
set_option maxRecDepth 100000 in
theorem r6_Within.calls (k : Nat) (a0 : ByteArray) (a1 : ByteArray) (r : Bool) (w : World) (h : r6_Within.f k a0 a1 = some r) :
  Calls Tryz.prog 24 #[.string a0, .string a1] w fun e w' => e = .returned (.bool r) ∧ Below w.heap.size w w' := by
 have HB := mk0 (Below.refl w.heap.size w)
 have H : ((r6_Level.f k a0).bind fun t400 => (if t400 < 0 then (some false) else (if a1.toList = ([] : List UInt8) then (r6_Within.j0 k a0 a1 true) else (r6_Within.j0 k a0 a1 (a1.toList == a0.toList))))) = some r := h
 clear h
 replace H := Option.bind_eq_some_iff.mp H
 obtain ⟨t400, A30, H⟩ := H
 replace H : (if t400 < 0 then (some false) else (if a1.toList = ([] : List UInt8) then (r6_Within.j0 k a0 a1 true) else (r6_Within.j0 k a0 a1 (a1.toList == a0.toList)))) = some r := H
 have A3 := mk0 A30
 clear A30
 by_cases c4 : t400 < 0
 ·rw [if_pos c4] at H
  have c4b0 : decide (t400 < 0) = true := decide_eq_true c4
  clear c4
  obtain rfl := Option.some.inj H
  go_enter Tryz.func24, Tryz.ntmps24
  go_wp2_with (first | ((with_reducible refine gate_callee (f := 36) rfl ?_); refine goesL_ (some 8) rfl rfl Tryz.func36 (by kernel_rfl) rfl #[.string a0] rfl (by (try simp only [List.map_toArray, List.map_cons, List.map_nil]); first | done | rfl) ?_; (with_reducible refine (r6_Level.calls k a0 t400 _ A3.out).mono ?_); rintro e w5 ⟨rfl, hb⟩; refine ⟨_, rfl, ?_⟩; have n0_ := mk0 (below_step (by repeat (with_reducible first | exact HB.out | apply b_a | apply b_n | apply b_d)) hb); clear HB; have HB := n0_; clear n0_; (try clear hb)))
  go_ret
  exact ⟨by first | rfl | (simp [errW_none, errW_some] <;> rfl) | (simp [*, errW_none, errW_some] <;> rfl), by repeat (first | (with_reducible first | exact HB.out | apply b_a | apply b_n | apply b_d) | exact HB.out)⟩
 ·rw [if_neg c4] at H
  have c4b0 : decide (t400 < 0) = false := decide_eq_false c4
  clear c4
  have HC6 := mk0 H
  clear H
  go_enter Tryz.func24, Tryz.ntmps24
  go_upto_region 3 with (first | ((with_reducible refine gate_callee (f := 36) rfl ?_); refine goesL_ (some 8) rfl rfl Tryz.func36 (by kernel_rfl) rfl #[.string a0] rfl (by (try simp only [List.map_toArray, List.map_cons, List.map_nil]); first | done | rfl) ?_; (with_reducible refine (r6_Level.calls k a0 t400 _ A3.out).mono ?_); rintro e w7 ⟨rfl, hb⟩; refine ⟨_, rfl, ?_⟩; have n0_ := mk0 (below_step (by repeat (with_reducible first | exact HB.out | apply b_a | apply b_n | apply b_d)) hb); clear HB; have HB := n0_; clear n0_; (try clear hb)))
  (try simp only [Act.put, List.setIfInBounds_toArray, List.set_cons_zero, List.set_cons_succ])
  go_cut [16] (fun v16 wc => ∃ (kq : Nat) (x16_45 : Bool), v16 = .bool x16_45 ∧ Aside0 (r6_Within.j0 kq a0 a1 x16_45 = some r) ∧ Aside0 (kq ≤ k) ∧ Aside0 (Below w.heap.size w wc))
  case first =>
   have H := HC6.out
   clear HC6
   by_cases c8 : a1.toList = ([] : List UInt8)
   ·rw [if_pos c8] at H
    have c8b0 : (a1.toList == ([] : List UInt8)) = true := beq_iff_eq.mpr c8
    have c8b1 : (a1.toList != ([] : List UInt8)) = false := bne_eq_false_iff_eq.mpr c8
    clear c8
    (first | rw [c8b0] | (simp only [i64_w, i32_w]; rw [c8b0]) | skip)
    have H' := mk0 H
    clear H
    go_wp2
    go_meet
    case rel => exact ⟨_, (true), (by first | rfl | (simp; done) | (simp [*]; done)), H', ⟨by first | omega | exact Nat.le_refl _⟩, ⟨by repeat (first | (with_reducible first | exact HB.out | apply b_a | apply b_n | apply b_d) | exact HB.out)⟩⟩
   ·rw [if_neg c8] at H
    have c8b0 : (a1.toList == ([] : List UInt8)) = false := beq_eq_false_iff_ne.mpr c8
    have c8b1 : (a1.toList != ([] : List UInt8)) = true := bne_iff_ne.mpr c8
    (first | rw [c8b0] | (simp only [i64_w, i32_w]; rw [c8b0]) | skip)
    have H' := mk0 H
    clear H
    go_wp2
    go_meet
    case rel => exact ⟨_, ((a1.toList == a0.toList)), (by first | rfl | (simp; done) | (simp [*]; done)), H', ⟨by first | omega | exact Nat.le_refl _⟩, ⟨by repeat (first | (with_reducible first | exact HB.out | apply b_a | apply b_n | apply b_d) | exact HB.out)⟩⟩
  case rest =>
   clear HC6
   try clear c2
   try clear p2
   try clear c3
   try clear c4
   try clear c4b0
   try clear c8
   try clear c8b0
   try clear c8b1
   obtain ⟨kq, x16_45, rfl, HA, HJ45, HB⟩ := hcut
   cases kq with
   | zero => exact absurd HA.out (by simp [r6_Within.j0])
   | succ kj45 =>
    have H := HA.out
    clear HA
    simp only [r6_Within.j0] at H
    by_cases c9 : x16_45 = true
    ·subst c9
     have H1 : (some true) = some r := by rw [if_pos rfl] at H; exact H
     clear H
     have H := H1
     clear H1
     obtain rfl := Option.some.inj H
     go_wp2
     go_ret
     exact ⟨by first | rfl | (simp [errW_none, errW_some] <;> rfl) | (simp [*, errW_none, errW_some] <;> rfl), by repeat (first | (with_reducible first | exact HB.out | apply b_a | apply b_n | apply b_d) | exact HB.out)⟩
    ·replace c9 := Bool.eq_false_iff.mpr c9
     subst c9
     have H1 : ((r6_Path.f kj45 a0).bind fun t401 => (r6_Within.l0 kj45 a1 t401 (t401.length : Int) 0)) = some r := by rw [if_neg (show ¬ (false = true) by decide)] at H; exact H
     clear H
     have H := H1
     clear H1
     replace H := Option.bind_eq_some_iff.mp H
     obtain ⟨t401, A100, H⟩ := H
     replace H : (r6_Within.l0 kj45 a1 t401 (t401.length : Int) 0) = some r := H
     have A10 := mk0 A100
     clear A100
     have H' := mk0 H
     clear H
     go_wp2_with (first | ((with_reducible refine gate_callee (f := 32) rfl ?_); refine goesL_ (some 18) rfl rfl Tryz.func32 (by kernel_rfl) rfl #[.string a0] rfl (by (try simp only [List.map_toArray, List.map_cons, List.map_nil]); first | done | rfl) ?_; (with_reducible refine (r6_Path.calls kj45 a0 t401 _ A10.out).mono ?_); rintro e w11 ⟨v402, rfl, ho0, hb⟩; refine ⟨_, rfl, ?_⟩; have n0_ := mk0 (Kd.R_lower ho0 (below_size (by repeat (with_reducible first | exact HB.out | apply b_a | apply b_n | apply b_d)))); have n1_ := mk0 (below_step (by repeat (with_reducible first | exact HB.out | apply b_a | apply b_n | apply b_d)) hb); clear HB; have HO403 := n0_; have HB := n1_; clear n0_ n1_; (try clear hb); (try clear hb2); (try clear hk); (try clear hi); (try clear ho0); obtain ⟨Ao12, co12, eo12⟩ := Kd.R_slice HO403.out; subst eo12))
     go_loopg [20] kj45 (fun kq v20 w' => ∃ (x20_2 : Int), v20 = .int .i64 x20_2 ∧ Aside0 (r6_Within.l0 kq a1 t401 (t401.length : Int) x20_2 = some r) ∧ Aside0 (kq ≤ kj45) ∧ Aside0 (Kd.R Kd.string 9 w' w.heap.size (fun _ => True) (.slice Ao12 t401.length co12) t401) ∧ Aside0 (Below w.heap.size w w'))
     case atStart => exact ⟨(0), (by first | rfl | (simp; done) | (simp [*]; done)), H', ⟨Nat.le_refl _⟩, ⟨by (with_reducible repeat (first | apply r_a | apply r_n | apply r_d)); exact HO403.out⟩, ⟨by repeat (first | (with_reducible first | exact HB.out | apply b_a | apply b_n | apply b_d) | exact HB.out)⟩⟩
     case round =>
      clear H'
      try clear c2
      try clear p2
      try clear c3
      try clear c4
      try clear c4b0
      try clear c8
      try clear c8b0
      try clear c8b1
      try clear c9
      try clear p2
      obtain ⟨x20_2, rfl, HA, HK2, HO_18, HB⟩ := hrel
      cases gk with
      | zero => exact absurd HA.out (by simp [r6_Within.l0])
      | succ k2 =>
       have H := HA.out
       clear HA
       simp only [r6_Within.l0] at H
       by_cases c13 : x20_2 < (t401.length : Int)
       ·rw [if_pos c13] at H
        have c13b0 : decide (x20_2 < (t401.length : Int)) = true := decide_eq_true c13
        clear c13
        by_cases c14 : 0 ≤ x20_2
        ·rw [if_pos c14] at H
         have c14b0 : decide (0 ≤ x20_2) = true := decide_eq_true c14
         clear c14
         by_cases c15 : x20_2 < (t401.length : Int)
         ·rw [if_pos c15] at H
          have c15b0 : decide (x20_2 < (t401.length : Int)) = true := decide_eq_true c15
          clear c15
          by_cases c16 : (rdOf ByteArray.empty t401 x20_2).toList = a1.toList
          ·rw [if_pos c16] at H
           have c16b0 : ((rdOf ByteArray.empty t401 x20_2).toList == a1.toList) = true := beq_iff_eq.mpr c16
           have c16b1 : ((rdOf ByteArray.empty t401 x20_2).toList != a1.toList) = false := bne_eq_false_iff_eq.mpr c16
           clear c16
           obtain rfl := Option.some.inj H
           have p404 : 0 ≤ (x20_2 : Int) := of_decide_eq_true (by assumption)
           have q404 : x20_2 < (t401.length : Int) := of_decide_eq_true (by assumption)
           obtain ⟨ad404, e404, hx404_0⟩ := Kd.at_string (Kd.R_reads' HO_18.out).2.2 x20_2 p404 q404
           cases e404
           replace p404 := eq_true p404
           replace q404 := eq_true q404
           go_wp2
           go_ret
           exact ⟨by first | rfl | (simp [errW_none, errW_some] <;> rfl) | (simp [*, errW_none, errW_some] <;> rfl), by repeat (first | (with_reducible first | exact HB.out | apply b_a | apply b_n | apply b_d) | exact HB.out)⟩
          ·rw [if_neg c16] at H
           have c16b0 : ((rdOf ByteArray.empty t401 x20_2).toList == a1.toList) = false := beq_eq_false_iff_ne.mpr c16
           have c16b1 : ((rdOf ByteArray.empty t401 x20_2).toList != a1.toList) = true := bne_iff_ne.mpr c16
           have H' := mk0 H
           clear H
           have p404 : 0 ≤ (x20_2 : Int) := of_decide_eq_true (by assumption)
           have q404 : x20_2 < (t401.length : Int) := of_decide_eq_true (by assumption)
           obtain ⟨ad404, e404, hx404_0⟩ := Kd.at_string (Kd.R_reads' HO_18.out).2.2 x20_2 p404 q404
           cases e404
           replace p404 := eq_true p404
           replace q404 := eq_true q404
           go_wp2
           go_roundg k2
           case measure => have := HJ45.out; have := HK2.out; omega
           case rel => exact ⟨(wrap64 (x20_2 + 1)), (by first | rfl | (simp; done) | (simp [*]; done)), H', ⟨by have := HJ45.out; have := HK2.out; omega⟩, ⟨by (with_reducible repeat (first | apply r_a | apply r_n | apply r_d)); exact HO_18.out⟩, ⟨by repeat (first | (with_reducible first | exact HB.out | apply b_a | apply b_n | apply b_d) | exact HB.out)⟩⟩
         ·rw [if_neg c15] at H
          exact absurd H (by simp)
        ·rw [if_neg c14] at H
         exact absurd H (by simp)
       ·rw [if_neg c13] at H
        have c13b0 : decide (x20_2 < (t401.length : Int)) = false := decide_eq_false c13
        clear c13
        obtain rfl := Option.some.inj H
        go_wp2
        go_ret
        exact ⟨by first | rfl | (simp [errW_none, errW_some] <;> rfl) | (simp [*, errW_none, errW_some] <;> rfl), by repeat (first | (with_reducible first | exact HB.out | apply b_a | apply b_n | apply b_d) | exact HB.out)⟩

/-! ### r6_Leaves: function 11 -/
def r6_Leaves.l0 : Nat → ByteArray → List ByteArray → List ByteArray → Int → Int → ByteArray → List ByteArray → Option (List ByteArray)
 | 0, _, _, _, _, _, _, _ => none
 | k + 1, x1, x5, x14, x15, x16, x406000, x406001 => if x16 < x15 then (if 0 ≤ x16 then (if x16 < (x14.length : Int) then (if (wrap64 (x16 + 1)) = (x406001.length : Int) then ((r6_Within.f k (rdOf ByteArray.empty x14 x16) x1).bind fun t408 => (if t408 = true then (if x5.length < 8796093022208 then (r6_Leaves.l0 k x1 (x5 ++ [rdOf ByteArray.empty x14 x16]) x14 x15 (wrap64 (x16 + 1)) x406000 x406001) else (none)) else (r6_Leaves.l0 k x1 x5 x14 x15 (wrap64 (x16 + 1)) x406000 x406001))) else (if 0 ≤ (wrap64 (x16 + 1)) then (if (wrap64 (x16 + 1)) < (x406001.length : Int) then ((r6_Within.f k (rdOf ByteArray.empty x406001 (wrap64 (x16 + 1))) (rdOf ByteArray.empty x14 x16)).bind fun t413 => (if t413 = true then (r6_Leaves.l0 k x1 x5 x14 x15 (wrap64 (x16 + 1)) x406000 x406001) else ((r6_Within.f k (rdOf ByteArray.empty x14 x16) x1).bind fun t414 => (if t414 = true then (if x5.length < 8796093022208 then (r6_Leaves.l0 k x1 (x5 ++ [rdOf ByteArray.empty x14 x16]) x14 x15 (wrap64 (x16 + 1)) x406000 x406001) else (none)) else (r6_Leaves.l0 k x1 x5 x14 x15 (wrap64 (x16 + 1)) x406000 x406001))))) else (none)) else (none))) else (none)) else (none)) else (some x5)
def r6_Leaves.f (k : Nat) (a0_0 : ByteArray) (l0_1 : List ByteArray) (a1 : ByteArray) : Option (List ByteArray) := (r6_known.f k a0_0 l0_1 a1).bind fun t406 => (if t406 = true then (r6_Leaves.l0 k a1 ([] : List ByteArray) l0_1 (l0_1.length : Int) 0 a0_0 l0_1) else (some ([] : List ByteArray)))
theorem r6_Leaves.mono_l : ∀ k, (∀ y0 y1 y2 y3 y4 y5 y6, LeO (r6_Leaves.l0 k y0 y1 y2 y3 y4 y5 y6) (r6_Leaves.l0 (k + 1) y0 y1 y2 y3 y4 y5 y6))
 | 0 => fun _ _ _ _ _ _ _ r h => by simp [r6_Leaves.l0] at h
 | k + 1 => by
  have ih0 := r6_Leaves.mono_l k
  ·intro y0 y1 y2 y3 y4 y5 y6
   unfold r6_Leaves.l0
   repeat' first
   | (with_reducible exact ih0 _ _ _ _ _ _ _)
   | (with_reducible exact r6_Within.mono _ _ _)
   | (with_reducible exact r6_known.mono _ _ _ _)
   | (with_reducible exact LeO.refl _)
   | (with_reducible exact LeO.none _)
   | (with_reducible refine LeO.ite ?_ ?_)
   | (with_reducible refine LeO.bind ?_ (fun _ => ?_))
theorem r6_Leaves.mono : ∀ a0 a1 a2 k, LeO (r6_Leaves.f k a0 a1 a2) (r6_Leaves.f (k + 1) a0 a1 a2) := by
 intro a0 a1 a2 k
 have ih0 := r6_Leaves.mono_l k
 unfold r6_Leaves.f
 repeat' first
   | (with_reducible exact ih0 _ _ _ _ _ _ _)
   | (with_reducible exact r6_Within.mono _ _ _)
   | (with_reducible exact r6_known.mono _ _ _ _)
   | (with_reducible exact LeO.refl _)
   | (with_reducible exact LeO.none _)
   | (with_reducible refine LeO.ite ?_ ?_)
   | (with_reducible refine LeO.bind ?_ (fun _ => ?_))
set_option maxHeartbeats 8000000 in
set_option maxRecDepth 100000 in
theorem r6_Leaves.calls (k : Nat) (a0_0 : ByteArray) (A0_1 : Option Addr) (c0_1 : Nat) (l0_1 : List ByteArray) (a1 : ByteArray) (r : List ByteArray) (w : World) (hr0_1 : Kd.C Kd.string w A0_1 l0_1.length l0_1) (hc0_1 : l0_1.length ≤ c0_1) (h : r6_Leaves.f k a0_0 l0_1 a1 = some r) :
  Calls Tryz.prog 11 #[.agg #[.string a0_0, .slice A0_1 l0_1.length c0_1], .string a1] w fun e w' => ∃ v0_ : Value, e = .returned (v0_) ∧ Kd.R Kd.string 9 w' w.heap.size (fun _ => True) v0_ r ∧ Below w.heap.size w w' := by
 have hu24 := Tryz.underlying24
 have HR0_1 := mk0 hr0_1
 have HC0_1 := mk0 hc0_1
 clear hr0_1 hc0_1
 have HB := mk0 (Below.refl w.heap.size w)
 have H : ((r6_known.f k a0_0 l0_1 a1).bind fun t406 => (if t406 = true then (r6_Leaves.l0 k a1 ([] : List ByteArray) l0_1 (l0_1.length : Int) 0 a0_0 l0_1) else (some ([] : List ByteArray)))) = some r := h
 clear h
 replace H := Option.bind_eq_some_iff.mp H
 obtain ⟨t406, A30, H⟩ := H
 replace H : (if t406 = true then (r6_Leaves.l0 k a1 ([] : List ByteArray) l0_1 (l0_1.length : Int) 0 a0_0 l0_1) else (some ([] : List ByteArray))) = some r := H
 have A3 := mk0 A30
 clear A30
 by_cases c4 : t406 = true
 ·subst c4
  have H1 : (r6_Leaves.l0 k a1 ([] : List ByteArray) l0_1 (l0_1.length : Int) 0 a0_0 l0_1) = some r := by rw [if_pos rfl] at H; exact H
  clear H
  have H := H1
  clear H1
  have H' := mk0 H
  clear H
  go_enter Tryz.func11, Tryz.ntmps11
  go_wp2_with (first | ((with_reducible refine gate_dst (N := 2) rfl ?_); refine box_event ?hg (N := 2) ?hd (cs := #[.string a0_0, .slice A0_1 l0_1.length c0_1]) (t := 24) ?hr ?_; (case hd => rfl); (case hg => rfl); (case hr => first | (go_simp; done) | (go_simp; rfl)); intro gb405 hg w5 hbox hb; have n0_ := mk0 (below_step (by repeat (with_reducible first | exact HB.out | apply b_a | apply b_n | apply b_d)) hb); have n1_ := mk0 (hbox); have n2_ := mk0 ((by rw [hg]; exact (below_size (by repeat (with_reducible first | exact HB.out | apply b_a | apply b_n | apply b_d))) : w.heap.size ≤ gb405)); have n3_ := mk0 ((by rw [hg]; exact (below_size (by repeat (with_reducible first | exact HB.out | apply b_a | apply b_n | apply b_d))) : w.heap.size ≤ gb405)); clear HB; have HB := n0_; have BK405 := n1_; have GW405 := n2_; have GE405 := n3_; clear n0_ n1_ n2_ n3_; clear hb hbox hg; have hcz6_0 : w5.cell? ⟨gb405, 0, none⟩ = some (.string a0_0) := (blk_cell BK405.out 0).trans rfl; have hcz6_1 : w5.cell? ⟨gb405, 1, none⟩ = some (.slice A0_1 l0_1.length c0_1) := (blk_cell BK405.out 1).trans rfl; have hfz6_0 := blk_frozen BK405.out 0; have hfz6_1 := blk_frozen BK405.out 1) | ((with_reducible refine gate_callee (f := 21) rfl ?_); refine goesL_ (some 11) rfl rfl Tryz.func21 (by kernel_rfl) rfl #[.agg #[.string a0_0, .slice A0_1 l0_1.length c0_1], .string a1] rfl (by (try simp only [List.map_toArray, List.map_cons, List.map_nil]); first | done | rfl) ?_; (with_reducible refine (r6_known.calls k a0_0 _ _ l0_1 a1 true _ ?side1 ?side2 A3.out).mono ?_); (case side1 => repeat (first | exact (Kd.C_below HR0_1.out HB.out) | (with_reducible refine Kd.C_alloc ?_ _) | (with_reducible refine Kd.C_drewN ?_ _) | (with_reducible refine Kd.C_drew ?_))); (case side2 => exact HC0_1.out); rintro e w7 ⟨rfl, hb⟩; refine ⟨_, rfl, ?_⟩; have n0_ := mk0 (blk_below (g := gb405) (o := .cells #[.string a0_0, .slice A0_1 l0_1.length c0_1] 24 (0, 0)) (by (with_reducible repeat (first | refine blk_drewN ?_ _ | refine blk_drew ?_ | refine blk_alloc ?_ _)); exact BK405.out) hb); have n1_ := mk0 (below_step (by repeat (with_reducible first | exact HB.out | apply b_a | apply b_n | apply b_d | refine below_set ?_ GE405.out)) hb); clear BK405; clear HB; have BK405 := n0_; have HB := n1_; clear n0_ n1_; (try clear hb); have hcz8_0 : w7.cell? ⟨gb405, 0, none⟩ = some (.string a0_0) := (blk_cell BK405.out 0).trans rfl; have hcz8_1 : w7.cell? ⟨gb405, 1, none⟩ = some (.slice A0_1 l0_1.length c0_1) := (blk_cell BK405.out 1).trans rfl; have hfz8_0 := blk_frozen BK405.out 0; have hfz8_1 := blk_frozen BK405.out 1))
  go_loopg [5, 16] k (fun kq v5 v16 w' => ∃ (x5_1 : List ByteArray) (x16_1 : Int), v16 = .int .i64 x16_1 ∧ Aside0 (r6_Leaves.l0 kq a1 x5_1 l0_1 (l0_1.length : Int) x16_1 a0_0 l0_1 = some r) ∧ Aside0 (kq ≤ k) ∧ Aside0 (Kd.R Kd.string 9 w' w.heap.size (fun _ => True) v5 x5_1) ∧ Aside0 (w'.heap[gb405]? = some (.cells #[.string a0_0, (.slice A0_1 l0_1.length c0_1)] 24 (0, 0))) ∧ Aside0 (Below w.heap.size w w'))
  case atStart => exact ⟨(([] : List ByteArray)), (0), (by first | rfl | (simp; done) | (simp [*]; done)), H', ⟨Nat.le_refl _⟩, ⟨by first | exact Kd.R_nil _ _ _ _ _ | exact Kd.N_nil _ _ _ _ _ | exact Kd.V_nil _ _ _ _ _ | exact Kd.Q_nil _ _ _ _ _ | exact Kd.S_nil _ _ _ _ _⟩, ⟨by (with_reducible repeat (first | refine blk_drewN ?_ _ | refine blk_drew ?_ | refine blk_alloc ?_ _)); exact BK405.out⟩, ⟨by repeat (first | (with_reducible first | exact HB.out | apply b_a | apply b_n | apply b_d | refine below_set ?_ GE405.out) | exact HB.out)⟩⟩
  case round =>
   clear H'
   try clear c1
   try clear c2
   try clear p2
   try clear c4
   try clear hcz6_0
   try clear hcz6_1
   try clear hcz8_0
   try clear hcz8_1
   try clear hfz6_0
   try clear hfz6_1
   try clear hfz8_0
   try clear hfz8_1
   obtain ⟨x5_1, x16_1, rfl, HA, HK1, HO_5, BK405, HB⟩ := hrel
   cases gk with
   | zero => exact absurd HA.out (by simp [r6_Leaves.l0])
   | succ k1 =>
    have H := HA.out
    clear HA
    simp only [r6_Leaves.l0] at H
    by_cases c9 : x16_1 < (l0_1.length : Int)
    ·rw [if_pos c9] at H
     have c9b0 : decide (x16_1 < (l0_1.length : Int)) = true := decide_eq_true c9
     clear c9
     by_cases c10 : 0 ≤ x16_1
     ·rw [if_pos c10] at H
      have c10b0 : decide (0 ≤ x16_1) = true := decide_eq_true c10
      clear c10
      by_cases c11 : x16_1 < (l0_1.length : Int)
      ·rw [if_pos c11] at H
       have c11b0 : decide (x16_1 < (l0_1.length : Int)) = true := decide_eq_true c11
       clear c11
       by_cases c12 : (wrap64 (x16_1 + 1)) = (l0_1.length : Int)
       ·rw [if_pos c12] at H
        have c12b0 : ((wrap64 (x16_1 + 1)) == (l0_1.length : Int)) = true := beq_iff_eq.mpr c12
        have c12b1 : ((wrap64 (x16_1 + 1)) != (l0_1.length : Int)) = false := bne_eq_false_iff_eq.mpr c12
        clear c12
        replace H := Option.bind_eq_some_iff.mp H
        obtain ⟨t408, A130, H⟩ := H
        replace H : (if t408 = true then (if x5_1.length < 8796093022208 then (r6_Leaves.l0 k1 a1 (x5_1 ++ [rdOf ByteArray.empty l0_1 x16_1]) l0_1 (l0_1.length : Int) (wrap64 (x16_1 + 1)) a0_0 l0_1) else (none)) else (r6_Leaves.l0 k1 a1 x5_1 l0_1 (l0_1.length : Int) (wrap64 (x16_1 + 1)) a0_0 l0_1)) = some r := H
        have A13 := mk0 A130
        clear A130
        by_cases c14 : t408 = true
        ·subst c14
         have H1 : (if x5_1.length < 8796093022208 then (r6_Leaves.l0 k1 a1 (x5_1 ++ [rdOf ByteArray.empty l0_1 x16_1]) l0_1 (l0_1.length : Int) (wrap64 (x16_1 + 1)) a0_0 l0_1) else (none)) = some r := by rw [if_pos rfl] at H; exact H
         clear H
         have H := H1
         clear H1
         by_cases c15 : x5_1.length < 8796093022208
         ·rw [if_pos c15] at H
          have LMc15 := mk0 c15
          clear c15
          obtain ⟨y409, hy409⟩ : ∃ y_ : List ByteArray, y_ = (x5_1 ++ [rdOf ByteArray.empty l0_1 x16_1]) := ⟨_, rfl⟩
          replace H : (r6_Leaves.l0 k1 a1 y409 l0_1 (l0_1.length : Int) (wrap64 (x16_1 + 1)) a0_0 l0_1) = some r := by first | (rw [hy409]; with_reducible exact H) | (have H2_ := (Option.bind_some _ _).symm.trans H; rw [hy409]; with_reducible exact H2_) | (have H2_ := (Option.bind_some _ _).symm.trans H; with_reducible exact H2_) | with_reducible exact H | (rw [hy409]; exact H) | exact H
          have Ny409 := mk0 hy409
          clear hy409
          have H' := mk0 H
          clear H
          have p407 : 0 ≤ (x16_1 : Int) := of_decide_eq_true (by assumption)
          have q407 : x16_1 < (l0_1.length : Int) := of_decide_eq_true (by assumption)
          obtain ⟨ad407, e407, hx407_0⟩ := Kd.at_string HR0_1.out x16_1 p407 q407
          cases e407
          replace hx407_0 := (HB.out.cell (World.block_lt_of_cell? w _ hx407_0)).trans hx407_0
          replace p407 := eq_true p407
          replace q407 := eq_true q407
          have hcz16_0 : wr.cell? ⟨gb405, 0, none⟩ = some (.string a0_0) := (blk_cell BK405.out 0).trans rfl
          have hcz16_1 : wr.cell? ⟨gb405, 1, none⟩ = some (.slice (some ad407) l0_1.length c0_1) := (blk_cell BK405.out 1).trans rfl
          have hfz16_0 := blk_frozen BK405.out 0
          have hfz16_1 := blk_frozen BK405.out 1
          go_wp2_with (first | (go_at_call 24; (with_reducible refine (r6_Within.calls k1 (rdOf ByteArray.empty l0_1 x16_1) a1 true _ A13.out).mono ?_); rintro e w17 ⟨rfl, hb⟩; have n0_ := mk0 (Kd.R_below (by (with_reducible repeat (first | apply r_a | apply r_n | apply r_d)); exact HO_5.out) hb); have n1_ := mk0 (blk_below (g := gb405) (o := .cells #[.string a0_0, .slice (some ad407) l0_1.length c0_1] 24 (0, 0)) (by (with_reducible repeat (first | refine blk_drewN ?_ _ | refine blk_drew ?_ | refine blk_alloc ?_ _)); exact BK405.out) hb); have n2_ := mk0 (below_step (by repeat (with_reducible first | exact HB.out | apply b_a | apply b_n | apply b_d | refine below_set ?_ GE405.out)) hb); clear HO_5; clear BK405; clear HB; have HO_5 := n0_; have BK405 := n1_; have HB := n2_; clear n0_ n1_ n2_; (try clear hb)) | ((with_reducible refine gate_builtin (b := .append) (xs := #[.tmp 44, .tmp 46]) rfl ?_); at_builtin; refine Kd.R_append Kd.string (w0 := w) w.heap.size rfl (.tmp 44) (.tmp 46) 22 9 (.string ⟨#[]⟩) 16 rfl Tryz.underlying22 info9 rfl (by decide) (by omega) u5 x5_1 (rdOf ByteArray.empty l0_1 x16_1) [.string (rdOf ByteArray.empty l0_1 x16_1)] (fun _ => True) (fun _ => False) rfl rfl ?aP (fun _ hk => hk.elim) ?aF ?aO ?aB ?aS ?aL ?_; (case aP => exact rfl); (case aB => exact (by repeat (with_reducible first | exact HB.out | apply b_a | apply b_n | apply b_d | refine below_set ?_ GE405.out))); (case aF => exact (fun _ _ => trivial)); (case aO => exact (by (with_reducible repeat (first | apply r_a | apply r_n | apply r_d)); exact HO_5.out)); (case aS => exact (below_size (by repeat (with_reducible first | exact HB.out | apply b_a | apply b_n | apply b_d | refine below_set ?_ GE405.out)))); (case aL => have := LMc15.out; omega); intro v410 w18 ho hb hg hat; rw [← Ny409.out] at ho; have n0_ := mk0 (blk_grown (g := gb405) (o := .cells #[.string a0_0, .slice (some ad407) l0_1.length c0_1] 24 (0, 0)) (by (with_reducible repeat (first | refine blk_drewN ?_ _ | refine blk_drew ?_ | refine blk_alloc ?_ _)); exact BK405.out) hg (Kd.R_ne HO_5.out BK405.out (by decide))); have n1_ := mk0 (hb); have n2_ := mk0 (ho); clear BK405; clear HB; clear HO_5; have BK405 := n0_; have HB := n1_; have HO411 := n2_; clear n0_ n1_ n2_; clear ho hb hg hat))
          go_roundg k1
          case measure => have := HK1.out; omega
          case rel => exact ⟨(y409), (wrap64 (x16_1 + 1)), (by first | rfl | (simp; done) | (simp [*]; done)), H', ⟨by have := HK1.out; omega⟩, ⟨by (with_reducible repeat (first | apply r_a | apply r_n | apply r_d)); exact HO411.out⟩, ⟨by (with_reducible repeat (first | refine blk_drewN ?_ _ | refine blk_drew ?_ | refine blk_alloc ?_ _)); exact BK405.out⟩, ⟨by repeat (first | (with_reducible first | exact HB.out | apply b_a | apply b_n | apply b_d | refine below_set ?_ GE405.out) | exact HB.out)⟩⟩
         ·rw [if_neg c15] at H
          exact absurd H (by simp)
        ·replace c14 := Bool.eq_false_iff.mpr c14
         subst c14
         have H1 : (r6_Leaves.l0 k1 a1 x5_1 l0_1 (l0_1.length : Int) (wrap64 (x16_1 + 1)) a0_0 l0_1) = some r := by rw [if_neg (show ¬ (false = true) by decide)] at H; exact H
         clear H
         have H := H1
         clear H1
         have H' := mk0 H
         clear H
         have p407 : 0 ≤ (x16_1 : Int) := of_decide_eq_true (by assumption)
         have q407 : x16_1 < (l0_1.length : Int) := of_decide_eq_true (by assumption)
         obtain ⟨ad407, e407, hx407_0⟩ := Kd.at_string HR0_1.out x16_1 p407 q407
         cases e407
         replace hx407_0 := (HB.out.cell (World.block_lt_of_cell? w _ hx407_0)).trans hx407_0
         replace p407 := eq_true p407
         replace q407 := eq_true q407
         have hcz19_0 : wr.cell? ⟨gb405, 0, none⟩ = some (.string a0_0) := (blk_cell BK405.out 0).trans rfl
         have hcz19_1 : wr.cell? ⟨gb405, 1, none⟩ = some (.slice (some ad407) l0_1.length c0_1) := (blk_cell BK405.out 1).trans rfl
         have hfz19_0 := blk_frozen BK405.out 0
         have hfz19_1 := blk_frozen BK405.out 1
         go_wp2_with (first | (go_at_call 24; (with_reducible refine (r6_Within.calls k1 (rdOf ByteArray.empty l0_1 x16_1) a1 false _ A13.out).mono ?_); rintro e w20 ⟨rfl, hb⟩; have n0_ := mk0 (Kd.R_below (by (with_reducible repeat (first | apply r_a | apply r_n | apply r_d)); exact HO_5.out) hb); have n1_ := mk0 (blk_below (g := gb405) (o := .cells #[.string a0_0, .slice (some ad407) l0_1.length c0_1] 24 (0, 0)) (by (with_reducible repeat (first | refine blk_drewN ?_ _ | refine blk_drew ?_ | refine blk_alloc ?_ _)); exact BK405.out) hb); have n2_ := mk0 (below_step (by repeat (with_reducible first | exact HB.out | apply b_a | apply b_n | apply b_d | refine below_set ?_ GE405.out)) hb); clear HO_5; clear BK405; clear HB; have HO_5 := n0_; have BK405 := n1_; have HB := n2_; clear n0_ n1_ n2_; (try clear hb); (try clear hb2); (try clear hk); (try clear hi)))
         go_roundg k1
         case measure => have := HK1.out; omega
         case rel => exact ⟨(x5_1), (wrap64 (x16_1 + 1)), (by first | rfl | (simp; done) | (simp [*]; done)), H', ⟨by have := HK1.out; omega⟩, ⟨by (with_reducible repeat (first | apply r_a | apply r_n | apply r_d)); exact HO_5.out⟩, ⟨by (with_reducible repeat (first | refine blk_drewN ?_ _ | refine blk_drew ?_ | refine blk_alloc ?_ _)); exact BK405.out⟩, ⟨by repeat (first | (with_reducible first | exact HB.out | apply b_a | apply b_n | apply b_d | refine below_set ?_ GE405.out) | exact HB.out)⟩⟩
       ·rw [if_neg c12] at H
        have c12b0 : ((wrap64 (x16_1 + 1)) == (l0_1.length : Int)) = false := beq_eq_false_iff_ne.mpr c12
        have c12b1 : ((wrap64 (x16_1 + 1)) != (l0_1.length : Int)) = true := bne_iff_ne.mpr c12
        obtain ⟨ji21, hji21⟩ : ∃ j_ : Int, (wrap64 (x16_1 + 1)) = j_ := ⟨_, rfl⟩
        replace H : (if 0 ≤ (ji21) then (if (ji21) < (l0_1.length : Int) then ((r6_Within.f k1 (rdOf ByteArray.empty l0_1 (ji21)) (rdOf ByteArray.empty l0_1 x16_1)).bind fun t413 => (if t413 = true then (r6_Leaves.l0 k1 a1 x5_1 l0_1 (l0_1.length : Int) ji21 a0_0 l0_1) else ((r6_Within.f k1 (rdOf ByteArray.empty l0_1 x16_1) a1).bind fun t414 => (if t414 = true then (if x5_1.length < 8796093022208 then (r6_Leaves.l0 k1 a1 (x5_1 ++ [rdOf ByteArray.empty l0_1 x16_1]) l0_1 (l0_1.length : Int) ji21 a0_0 l0_1) else (none)) else (r6_Leaves.l0 k1 a1 x5_1 l0_1 (l0_1.length : Int) ji21 a0_0 l0_1))))) else (none)) else (none)) = some r := by first | (rw [hji21] at H; exact H) | (simp only [hji21] at H ⊢; exact H)
        (try rw [hji21] at c12b0)
        (try rw [hji21] at c12b1)
        have hji21w : (IntKind.i64.wrap (x16_1 + 1)) = ji21 := (i64_w _).trans hji21
        by_cases c22 : 0 ≤ (ji21)
        ·rw [if_pos c22] at H
         have c22b0 : decide (0 ≤ (ji21)) = true := decide_eq_true c22
         clear c22
         by_cases c23 : (ji21) < (l0_1.length : Int)
         ·rw [if_pos c23] at H
          have c23b0 : decide ((ji21) < (l0_1.length : Int)) = true := decide_eq_true c23
          clear c23
          replace H := Option.bind_eq_some_iff.mp H
          obtain ⟨t413, A240, H⟩ := H
          replace H : (if t413 = true then (r6_Leaves.l0 k1 a1 x5_1 l0_1 (l0_1.length : Int) ji21 a0_0 l0_1) else ((r6_Within.f k1 (rdOf ByteArray.empty l0_1 x16_1) a1).bind fun t414 => (if t414 = true then (if x5_1.length < 8796093022208 then (r6_Leaves.l0 k1 a1 (x5_1 ++ [rdOf ByteArray.empty l0_1 x16_1]) l0_1 (l0_1.length : Int) ji21 a0_0 l0_1) else (none)) else (r6_Leaves.l0 k1 a1 x5_1 l0_1 (l0_1.length : Int) ji21 a0_0 l0_1)))) = some r := H
          have A24 := mk0 A240
          clear A240
          by_cases c25 : t413 = true
          ·subst c25
           have H1 : (r6_Leaves.l0 k1 a1 x5_1 l0_1 (l0_1.length : Int) ji21 a0_0 l0_1) = some r := by rw [if_pos rfl] at H; exact H
           clear H
           have H := H1
           clear H1
           have H' := mk0 H
           clear H
           have p407 : 0 ≤ (x16_1 : Int) := of_decide_eq_true (by assumption)
           have q407 : x16_1 < (l0_1.length : Int) := of_decide_eq_true (by assumption)
           obtain ⟨ad407, e407, hx407_0⟩ := Kd.at_string HR0_1.out x16_1 p407 q407
           cases e407
           replace hx407_0 := (HB.out.cell (World.block_lt_of_cell? w _ hx407_0)).trans hx407_0
           replace p407 := eq_true p407
           replace q407 := eq_true q407
           have hcz26_0 : wr.cell? ⟨gb405, 0, none⟩ = some (.string a0_0) := (blk_cell BK405.out 0).trans rfl
           have hcz26_1 : wr.cell? ⟨gb405, 1, none⟩ = some (.slice (some ad407) l0_1.length c0_1) := (blk_cell BK405.out 1).trans rfl
           have hfz26_0 := blk_frozen BK405.out 0
           have hfz26_1 := blk_frozen BK405.out 1
           have p412 : 0 ≤ ((ji21) : Int) := of_decide_eq_true (by assumption)
           have q412 : (ji21) < (l0_1.length : Int) := of_decide_eq_true (by assumption)
           obtain ⟨ad412, e412, hx412_0⟩ := Kd.at_string HR0_1.out (ji21) p412 q412
           obtain rfl : ad407 = ad412 := (by injection e412)
           replace hx412_0 := (HB.out.cell (World.block_lt_of_cell? w _ hx412_0)).trans hx412_0
           replace p412 := eq_true p412
           replace q412 := eq_true q412
           go_wp2_with (first | (go_at_call 24; (with_reducible refine (r6_Within.calls k1 (rdOf ByteArray.empty l0_1 (ji21)) (rdOf ByteArray.empty l0_1 x16_1) true _ A24.out).mono ?_); rintro e w27 ⟨rfl, hb⟩; have n0_ := mk0 (Kd.R_below (by (with_reducible repeat (first | apply r_a | apply r_n | apply r_d)); exact HO_5.out) hb); have n1_ := mk0 (blk_below (g := gb405) (o := .cells #[.string a0_0, .slice (some ad407) l0_1.length c0_1] 24 (0, 0)) (by (with_reducible repeat (first | refine blk_drewN ?_ _ | refine blk_drew ?_ | refine blk_alloc ?_ _)); exact BK405.out) hb); have n2_ := mk0 (below_step (by repeat (with_reducible first | exact HB.out | apply b_a | apply b_n | apply b_d | refine below_set ?_ GE405.out)) hb); clear HO_5; clear BK405; clear HB; have HO_5 := n0_; have BK405 := n1_; have HB := n2_; clear n0_ n1_ n2_; (try clear hb); (try clear hb2); (try clear hk); (try clear hi)))
           go_roundg k1
           case measure => have := HK1.out; omega
           case rel => exact ⟨(x5_1), (ji21), (by first | rfl | (simp; done) | (simp only [← hji21] <;> (first | rfl | simp)) | (simp [*]; done)), H', ⟨by have := HK1.out; omega⟩, ⟨by (with_reducible repeat (first | apply r_a | apply r_n | apply r_d)); exact HO_5.out⟩, ⟨by (with_reducible repeat (first | refine blk_drewN ?_ _ | refine blk_drew ?_ | refine blk_alloc ?_ _)); exact BK405.out⟩, ⟨by repeat (first | (with_reducible first | exact HB.out | apply b_a | apply b_n | apply b_d | refine below_set ?_ GE405.out) | exact HB.out)⟩⟩
          ·replace c25 := Bool.eq_false_iff.mpr c25
           subst c25
           have H1 : ((r6_Within.f k1 (rdOf ByteArray.empty l0_1 x16_1) a1).bind fun t414 => (if t414 = true then (if x5_1.length < 8796093022208 then (r6_Leaves.l0 k1 a1 (x5_1 ++ [rdOf ByteArray.empty l0_1 x16_1]) l0_1 (l0_1.length : Int) ji21 a0_0 l0_1) else (none)) else (r6_Leaves.l0 k1 a1 x5_1 l0_1 (l0_1.length : Int) ji21 a0_0 l0_1))) = some r := by rw [if_neg (show ¬ (false = true) by decide)] at H; exact H
           clear H
           have H := H1
           clear H1
           replace H := Option.bind_eq_some_iff.mp H
           obtain ⟨t414, A280, H⟩ := H
           replace H : (if t414 = true then (if x5_1.length < 8796093022208 then (r6_Leaves.l0 k1 a1 (x5_1 ++ [rdOf ByteArray.empty l0_1 x16_1]) l0_1 (l0_1.length : Int) ji21 a0_0 l0_1) else (none)) else (r6_Leaves.l0 k1 a1 x5_1 l0_1 (l0_1.length : Int) ji21 a0_0 l0_1)) = some r := H
           have A28 := mk0 A280
           clear A280
           by_cases c29 : t414 = true
           ·subst c29
            have H1 : (if x5_1.length < 8796093022208 then (r6_Leaves.l0 k1 a1 (x5_1 ++ [rdOf ByteArray.empty l0_1 x16_1]) l0_1 (l0_1.length : Int) ji21 a0_0 l0_1) else (none)) = some r := by rw [if_pos rfl] at H; exact H
            clear H
            have H := H1
            clear H1
            by_cases c30 : x5_1.length < 8796093022208
            ·rw [if_pos c30] at H
             have LMc30 := mk0 c30
             clear c30
             obtain ⟨y415, hy415⟩ : ∃ y_ : List ByteArray, y_ = (x5_1 ++ [rdOf ByteArray.empty l0_1 x16_1]) := ⟨_, rfl⟩
             replace H : (r6_Leaves.l0 k1 a1 y415 l0_1 (l0_1.length : Int) ji21 a0_0 l0_1) = some r := by first | (rw [hy415]; with_reducible exact H) | (have H2_ := (Option.bind_some _ _).symm.trans H; rw [hy415]; with_reducible exact H2_) | (have H2_ := (Option.bind_some _ _).symm.trans H; with_reducible exact H2_) | with_reducible exact H | (rw [hy415]; exact H) | exact H
             have Ny415 := mk0 hy415
             clear hy415
             have H' := mk0 H
             clear H
             have p407 : 0 ≤ (x16_1 : Int) := of_decide_eq_true (by assumption)
             have q407 : x16_1 < (l0_1.length : Int) := of_decide_eq_true (by assumption)
             obtain ⟨ad407, e407, hx407_0⟩ := Kd.at_string HR0_1.out x16_1 p407 q407
             cases e407
             replace hx407_0 := (HB.out.cell (World.block_lt_of_cell? w _ hx407_0)).trans hx407_0
             replace p407 := eq_true p407
             replace q407 := eq_true q407
             have hcz31_0 : wr.cell? ⟨gb405, 0, none⟩ = some (.string a0_0) := (blk_cell BK405.out 0).trans rfl
             have hcz31_1 : wr.cell? ⟨gb405, 1, none⟩ = some (.slice (some ad407) l0_1.length c0_1) := (blk_cell BK405.out 1).trans rfl
             have hfz31_0 := blk_frozen BK405.out 0
             have hfz31_1 := blk_frozen BK405.out 1
             have p412 : 0 ≤ ((ji21) : Int) := of_decide_eq_true (by assumption)
             have q412 : (ji21) < (l0_1.length : Int) := of_decide_eq_true (by assumption)
             obtain ⟨ad412, e412, hx412_0⟩ := Kd.at_string HR0_1.out (ji21) p412 q412
             obtain rfl : ad407 = ad412 := (by injection e412)
             replace hx412_0 := (HB.out.cell (World.block_lt_of_cell? w _ hx412_0)).trans hx412_0
             replace p412 := eq_true p412
             replace q412 := eq_true q412
             go_wp2_with (first | (go_at_call 24; (with_reducible refine (r6_Within.calls k1 (rdOf ByteArray.empty l0_1 (ji21)) (rdOf ByteArray.empty l0_1 x16_1) false _ A24.out).mono ?_); rintro e w32 ⟨rfl, hb⟩; have n0_ := mk0 (Kd.R_below (by (with_reducible repeat (first | apply r_a | apply r_n | apply r_d)); exact HO_5.out) hb); have n1_ := mk0 (blk_below (g := gb405) (o := .cells #[.string a0_0, .slice (some ad407) l0_1.length c0_1] 24 (0, 0)) (by (with_reducible repeat (first | refine blk_drewN ?_ _ | refine blk_drew ?_ | refine blk_alloc ?_ _)); exact BK405.out) hb); have n2_ := mk0 (below_step (by repeat (with_reducible first | exact HB.out | apply b_a | apply b_n | apply b_d | refine below_set ?_ GE405.out)) hb); clear HO_5; clear BK405; clear HB; have HO_5 := n0_; have BK405 := n1_; have HB := n2_; clear n0_ n1_ n2_; (try clear hb)) | (go_at_call 24; (with_reducible refine (r6_Within.calls k1 (rdOf ByteArray.empty l0_1 x16_1) a1 true _ A28.out).mono ?_); rintro e w33 ⟨rfl, hb⟩; have n0_ := mk0 (Kd.R_below (by (with_reducible repeat (first | apply r_a | apply r_n | apply r_d)); exact HO_5.out) hb); have n1_ := mk0 (blk_below (g := gb405) (o := .cells #[.string a0_0, .slice (some ad407) l0_1.length c0_1] 24 (0, 0)) (by (with_reducible repeat (first | refine blk_drewN ?_ _ | refine blk_drew ?_ | refine blk_alloc ?_ _)); exact BK405.out) hb); have n2_ := mk0 (below_step (by repeat (with_reducible first | exact HB.out | apply b_a | apply b_n | apply b_d | refine below_set ?_ GE405.out)) hb); clear HO_5; clear BK405; clear HB; have HO_5 := n0_; have BK405 := n1_; have HB := n2_; clear n0_ n1_ n2_; (try clear hb)) | ((with_reducible refine gate_builtin (b := .append) (xs := #[.tmp 44, .tmp 46]) rfl ?_); at_builtin; refine Kd.R_append Kd.string (w0 := w) w.heap.size rfl (.tmp 44) (.tmp 46) 22 9 (.string ⟨#[]⟩) 16 rfl Tryz.underlying22 info9 rfl (by decide) (by omega) u5 x5_1 (rdOf ByteArray.empty l0_1 x16_1) [.string (rdOf ByteArray.empty l0_1 x16_1)] (fun _ => True) (fun _ => False) rfl rfl ?aP (fun _ hk => hk.elim) ?aF ?aO ?aB ?aS ?aL ?_; (case aP => exact rfl); (case aB => exact (by repeat (with_reducible first | exact HB.out | apply b_a | apply b_n | apply b_d | refine below_set ?_ GE405.out))); (case aF => exact (fun _ _ => trivial)); (case aO => exact (by (with_reducible repeat (first | apply r_a | apply r_n | apply r_d)); exact HO_5.out)); (case aS => exact (below_size (by repeat (with_reducible first | exact HB.out | apply b_a | apply b_n | apply b_d | refine below_set ?_ GE405.out)))); (case aL => have := LMc30.out; omega); intro v416 w34 ho hb hg hat; rw [← Ny415.out] at ho; have n0_ := mk0 (blk_grown (g := gb405) (o := .cells #[.string a0_0, .slice (some ad407) l0_1.length c0_1] 24 (0, 0)) (by (with_reducible repeat (first | refine blk_drewN ?_ _ | refine blk_drew ?_ | refine blk_alloc ?_ _)); exact BK405.out) hg (Kd.R_ne HO_5.out BK405.out (by decide))); have n1_ := mk0 (hb); have n2_ := mk0 (ho); clear BK405; clear HB; clear HO_5; have BK405 := n0_; have HB := n1_; have HO417 := n2_; clear n0_ n1_ n2_; clear ho hb hg hat))
             go_roundg k1
             case measure => have := HK1.out; omega
             case rel => exact ⟨(y415), (ji21), (by first | rfl | (simp; done) | (simp only [← hji21] <;> (first | rfl | simp)) | (simp [*]; done)), H', ⟨by have := HK1.out; omega⟩, ⟨by (with_reducible repeat (first | apply r_a | apply r_n | apply r_d)); exact HO417.out⟩, ⟨by (with_reducible repeat (first | refine blk_drewN ?_ _ | refine blk_drew ?_ | refine blk_alloc ?_ _)); exact BK405.out⟩, ⟨by repeat (first | (with_reducible first | exact HB.out | apply b_a | apply b_n | apply b_d | refine below_set ?_ GE405.out) | exact HB.out)⟩⟩
            ·rw [if_neg c30] at H
             exact absurd H (by simp)
           ·replace c29 := Bool.eq_false_iff.mpr c29
            subst c29
            have H1 : (r6_Leaves.l0 k1 a1 x5_1 l0_1 (l0_1.length : Int) ji21 a0_0 l0_1) = some r := by rw [if_neg (show ¬ (false = true) by decide)] at H; exact H
            clear H
            have H := H1
            clear H1
            have H' := mk0 H
            clear H
            have p407 : 0 ≤ (x16_1 : Int) := of_decide_eq_true (by assumption)
            have q407 : x16_1 < (l0_1.length : Int) := of_decide_eq_true (by assumption)
            obtain ⟨ad407, e407, hx407_0⟩ := Kd.at_string HR0_1.out x16_1 p407 q407
            cases e407
            replace hx407_0 := (HB.out.cell (World.block_lt_of_cell? w _ hx407_0)).trans hx407_0
            replace p407 := eq_true p407
            replace q407 := eq_true q407
            have hcz35_0 : wr.cell? ⟨gb405, 0, none⟩ = some (.string a0_0) := (blk_cell BK405.out 0).trans rfl
            have hcz35_1 : wr.cell? ⟨gb405, 1, none⟩ = some (.slice (some ad407) l0_1.length c0_1) := (blk_cell BK405.out 1).trans rfl
            have hfz35_0 := blk_frozen BK405.out 0
            have hfz35_1 := blk_frozen BK405.out 1
            have p412 : 0 ≤ ((ji21) : Int) := of_decide_eq_true (by assumption)
            have q412 : (ji21) < (l0_1.length : Int) := of_decide_eq_true (by assumption)
            obtain ⟨ad412, e412, hx412_0⟩ := Kd.at_string HR0_1.out (ji21) p412 q412
            obtain rfl : ad407 = ad412 := (by injection e412)
            replace hx412_0 := (HB.out.cell (World.block_lt_of_cell? w _ hx412_0)).trans hx412_0
            replace p412 := eq_true p412
            replace q412 := eq_true q412
            go_wp2_with (first | (go_at_call 24; (with_reducible refine (r6_Within.calls k1 (rdOf ByteArray.empty l0_1 (ji21)) (rdOf ByteArray.empty l0_1 x16_1) false _ A24.out).mono ?_); rintro e w36 ⟨rfl, hb⟩; have n0_ := mk0 (Kd.R_below (by (with_reducible repeat (first | apply r_a | apply r_n | apply r_d)); exact HO_5.out) hb); have n1_ := mk0 (blk_below (g := gb405) (o := .cells #[.string a0_0, .slice (some ad407) l0_1.length c0_1] 24 (0, 0)) (by (with_reducible repeat (first | refine blk_drewN ?_ _ | refine blk_drew ?_ | refine blk_alloc ?_ _)); exact BK405.out) hb); have n2_ := mk0 (below_step (by repeat (with_reducible first | exact HB.out | apply b_a | apply b_n | apply b_d | refine below_set ?_ GE405.out)) hb); clear HO_5; clear BK405; clear HB; have HO_5 := n0_; have BK405 := n1_; have HB := n2_; clear n0_ n1_ n2_; (try clear hb); (try clear hb2); (try clear hk); (try clear hi)) | (go_at_call 24; (with_reducible refine (r6_Within.calls k1 (rdOf ByteArray.empty l0_1 x16_1) a1 false _ A28.out).mono ?_); rintro e w37 ⟨rfl, hb⟩; have n0_ := mk0 (Kd.R_below (by (with_reducible repeat (first | apply r_a | apply r_n | apply r_d)); exact HO_5.out) hb); have n1_ := mk0 (blk_below (g := gb405) (o := .cells #[.string a0_0, .slice (some ad407) l0_1.length c0_1] 24 (0, 0)) (by (with_reducible repeat (first | refine blk_drewN ?_ _ | refine blk_drew ?_ | refine blk_alloc ?_ _)); exact BK405.out) hb); have n2_ := mk0 (below_step (by repeat (with_reducible first | exact HB.out | apply b_a | apply b_n | apply b_d | refine below_set ?_ GE405.out)) hb); clear HO_5; clear BK405; clear HB; have HO_5 := n0_; have BK405 := n1_; have HB := n2_; clear n0_ n1_ n2_; (try clear hb); (try clear hb2); (try clear hk); (try clear hi)))
            go_roundg k1
            case measure => have := HK1.out; omega
            case rel => exact ⟨(x5_1), (ji21), (by first | rfl | (simp; done) | (simp only [← hji21] <;> (first | rfl | simp)) | (simp [*]; done)), H', ⟨by have := HK1.out; omega⟩, ⟨by (with_reducible repeat (first | apply r_a | apply r_n | apply r_d)); exact HO_5.out⟩, ⟨by (with_reducible repeat (first | refine blk_drewN ?_ _ | refine blk_drew ?_ | refine blk_alloc ?_ _)); exact BK405.out⟩, ⟨by repeat (first | (with_reducible first | exact HB.out | apply b_a | apply b_n | apply b_d | refine below_set ?_ GE405.out) | exact HB.out)⟩⟩
         ·rw [if_neg c23] at H
          exact absurd H (by simp)
        ·rw [if_neg c22] at H
         exact absurd H (by simp)
      ·rw [if_neg c11] at H
       exact absurd H (by simp)
     ·rw [if_neg c10] at H
      exact absurd H (by simp)
    ·rw [if_neg c9] at H
     have c9b0 : decide (x16_1 < (l0_1.length : Int)) = false := decide_eq_false c9
     clear c9
     obtain rfl := Option.some.inj H
     go_wp2
     go_ret
     exact ⟨_, by first | rfl | (simp [errW_none, errW_some] <;> rfl) | (simp [*, errW_none, errW_some] <;> rfl), by (with_reducible repeat (first | apply r_a | apply r_n | apply r_d)); exact HO_5.out, by repeat (first | (with_reducible first | exact HB.out | apply b_a | apply b_n | apply b_d | refine below_set ?_ GE405.out) | exact HB.out)⟩
 ·replace c4 := Bool.eq_false_iff.mpr c4
  subst c4
  have H1 : (some ([] : List ByteArray)) = some r := by rw [if_neg (show ¬ (false = true) by decide)] at H; exact H
  clear H
  have H := H1
  clear H1
  obtain rfl := Option.some.inj H
  go_enter Tryz.func11, Tryz.ntmps11
  go_wp2_with (first | ((with_reducible refine gate_dst (N := 2) rfl ?_); refine box_event ?hg (N := 2) ?hd (cs := #[.string a0_0, .slice A0_1 l0_1.length c0_1]) (t := 24) ?hr ?_; (case hd => rfl); (case hg => rfl); (case hr => first | (go_simp; done) | (go_simp; rfl)); intro gb405 hg w38 hbox hb; have n0_ := mk0 (below_step (by repeat (with_reducible first | exact HB.out | apply b_a | apply b_n | apply b_d)) hb); have n1_ := mk0 (hbox); have n2_ := mk0 ((by rw [hg]; exact (below_size (by repeat (with_reducible first | exact HB.out | apply b_a | apply b_n | apply b_d))) : w.heap.size ≤ gb405)); have n3_ := mk0 ((by rw [hg]; exact (below_size (by repeat (with_reducible first | exact HB.out | apply b_a | apply b_n | apply b_d))) : w.heap.size ≤ gb405)); clear HB; have HB := n0_; have BK405 := n1_; have GW405 := n2_; have GE405 := n3_; clear n0_ n1_ n2_ n3_; clear hb hbox hg; have hcz39_0 : w38.cell? ⟨gb405, 0, none⟩ = some (.string a0_0) := (blk_cell BK405.out 0).trans rfl; have hcz39_1 : w38.cell? ⟨gb405, 1, none⟩ = some (.slice A0_1 l0_1.length c0_1) := (blk_cell BK405.out 1).trans rfl; have hfz39_0 := blk_frozen BK405.out 0; have hfz39_1 := blk_frozen BK405.out 1) | ((with_reducible refine gate_callee (f := 21) rfl ?_); refine goesL_ (some 11) rfl rfl Tryz.func21 (by kernel_rfl) rfl #[.agg #[.string a0_0, .slice A0_1 l0_1.length c0_1], .string a1] rfl (by (try simp only [List.map_toArray, List.map_cons, List.map_nil]); first | done | rfl) ?_; (with_reducible refine (r6_known.calls k a0_0 _ _ l0_1 a1 false _ ?side1 ?side2 A3.out).mono ?_); (case side1 => repeat (first | exact (Kd.C_below HR0_1.out HB.out) | (with_reducible refine Kd.C_alloc ?_ _) | (with_reducible refine Kd.C_drewN ?_ _) | (with_reducible refine Kd.C_drew ?_))); (case side2 => exact HC0_1.out); rintro e w40 ⟨rfl, hb⟩; refine ⟨_, rfl, ?_⟩; have n0_ := mk0 (blk_below (g := gb405) (o := .cells #[.string a0_0, .slice A0_1 l0_1.length c0_1] 24 (0, 0)) (by (with_reducible repeat (first | refine blk_drewN ?_ _ | refine blk_drew ?_ | refine blk_alloc ?_ _)); exact BK405.out) hb); have n1_ := mk0 (below_step (by repeat (with_reducible first | exact HB.out | apply b_a | apply b_n | apply b_d | refine below_set ?_ GE405.out)) hb); clear BK405; clear HB; have BK405 := n0_; have HB := n1_; clear n0_ n1_; (try clear hb)))
  go_ret
  exact ⟨_, by first | rfl | (simp [errW_none, errW_some] <;> rfl) | (simp [*, errW_none, errW_some] <;> rfl), by first | exact Kd.R_nil _ _ _ _ _ | exact Kd.N_nil _ _ _ _ _ | exact Kd.V_nil _ _ _ _ _ | exact Kd.Q_nil _ _ _ _ _ | exact Kd.S_nil _ _ _ _ _, by repeat (first | (with_reducible first | exact HB.out | apply b_a | apply b_n | apply b_d | refine below_set ?_ GE405.out) | exact HB.out)⟩

end Go.Proofs.YtpnoliognpmkmaaGreatDoor.P
