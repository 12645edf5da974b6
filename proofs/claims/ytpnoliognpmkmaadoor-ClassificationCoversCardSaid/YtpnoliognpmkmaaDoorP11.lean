/- Lean functions with the same answers as the program's Go functions, and for each the proof that the call comes to these answers; written by a program of mine out of the translation, the functions marked 'by hand' by me. -/
import Derived.Test.YtpnoliognpmkmaaDoorP0
import Derived.Test.YtpnoliognpmkmaaDoorP4
import Derived.Test.YtpnoliognpmkmaaDoorP7
namespace Go.Proofs.YtpnoliognpmkmaaDoor.P
open Go.RowKit Go.Proofs.YtpnoliognpmkmaaDoorW.PrintWords Go.Proofs.YtpnoliognpmkmaaDoorW.PrintLast Go.Proofs.YtpnoliognpmkmaaDoorW.PrintMore
attribute [local go_sem] max2_int min2_int max_two min_two max_three min_three max_four min_four   -- for this text's walks alone
set_option linter.unusedVariables false
set_option linter.unusedSimpArgs false

/-! ### priceofficeref06_SameStrings: function 16 -/
def priceofficeref06_SameStrings.l0 : Nat → List ByteArray → List ByteArray → Int → Int → Option (Bool)
 | 0, _, _, _, _ => none
 | k + 1, x0, x1, x12, x13 => if x13 < x12 then (if 0 ≤ x13 then (if x13 < (x0.length : Int) then (if x13 < (x1.length : Int) then (if (rdOf ByteArray.empty x0 x13).toList = (rdOf ByteArray.empty x1 x13).toList then (priceofficeref06_SameStrings.l0 k x0 x1 x12 (wrap64 (x13 + 1))) else (some false)) else (none)) else (none)) else (none)) else (some true)
def priceofficeref06_SameStrings.f (k : Nat) (l0 : List ByteArray) (l1 : List ByteArray) : Option (Bool) := if (l0.length : Int) = (l1.length : Int) then (priceofficeref06_SameStrings.l0 k l0 l1 (l0.length : Int) 0) else (some false)
theorem priceofficeref06_SameStrings.mono_l : ∀ k, (∀ y0 y1 y2 y3, LeO (priceofficeref06_SameStrings.l0 k y0 y1 y2 y3) (priceofficeref06_SameStrings.l0 (k + 1) y0 y1 y2 y3))
 | 0 => fun _ _ _ _ r h => by simp [priceofficeref06_SameStrings.l0] at h
 | k + 1 => by
  have ih0 := priceofficeref06_SameStrings.mono_l k
  ·intro y0 y1 y2 y3
   unfold priceofficeref06_SameStrings.l0
   repeat' first
   | (with_reducible exact ih0 _ _ _ _)
   | (with_reducible exact LeO.refl _)
   | (with_reducible exact LeO.none _)
   | (with_reducible refine LeO.ite ?_ ?_)
   | (with_reducible refine LeO.bind ?_ (fun _ => ?_))
   | exact ih0 _ _ _ _
   | exact LeO.none _
   | refine LeO.ite ?_ ?_
   | refine LeO.bind ?_ (fun _ => ?_)
theorem priceofficeref06_SameStrings.mono : ∀ a0 a1 k, LeO (priceofficeref06_SameStrings.f k a0 a1) (priceofficeref06_SameStrings.f (k + 1) a0 a1) := by
 intro a0 a1 k
 have ih0 := priceofficeref06_SameStrings.mono_l k
 unfold priceofficeref06_SameStrings.f
 repeat' first
   | (with_reducible exact ih0 _ _ _ _)
   | (with_reducible exact LeO.refl _)
   | (with_reducible exact LeO.none _)
   | (with_reducible refine LeO.ite ?_ ?_)
   | (with_reducible refine LeO.bind ?_ (fun _ => ?_))
   | exact ih0 _ _ _ _
   | exact LeO.none _
   | refine LeO.ite ?_ ?_
   | refine LeO.bind ?_ (fun _ => ?_)
set_option maxHeartbeats 8000000 in
set_option maxRecDepth 100000 in
theorem priceofficeref06_SameStrings.calls (k : Nat) (A0 : Option Addr) (c0 : Nat) (l0 : List ByteArray) (A1 : Option Addr) (c1 : Nat) (l1 : List ByteArray) (r : Bool) (w : World) (hr0 : Kd.C Kd.string w A0 l0.length l0) (hc0 : l0.length ≤ c0) (hr1 : Kd.C Kd.string w A1 l1.length l1) (hc1 : l1.length ≤ c1) (h : priceofficeref06_SameStrings.f k l0 l1 = some r) :
  Calls Tryd.prog 16 #[.slice A0 l0.length c0, .slice A1 l1.length c1] w fun e w' => e = .returned (.bool r) ∧ Drawn0 w w' := by
 have HR0 := mk0 hr0
 have HC0 := mk0 hc0
 clear hr0 hc0
 have HR1 := mk0 hr1
 have HC1 := mk0 hc1
 clear hr1 hc1
 have H : (if (l0.length : Int) = (l1.length : Int) then (priceofficeref06_SameStrings.l0 k l0 l1 (l0.length : Int) 0) else (some false)) = some r := h
 clear h
 by_cases c3 : (l0.length : Int) = (l1.length : Int)
 ·rw [if_pos c3] at H
  have c3b0 : ((l0.length : Int) == (l1.length : Int)) = true := beq_iff_eq.mpr c3
  have c3b1 : ((l0.length : Int) != (l1.length : Int)) = false := bne_eq_false_iff_eq.mpr c3
  have c3b2 : (l0.length == l1.length) = true := by first | simpa using c3 | (simp at c3 ⊢; omega)
  clear c3
  have H' := mk0 H
  clear H
  go_enter Tryd.func16, Tryd.ntmps16
  go_wp2
  repeat (go_quiet (fail); try go_wp2)
  go_loopg [13] k (fun kq v13 w' => ∃ (x13_1 : Int), v13 = .int .i64 x13_1 ∧ Aside0 (priceofficeref06_SameStrings.l0 kq l0 l1 (l0.length : Int) x13_1 = some r) ∧ Aside0 (kq ≤ k) ∧ Drawn0 w w')
  case atStart => exact ⟨(0), (by first | rfl | (simp; done) | (simp [*]; done)), H', ⟨Nat.le_refl _⟩, by repeat (first | exact Drawn0.refl _ | apply Drawn0.step)⟩
  case round =>
   clear H'
   try clear c1
   try clear p2
   try clear c3
   try clear c3b0
   try clear c3b1
   try clear c3b2
   obtain ⟨x13_1, rfl, HA, HK1, ⟨m1, rfl⟩⟩ := hrel
   cases gk with
   | zero => exact absurd HA.out (by simp [priceofficeref06_SameStrings.l0])
   | succ k1 =>
    have H := HA.out
    clear HA
    simp only [priceofficeref06_SameStrings.l0] at H
    by_cases c4 : x13_1 < (l0.length : Int)
    ·rw [if_pos c4] at H
     have c4b0 : decide (x13_1 < (l0.length : Int)) = true := decide_eq_true c4
     clear c4
     by_cases c5 : 0 ≤ x13_1
     ·rw [if_pos c5] at H
      have c5b0 : decide (0 ≤ x13_1) = true := decide_eq_true c5
      clear c5
      by_cases c6 : x13_1 < (l0.length : Int)
      ·rw [if_pos c6] at H
       have c6b0 : decide (x13_1 < (l0.length : Int)) = true := decide_eq_true c6
       clear c6
       by_cases c7 : x13_1 < (l1.length : Int)
       ·rw [if_pos c7] at H
        have c7b0 : decide (x13_1 < (l1.length : Int)) = true := decide_eq_true c7
        clear c7
        by_cases c8 : (rdOf ByteArray.empty l0 x13_1).toList = (rdOf ByteArray.empty l1 x13_1).toList
        ·rw [if_pos c8] at H
         have c8b0 : ((rdOf ByteArray.empty l0 x13_1).toList == (rdOf ByteArray.empty l1 x13_1).toList) = true := beq_iff_eq.mpr c8
         have c8b1 : ((rdOf ByteArray.empty l0 x13_1).toList != (rdOf ByteArray.empty l1 x13_1).toList) = false := bne_eq_false_iff_eq.mpr c8
         clear c8
         have H' := mk0 H
         clear H
         have p289 : 0 ≤ (x13_1 : Int) := of_decide_eq_true (by first | (with_reducible assumption) | assumption)
         have q289 : x13_1 < (l0.length : Int) := of_decide_eq_true (by first | (with_reducible assumption) | assumption)
         obtain ⟨ad289, e289, hx289_0⟩ := Kd.at_string HR0.out x13_1 p289 q289
         cases e289
         replace p289 := eq_true p289
         replace q289 := eq_true q289
         have p290 : 0 ≤ (x13_1 : Int) := of_decide_eq_true (by first | (with_reducible assumption) | assumption)
         have q290 : x13_1 < (l1.length : Int) := of_decide_eq_true (by first | (with_reducible assumption) | assumption)
         obtain ⟨ad290, e290, hx290_0⟩ := Kd.at_string HR1.out x13_1 p290 q290
         cases e290
         replace p290 := eq_true p290
         replace q290 := eq_true q290
         go_wp2
         repeat (go_quiet (fail); try go_wp2)
         go_roundg k1
         case measure => have := HK1.out; omega
         case rel => exact ⟨(wrap64 (x13_1 + 1)), (by first | rfl | (simp; done) | (simp [*]; done)), H', ⟨by have := HK1.out; omega⟩, by repeat (first | exact Drawn0.refl _ | apply Drawn0.step)⟩
        ·rw [if_neg c8] at H
         have c8b0 : ((rdOf ByteArray.empty l0 x13_1).toList == (rdOf ByteArray.empty l1 x13_1).toList) = false := beq_eq_false_iff_ne.mpr c8
         have c8b1 : ((rdOf ByteArray.empty l0 x13_1).toList != (rdOf ByteArray.empty l1 x13_1).toList) = true := bne_iff_ne.mpr c8
         obtain rfl := Option.some.inj H
         have p289 : 0 ≤ (x13_1 : Int) := of_decide_eq_true (by first | (with_reducible assumption) | assumption)
         have q289 : x13_1 < (l0.length : Int) := of_decide_eq_true (by first | (with_reducible assumption) | assumption)
         obtain ⟨ad289, e289, hx289_0⟩ := Kd.at_string HR0.out x13_1 p289 q289
         cases e289
         replace p289 := eq_true p289
         replace q289 := eq_true q289
         have p290 : 0 ≤ (x13_1 : Int) := of_decide_eq_true (by first | (with_reducible assumption) | assumption)
         have q290 : x13_1 < (l1.length : Int) := of_decide_eq_true (by first | (with_reducible assumption) | assumption)
         obtain ⟨ad290, e290, hx290_0⟩ := Kd.at_string HR1.out x13_1 p290 q290
         cases e290
         replace p290 := eq_true p290
         replace q290 := eq_true q290
         go_wp2
         repeat (go_quiet (fail); try go_wp2)
         go_ret
         exact ⟨by first | rfl | (simp; done) | (simp [*]; done), by repeat (first | exact Drawn0.refl _ | apply Drawn0.step)⟩
       ·rw [if_neg c7] at H
        exact absurd H (by simp)
      ·rw [if_neg c6] at H
       exact absurd H (by simp)
     ·rw [if_neg c5] at H
      exact absurd H (by simp)
    ·rw [if_neg c4] at H
     have c4b0 : decide (x13_1 < (l0.length : Int)) = false := decide_eq_false c4
     clear c4
     obtain rfl := Option.some.inj H
     go_wp2
     repeat (go_quiet (fail); try go_wp2)
     go_ret
     exact ⟨by first | rfl | (simp; done) | (simp [*]; done), by repeat (first | exact Drawn0.refl _ | apply Drawn0.step)⟩
 ·rw [if_neg c3] at H
  have c3b0 : ((l0.length : Int) == (l1.length : Int)) = false := beq_eq_false_iff_ne.mpr c3
  have c3b1 : ((l0.length : Int) != (l1.length : Int)) = true := bne_iff_ne.mpr c3
  have c3b2 : (l0.length == l1.length) = false := by first | simpa using c3 | (simp at c3 ⊢; omega)
  obtain rfl := Option.some.inj H
  go_enter Tryd.func16, Tryd.ntmps16
  go_wp2
  repeat (go_quiet (fail); try go_wp2)
  go_ret
  exact ⟨by first | rfl | (simp; done) | (simp [*]; done), by repeat (first | exact Drawn0.refl _ | apply Drawn0.step)⟩

/-! ### priceofficeref06_Path: function 36 -/
def priceofficeref06_Path.l0 : Nat → List Int → List ByteArray → Int → Int → Option (List ByteArray)
 | 0, _, _, _, _ => none
 | k + 1, x3, x5, x17, x18 => if x18 < x17 then (if 0 ≤ (wrap64 (x18 + 1)) then (if (wrap64 (x18 + 1)) ≤ (x3.length : Int) then ((priceofficeref06_Format.f k (x3.take ((wrap64 (x18 + 1)) : Int).toNat)).bind fun bt299 => (if x5.length < 8796093022208 then (priceofficeref06_Path.l0 k x3 (x5 ++ [bt299.1]) x17 (wrap64 (x18 + 1))) else (none))) else (none)) else (none)) else (some x5)
def priceofficeref06_Path.f (k : Nat) (a0 : ByteArray) : Option (List ByteArray) := (priceofficeref06_Parse.f k a0).bind fun bt291 => (if bt291.2 = 0 then (priceofficeref06_Path.l0 k bt291.1 ([] : List ByteArray) (bt291.1.length : Int) 0) else (some ([] : List ByteArray)))
theorem priceofficeref06_Path.mono_l : ∀ k, (∀ y0 y1 y2 y3, LeO (priceofficeref06_Path.l0 k y0 y1 y2 y3) (priceofficeref06_Path.l0 (k + 1) y0 y1 y2 y3))
 | 0 => fun _ _ _ _ r h => by simp [priceofficeref06_Path.l0] at h
 | k + 1 => by
  have ih0 := priceofficeref06_Path.mono_l k
  ·intro y0 y1 y2 y3
   unfold priceofficeref06_Path.l0
   repeat' first
   | (with_reducible exact ih0 _ _ _ _)
   | (with_reducible exact priceofficeref06_Format.mono _ _)
   | (with_reducible exact priceofficeref06_Parse.mono _ _)
   | (with_reducible exact LeO.refl _)
   | (with_reducible exact LeO.none _)
   | (with_reducible refine LeO.ite ?_ ?_)
   | (with_reducible refine LeO.bind ?_ (fun _ => ?_))
   | exact ih0 _ _ _ _
   | exact priceofficeref06_Format.mono _ _
   | exact priceofficeref06_Parse.mono _ _
   | exact LeO.none _
   | refine LeO.ite ?_ ?_
   | refine LeO.bind ?_ (fun _ => ?_)
theorem priceofficeref06_Path.mono : ∀ a0 k, LeO (priceofficeref06_Path.f k a0) (priceofficeref06_Path.f (k + 1) a0) := by
 intro a0 k
 have ih0 := priceofficeref06_Path.mono_l k
 unfold priceofficeref06_Path.f
 repeat' first
   | (with_reducible exact ih0 _ _ _ _)
   | (with_reducible exact priceofficeref06_Format.mono _ _)
   | (with_reducible exact priceofficeref06_Parse.mono _ _)
   | (with_reducible exact LeO.refl _)
   | (with_reducible exact LeO.none _)
   | (with_reducible refine LeO.ite ?_ ?_)
   | (with_reducible refine LeO.bind ?_ (fun _ => ?_))
   | exact ih0 _ _ _ _
   | exact priceofficeref06_Format.mono _ _
   | exact priceofficeref06_Parse.mono _ _
   | exact LeO.none _
   | refine LeO.ite ?_ ?_
   | refine LeO.bind ?_ (fun _ => ?_)
set_option maxHeartbeats 8000000 in
set_option maxRecDepth 100000 in
theorem priceofficeref06_Path.calls (k : Nat) (a0 : ByteArray) (r : List ByteArray) (w : World) (h : priceofficeref06_Path.f k a0 = some r) :
  Calls Tryd.prog 36 #[.string a0] w fun e w' => ∃ v0_ : Value, e = .returned (v0_) ∧ Kd.R Kd.string 9 w' w.heap.size (fun _ => True) v0_ r ∧ Below w.heap.size w w' := by
 have HB := mk0 (Below.refl w.heap.size w)
 have H : ((priceofficeref06_Parse.f k a0).bind fun bt291 => (if bt291.2 = 0 then (priceofficeref06_Path.l0 k bt291.1 ([] : List ByteArray) (bt291.1.length : Int) 0) else (some ([] : List ByteArray)))) = some r := h
 clear h
 replace H := Option.bind_eq_some_iff.mp H
 obtain ⟨⟨t291, t292⟩, A20, H⟩ := H
 replace H : (if t292 = 0 then (priceofficeref06_Path.l0 k t291 ([] : List ByteArray) (t291.length : Int) 0) else (some ([] : List ByteArray))) = some r := H
 have A2 := mk0 A20
 clear A20
 by_cases c3 : t292 = 0
 ·rw [if_pos c3] at H
  have c3b0 : (t292 == 0) = true := beq_iff_eq.mpr c3
  have c3b1 : (t292 != 0) = false := bne_eq_false_iff_eq.mpr c3
  clear c3
  have H' := mk0 H
  clear H
  go_enter Tryd.func36, Tryd.ntmps36
  go_wp2_with (first | ((with_reducible refine gate_callee (f := 26) rfl ?_); refine goesL_ (some 11) rfl rfl Tryd.func26 (by kernel_rfl) rfl #[.string a0] rfl (by (try simp only [List.map_toArray, List.map_cons, List.map_nil]); first | done | rfl | (simp only [List.length_drop, List.length_take]; rfl)) ?_; (with_reducible refine (priceofficeref06_Parse.calls k a0 t291 t292 _ A2.out).mono ?_); rintro e w4 ⟨v293, rfl, ho0, hb⟩; refine ⟨_, rfl, ?_⟩; have n0_ := mk0 (Kd.R_lower ho0 (below_size (by repeat (first | (with_reducible first | exact HB.out | apply b_a | apply b_n | apply b_d) | exact HB.out)))); have n1_ := mk0 (below_step (by repeat (first | (with_reducible first | exact HB.out | apply b_a | apply b_n | apply b_d) | exact HB.out)) hb); clear HB; have HO294 := n0_; have HB := n1_; clear n0_ n1_; (try clear hb); (try clear hb2); (try clear hk); (try clear hi); (try clear ho0); obtain ⟨Ao5, co5, eo5⟩ := Kd.R_slice HO294.out; subst eo5))
  go_loopg [5, 18] k (fun kq v5 v18 w' => ∃ (x5_1 : List ByteArray) (x18_1 : Int), v18 = .int .i64 x18_1 ∧ Aside0 (priceofficeref06_Path.l0 kq t291 x5_1 (t291.length : Int) x18_1 = some r) ∧ Aside0 (kq ≤ k) ∧ Aside0 (Kd.R (Kd.int .i64) 3 w' w.heap.size (fun _ => True) (.slice Ao5 t291.length co5) t291) ∧ Aside0 (Kd.R Kd.string 9 w' w.heap.size (fun _ => True) v5 x5_1) ∧ Aside0 (Below w.heap.size w w'))
  case atStart => exact ⟨(([] : List ByteArray)), (0), (by first | rfl | (simp; done) | (simp [*]; done)), H', ⟨Nat.le_refl _⟩, ⟨by (with_reducible repeat (first | apply r_a | apply r_n | apply r_d)); exact HO294.out⟩, ⟨by first | exact Kd.R_nil _ _ _ _ _ | exact Kd.N_nil _ _ _ _ _ | exact Kd.V_nil _ _ _ _ _ | exact Kd.Q_nil _ _ _ _ _ | exact Kd.S_nil _ _ _ _ _⟩, ⟨by repeat (first | (with_reducible first | exact HB.out | apply b_a | apply b_n | apply b_d) | exact HB.out)⟩⟩
  case round =>
   clear H'
   try clear c2
   try clear p2
   try clear c3
   try clear c3b0
   try clear c3b1
   obtain ⟨x5_1, x18_1, rfl, HA, HK1, HO_3, HO_5, HB⟩ := hrel
   cases gk with
   | zero => exact absurd HA.out (by simp [priceofficeref06_Path.l0])
   | succ k1 =>
    have H := HA.out
    clear HA
    simp only [priceofficeref06_Path.l0] at H
    by_cases c6 : x18_1 < (t291.length : Int)
    ·rw [if_pos c6] at H
     have c6b0 : decide (x18_1 < (t291.length : Int)) = true := decide_eq_true c6
     clear c6
     obtain ⟨ji7, hji7⟩ : ∃ j_ : Int, (wrap64 (x18_1 + 1)) = j_ := ⟨_, rfl⟩
     replace H : (if 0 ≤ (ji7) then (if (ji7) ≤ (t291.length : Int) then ((priceofficeref06_Format.f k1 (t291.take ((ji7) : Int).toNat)).bind fun bt299 => (if x5_1.length < 8796093022208 then (priceofficeref06_Path.l0 k1 t291 (x5_1 ++ [bt299.1]) (t291.length : Int) ji7) else (none))) else (none)) else (none)) = some r := by first | (rw [hji7] at H; exact H) | (simp only [hji7] at H ⊢; exact H)
     have hji7w : (IntKind.i64.wrap (x18_1 + 1)) = ji7 := (i64_w _).trans hji7
     by_cases c8 : 0 ≤ (ji7)
     ·rw [if_pos c8] at H
      have c8b0 := eq_true c8
      have c8b1 : decide (0 ≤ (ji7)) = true := decide_eq_true c8
      clear c8
      by_cases c9 : (ji7) ≤ (t291.length : Int)
      ·rw [if_pos c9] at H
       have c9b0 := eq_true c9
       have c9b1 : decide ((ji7) ≤ (t291.length : Int)) = true := decide_eq_true c9
       clear c9
       obtain ⟨y295, hy295⟩ : ∃ y_ : List Int, y_ = (t291.take ((ji7) : Int).toNat) := ⟨_, rfl⟩
       replace H : ((priceofficeref06_Format.f k1 y295).bind fun bt299 => (if x5_1.length < 8796093022208 then (priceofficeref06_Path.l0 k1 t291 (x5_1 ++ [bt299.1]) (t291.length : Int) ji7) else (none))) = some r := by first | (rw [hy295]; with_reducible exact H) | (have H2_ := (Option.bind_some _ _).symm.trans H; rw [hy295]; with_reducible exact H2_) | (have H2_ := (Option.bind_some _ _).symm.trans H; with_reducible exact H2_) | with_reducible exact H | (rw [hy295]; exact H) | exact H
       have Ny295 := mk0 hy295
       clear hy295
       replace H := Option.bind_eq_some_iff.mp H
       obtain ⟨⟨t299, t300⟩, A100, H⟩ := H
       replace H : (if x5_1.length < 8796093022208 then (priceofficeref06_Path.l0 k1 t291 (x5_1 ++ [t299]) (t291.length : Int) ji7) else (none)) = some r := H
       have A10 := mk0 A100
       clear A100
       by_cases c11 : x5_1.length < 8796093022208
       ·rw [if_pos c11] at H
        have LMc11 := mk0 c11
        clear c11
        obtain ⟨y301, hy301⟩ : ∃ y_ : List ByteArray, y_ = (x5_1 ++ [t299]) := ⟨_, rfl⟩
        replace H : (priceofficeref06_Path.l0 k1 t291 y301 (t291.length : Int) ji7) = some r := by first | (rw [hy301]; with_reducible exact H) | (have H2_ := (Option.bind_some _ _).symm.trans H; rw [hy301]; with_reducible exact H2_) | (have H2_ := (Option.bind_some _ _).symm.trans H; with_reducible exact H2_) | with_reducible exact H | (rw [hy301]; exact H) | exact H
        have Ny301 := mk0 hy301
        clear hy301
        have H' := mk0 H
        clear H
        have q12 : ((ji7) : Int) ≤ ((t291.length : Int) : Int) := of_decide_eq_true (by first | (with_reducible assumption) | assumption)
        obtain ⟨i012, hi012, _, hsz12, _⟩ := info_parts info3
        have hroom12 : t291.length ≤ co5 := (Kd.R_reads' HO_3.out).2.1
        have hC12 : Kd.C (Kd.int .i64) _ Ao5 t291.length t291 := (Kd.R_reads' HO_3.out).2.2
        have hcut12 := cut_to (P := Tryd.prog) 22 3 .i64 Tryd.underlying22 hi012 Ao5 t291.length co5 (ji7) (of_decide_eq_true (by first | (with_reducible assumption) | assumption)) q12 hroom12
        have hr12 := Kd.C_take (m := ((ji7) : Int).toNat) hC12 (by omega)
        have hy12 : y295.length = ((ji7) : Int).toNat := (by rw [Ny295.out, List.length_take]; omega)
        rw [← Ny295.out] at hr12
        rw [← hy12] at hcut12
        have HR298 := mk0 hr12
        have HC298 := mk0 (show y295.length ≤ co5 from by omega)
        clear hr12 hC12 hroom12 hi012 hsz12
        have KY12 := mk0 hy12
        clear hy12
        have KL12 := mk0 (show ((ji7) : Int).toNat ≤ t291.length from by omega)
        replace q12 := eq_true q12
        go_wp2_with (first | ((with_reducible refine gate_callee (f := 29) rfl ?_); refine goesL_ (some 26) rfl rfl Tryd.func29 (by kernel_rfl) rfl #[.slice Ao5 y295.length co5] rfl (by (try simp only [List.map_toArray, List.map_cons, List.map_nil]); first | done | rfl | (simp only [List.length_drop, List.length_take]; rfl)) ?_; (with_reducible refine (priceofficeref06_Format.calls k1 _ _ y295 t299 t300 _ ?side1 ?side2 A10.out).mono ?_); (case side1 => repeat (first | exact (by repeat (first | (with_reducible exact HR298.out) | (with_reducible refine Kd.C_alloc ?_ _) | (with_reducible refine Kd.C_drewN ?_ _) | (with_reducible refine Kd.C_drew ?_) | exact HR298.out)) | (with_reducible refine Kd.C_alloc ?_ _) | (with_reducible refine Kd.C_drewN ?_ _) | (with_reducible refine Kd.C_drew ?_))); (case side2 => exact HC298.out); rintro e w13 ⟨rfl, hb⟩; refine ⟨_, rfl, ?_⟩; have n0_ := mk0 (Kd.R_below (by (with_reducible repeat (first | apply r_a | apply r_n | apply r_d)); exact HO_3.out) hb); have n1_ := mk0 (Kd.R_below (by (with_reducible repeat (first | apply r_a | apply r_n | apply r_d)); exact HO_5.out) hb); have n2_ := mk0 (Kd.C_below (by repeat (first | (with_reducible exact HR298.out) | (with_reducible refine Kd.C_alloc ?_ _) | (with_reducible refine Kd.C_drewN ?_ _) | (with_reducible refine Kd.C_drew ?_) | exact HR298.out)) hb); have n3_ := mk0 (below_step (by repeat (first | (with_reducible first | exact HB.out | apply b_a | apply b_n | apply b_d) | exact HB.out)) hb); clear HO_3; clear HO_5; clear HR298; clear HB; have HO_3 := n0_; have HO_5 := n1_; have HR298 := n2_; have HB := n3_; clear n0_ n1_ n2_ n3_; (try clear hb); (try clear hb2); (try clear hk); (try clear hi)) | ((with_reducible refine gate_builtin (b := .append) (xs := #[.tmp 29, .tmp 31]) rfl ?_); at_builtin; refine Kd.R_append Kd.string (w0 := w) w.heap.size rfl (.tmp 29) (.tmp 31) 26 9 (.string ⟨#[]⟩) 16 rfl Tryd.underlying26 info9 rfl (by decide) (by omega) u5 x5_1 t299 [.string t299] (fun _ => True) (fun _ => False) rfl rfl ?aP (fun _ hk => hk.elim) ?aF ?aO ?aB ?aS ?aL ?_; (case aP => exact rfl); (case aB => exact (by repeat (first | (with_reducible first | exact HB.out | apply b_a | apply b_n | apply b_d) | exact HB.out))); (case aF => exact (fun _ _ => trivial)); (case aO => exact (by (with_reducible repeat (first | apply r_a | apply r_n | apply r_d)); exact HO_5.out)); (case aS => exact (below_size (by repeat (first | (with_reducible first | exact HB.out | apply b_a | apply b_n | apply b_d) | exact HB.out)))); (case aL => have := LMc11.out; omega); intro v302 w14 ho hb hg hat; rw [← Ny301.out] at ho; have n0_ := mk0 (Kd.R_over' (by (with_reducible repeat (first | apply r_a | apply r_n | apply r_d)); exact HO_3.out) (Kd.R_typed (by (with_reducible repeat (first | apply r_a | apply r_n | apply r_d)); exact HO_5.out)) (by decide) hg); have n1_ := mk0 (hb); have n2_ := mk0 ((show Kd.C (Kd.int .i64) w14 Ao5 y295.length y295 from by rw [Ny295.out]; exact Kd.C_take (m := ((ji7) : Int).toNat) ((Kd.R_reads' (Kd.R_over' (by (with_reducible repeat (first | apply r_a | apply r_n | apply r_d)); exact HO_3.out) (Kd.R_typed (by (with_reducible repeat (first | apply r_a | apply r_n | apply r_d)); exact HO_5.out)) (by decide) hg)).2.2) KL12.out)); have n3_ := mk0 (ho); clear HO_3; clear HB; clear HR298; clear HO_5; have HO_3 := n0_; have HB := n1_; have HR298 := n2_; have HO303 := n3_; clear n0_ n1_ n2_ n3_; clear ho hb hg hat))
        go_roundg k1
        case measure => have := HK1.out; omega
        case rel => exact ⟨(y301), (ji7), (by first | rfl | (simp; done) | (simp only [← hji7] <;> (first | rfl | simp)) | (simp [*]; done)), H', ⟨by have := HK1.out; omega⟩, ⟨by (with_reducible repeat (first | apply r_a | apply r_n | apply r_d)); exact HO_3.out⟩, ⟨by (with_reducible repeat (first | apply r_a | apply r_n | apply r_d)); exact HO303.out⟩, ⟨by repeat (first | (with_reducible first | exact HB.out | apply b_a | apply b_n | apply b_d) | exact HB.out)⟩⟩
       ·rw [if_neg c11] at H
        exact absurd H (by simp)
      ·rw [if_neg c9] at H
       exact absurd H (by simp)
     ·rw [if_neg c8] at H
      exact absurd H (by simp)
    ·rw [if_neg c6] at H
     have c6b0 : decide (x18_1 < (t291.length : Int)) = false := decide_eq_false c6
     clear c6
     obtain rfl := Option.some.inj H
     go_wp2
     go_ret
     exact ⟨_, by first | rfl | (simp [errW_none, errW_some] <;> rfl) | (simp [*, errW_none, errW_some] <;> rfl), by (with_reducible repeat (first | apply r_a | apply r_n | apply r_d)); exact HO_5.out, by repeat (first | (with_reducible first | exact HB.out | apply b_a | apply b_n | apply b_d) | exact HB.out)⟩
 ·rw [if_neg c3] at H
  have c3b0 : (t292 == 0) = false := beq_eq_false_iff_ne.mpr c3
  have c3b1 : (t292 != 0) = true := bne_iff_ne.mpr c3
  obtain rfl := Option.some.inj H
  go_enter Tryd.func36, Tryd.ntmps36
  go_wp2_with (first | ((with_reducible refine gate_callee (f := 26) rfl ?_); refine goesL_ (some 11) rfl rfl Tryd.func26 (by kernel_rfl) rfl #[.string a0] rfl (by (try simp only [List.map_toArray, List.map_cons, List.map_nil]); first | done | rfl | (simp only [List.length_drop, List.length_take]; rfl)) ?_; (with_reducible refine (priceofficeref06_Parse.calls k a0 t291 t292 _ A2.out).mono ?_); rintro e w15 ⟨v293, rfl, ho0, hb⟩; refine ⟨_, rfl, ?_⟩; have n0_ := mk0 (Kd.R_lower ho0 (below_size (by repeat (first | (with_reducible first | exact HB.out | apply b_a | apply b_n | apply b_d) | exact HB.out)))); have n1_ := mk0 (below_step (by repeat (first | (with_reducible first | exact HB.out | apply b_a | apply b_n | apply b_d) | exact HB.out)) hb); clear HB; have HO294 := n0_; have HB := n1_; clear n0_ n1_; (try clear hb); (try clear hb2); (try clear hk); (try clear hi); (try clear ho0)))
  go_ret
  exact ⟨_, by first | rfl | (simp [errW_none, errW_some] <;> rfl) | (simp [*, errW_none, errW_some] <;> rfl), by first | exact Kd.R_nil _ _ _ _ _ | exact Kd.N_nil _ _ _ _ _ | exact Kd.V_nil _ _ _ _ _ | exact Kd.Q_nil _ _ _ _ _ | exact Kd.S_nil _ _ _ _ _, by repeat (first | (with_reducible first | exact HB.out | apply b_a | apply b_n | apply b_d) | exact HB.out)⟩

/-! ### priceofficeref06_Parent: function 34 -/
def priceofficeref06_Parent.f (k : Nat) (a0 : ByteArray) : Option (ByteArray × Bool) := (priceofficeref06_Path.f k a0).bind fun t304 => (if (t304.length : Int) = 0 then (some ((⟨#[]⟩ : ByteArray), false)) else (if (t304.length : Int) = 1 then (some ((⟨#[]⟩ : ByteArray), true)) else (if 0 ≤ (wrap64 ((t304.length : Int) - 2)) then (if (wrap64 ((t304.length : Int) - 2)) < (t304.length : Int) then (some (rdOf ByteArray.empty t304 (wrap64 ((t304.length : Int) - 2)), true)) else (none)) else (none))))
theorem priceofficeref06_Parent.mono : ∀ a0 k, LeO (priceofficeref06_Parent.f k a0) (priceofficeref06_Parent.f (k + 1) a0) := by
 intro a0 k
 unfold priceofficeref06_Parent.f
 repeat' first
   | (with_reducible exact priceofficeref06_Path.mono _ _)
   | (with_reducible exact LeO.refl _)
   | (with_reducible exact LeO.none _)
   | (with_reducible refine LeO.ite ?_ ?_)
   | (with_reducible refine LeO.bind ?_ (fun _ => ?_))
   | exact priceofficeref06_Path.mono _ _
   | exact LeO.none _
   | refine LeO.ite ?_ ?_
   | refine LeO.bind ?_ (fun _ => ?_)
set_option maxHeartbeats 8000000 in
set_option maxRecDepth 100000 in
theorem priceofficeref06_Parent.calls (k : Nat) (a0 : ByteArray) (r1 : ByteArray) (r2 : Bool) (w : World) (h : priceofficeref06_Parent.f k a0 = some (r1, r2)) :
  Calls Tryd.prog 34 #[.string a0] w fun e w' => e = .returned (.tuple #[.string r1, .bool r2]) ∧ Below w.heap.size w w' := by
 have HB := mk0 (Below.refl w.heap.size w)
 have H : ((priceofficeref06_Path.f k a0).bind fun t304 => (if (t304.length : Int) = 0 then (some ((⟨#[]⟩ : ByteArray), false)) else (if (t304.length : Int) = 1 then (some ((⟨#[]⟩ : ByteArray), true)) else (if 0 ≤ (wrap64 ((t304.length : Int) - 2)) then (if (wrap64 ((t304.length : Int) - 2)) < (t304.length : Int) then (some (rdOf ByteArray.empty t304 (wrap64 ((t304.length : Int) - 2)), true)) else (none)) else (none))))) = some (r1, r2) := h
 clear h
 replace H := Option.bind_eq_some_iff.mp H
 obtain ⟨t304, A20, H⟩ := H
 replace H : (if (t304.length : Int) = 0 then (some ((⟨#[]⟩ : ByteArray), false)) else (if (t304.length : Int) = 1 then (some ((⟨#[]⟩ : ByteArray), true)) else (if 0 ≤ (wrap64 ((t304.length : Int) - 2)) then (if (wrap64 ((t304.length : Int) - 2)) < (t304.length : Int) then (some (rdOf ByteArray.empty t304 (wrap64 ((t304.length : Int) - 2)), true)) else (none)) else (none)))) = some (r1, r2) := H
 have A2 := mk0 A20
 clear A20
 by_cases c3 : (t304.length : Int) = 0
 ·rw [if_pos c3] at H
  have c3b0 : ((t304.length : Int) == 0) = true := beq_iff_eq.mpr c3
  have c3b1 : ((t304.length : Int) != 0) = false := bne_eq_false_iff_eq.mpr c3
  clear c3
  simp only [Option.some.injEq, Prod.mk.injEq] at H
  obtain ⟨rfl, rfl⟩ := H
  go_enter Tryd.func34, Tryd.ntmps34
  go_wp2_with (first | ((with_reducible refine gate_callee (f := 36) rfl ?_); refine goesL_ (some 6) rfl rfl Tryd.func36 (by kernel_rfl) rfl #[.string a0] rfl (by (try simp only [List.map_toArray, List.map_cons, List.map_nil]); first | done | rfl | (simp only [List.length_drop, List.length_take]; rfl)) ?_; (with_reducible refine (priceofficeref06_Path.calls k a0 t304 _ A2.out).mono ?_); rintro e w4 ⟨v305, rfl, ho0, hb⟩; refine ⟨_, rfl, ?_⟩; have n0_ := mk0 (Kd.R_lower ho0 (below_size (by repeat (first | (with_reducible first | exact HB.out | apply b_a | apply b_n | apply b_d) | exact HB.out)))); have n1_ := mk0 (below_step (by repeat (first | (with_reducible first | exact HB.out | apply b_a | apply b_n | apply b_d) | exact HB.out)) hb); clear HB; have HO306 := n0_; have HB := n1_; clear n0_ n1_; (try clear hb); (try clear hb2); (try clear hk); (try clear hi); (try clear ho0); obtain ⟨Ao5, co5, eo5⟩ := Kd.R_slice HO306.out; subst eo5))
  go_ret2
  exact ⟨by first | rfl | (simp [errW_none, errW_some] <;> rfl) | (simp [*, errW_none, errW_some] <;> rfl), by repeat (first | (with_reducible first | exact HB.out | apply b_a | apply b_n | apply b_d) | exact HB.out)⟩
 ·rw [if_neg c3] at H
  have c3b0 : ((t304.length : Int) == 0) = false := beq_eq_false_iff_ne.mpr c3
  have c3b1 : ((t304.length : Int) != 0) = true := bne_iff_ne.mpr c3
  have c3b2 : ¬ (t304 = []) := fun h_ => c3 (by rw [h_]; rfl)
  by_cases c6 : (t304.length : Int) = 1
  ·rw [if_pos c6] at H
   have c6b0 : ((t304.length : Int) == 1) = true := beq_iff_eq.mpr c6
   have c6b1 : ((t304.length : Int) != 1) = false := bne_eq_false_iff_eq.mpr c6
   clear c6
   simp only [Option.some.injEq, Prod.mk.injEq] at H
   obtain ⟨rfl, rfl⟩ := H
   go_enter Tryd.func34, Tryd.ntmps34
   go_wp2_with (first | ((with_reducible refine gate_callee (f := 36) rfl ?_); refine goesL_ (some 6) rfl rfl Tryd.func36 (by kernel_rfl) rfl #[.string a0] rfl (by (try simp only [List.map_toArray, List.map_cons, List.map_nil]); first | done | rfl | (simp only [List.length_drop, List.length_take]; rfl)) ?_; (with_reducible refine (priceofficeref06_Path.calls k a0 t304 _ A2.out).mono ?_); rintro e w7 ⟨v305, rfl, ho0, hb⟩; refine ⟨_, rfl, ?_⟩; have n0_ := mk0 (Kd.R_lower ho0 (below_size (by repeat (first | (with_reducible first | exact HB.out | apply b_a | apply b_n | apply b_d) | exact HB.out)))); have n1_ := mk0 (below_step (by repeat (first | (with_reducible first | exact HB.out | apply b_a | apply b_n | apply b_d) | exact HB.out)) hb); clear HB; have HO306 := n0_; have HB := n1_; clear n0_ n1_; (try clear hb); (try clear hb2); (try clear hk); (try clear hi); (try clear ho0); obtain ⟨Ao8, co8, eo8⟩ := Kd.R_slice HO306.out; subst eo8))
   go_ret2
   exact ⟨by first | rfl | (simp [errW_none, errW_some] <;> rfl) | (simp [*, errW_none, errW_some] <;> rfl), by repeat (first | (with_reducible first | exact HB.out | apply b_a | apply b_n | apply b_d) | exact HB.out)⟩
  ·rw [if_neg c6] at H
   have c6b0 : ((t304.length : Int) == 1) = false := beq_eq_false_iff_ne.mpr c6
   have c6b1 : ((t304.length : Int) != 1) = true := bne_iff_ne.mpr c6
   obtain ⟨ji9, hji9⟩ : ∃ j_ : Int, (wrap64 ((t304.length : Int) - 2)) = j_ := ⟨_, rfl⟩
   replace H : (if 0 ≤ (ji9) then (if (ji9) < (t304.length : Int) then (some (rdOf ByteArray.empty t304 (ji9), true)) else (none)) else (none)) = some (r1, r2) := by first | (rw [hji9] at H; exact H) | (simp only [hji9] at H ⊢; exact H)
   (try rw [hji9] at A2)
   have hji9w : (IntKind.i64.wrap ((t304.length : Int) - 2)) = ji9 := (i64_w _).trans hji9
   by_cases c10 : 0 ≤ (ji9)
   ·rw [if_pos c10] at H
    have c10b0 : decide (0 ≤ (ji9)) = true := decide_eq_true c10
    clear c10
    by_cases c11 : (ji9) < (t304.length : Int)
    ·rw [if_pos c11] at H
     have c11b0 : decide ((ji9) < (t304.length : Int)) = true := decide_eq_true c11
     clear c11
     simp only [Option.some.injEq, Prod.mk.injEq] at H
     obtain ⟨rfl, rfl⟩ := H
     go_enter Tryd.func34, Tryd.ntmps34
     go_wp2_with (first | ((with_reducible refine gate_callee (f := 36) rfl ?_); refine goesL_ (some 6) rfl rfl Tryd.func36 (by kernel_rfl) rfl #[.string a0] rfl (by (try simp only [List.map_toArray, List.map_cons, List.map_nil]); first | done | rfl | (simp only [List.length_drop, List.length_take]; rfl)) ?_; (with_reducible refine (priceofficeref06_Path.calls k a0 t304 _ A2.out).mono ?_); rintro e w12 ⟨v305, rfl, ho0, hb⟩; refine ⟨_, rfl, ?_⟩; have n0_ := mk0 (Kd.R_lower ho0 (below_size (by repeat (first | (with_reducible first | exact HB.out | apply b_a | apply b_n | apply b_d) | exact HB.out)))); have n1_ := mk0 (below_step (by repeat (first | (with_reducible first | exact HB.out | apply b_a | apply b_n | apply b_d) | exact HB.out)) hb); clear HB; have HO306 := n0_; have HB := n1_; clear n0_ n1_; (try clear hb); (try clear hb2); (try clear hk); (try clear hi); (try clear ho0); obtain ⟨Ao13, co13, eo13⟩ := Kd.R_slice HO306.out; subst eo13; have p307 : 0 ≤ ((ji9) : Int) := of_decide_eq_true (by first | (with_reducible assumption) | assumption); have q307 : (ji9) < (t304.length : Int) := of_decide_eq_true (by first | (with_reducible assumption) | assumption); obtain ⟨ad307, e307, hx307_0⟩ := Kd.at_string (Kd.R_reads' HO306.out).2.2 (ji9) p307 q307; cases e307; replace p307 := eq_true p307; replace q307 := eq_true q307))
     go_ret2
     exact ⟨by first | rfl | (simp [errW_none, errW_some] <;> rfl) | (simp only [← hji9]; first | rfl | (simp [errW_none, errW_some] <;> rfl)) | (simp [*, errW_none, errW_some] <;> rfl), by repeat (first | (with_reducible first | exact HB.out | apply b_a | apply b_n | apply b_d) | exact HB.out)⟩
    ·rw [if_neg c11] at H
     exact absurd H (by simp)
   ·rw [if_neg c10] at H
    exact absurd H (by simp)

/-! ### priceofficeref06_Level: function 35 -/
def priceofficeref06_Level.f (k : Nat) (a0 : ByteArray) : Option (Int) := (priceofficeref06_Parse.f k a0).bind fun bt308 => (if bt308.2 = 0 then (some (bt308.1.length : Int)) else (if a0.toList = ([] : List UInt8) then (some (bt308.1.length : Int)) else (some (-1))))
theorem priceofficeref06_Level.mono : ∀ a0 k, LeO (priceofficeref06_Level.f k a0) (priceofficeref06_Level.f (k + 1) a0) := by
 intro a0 k
 unfold priceofficeref06_Level.f
 repeat' first
   | (with_reducible exact priceofficeref06_Parse.mono _ _)
   | (with_reducible exact LeO.refl _)
   | (with_reducible exact LeO.none _)
   | (with_reducible refine LeO.ite ?_ ?_)
   | (with_reducible refine LeO.bind ?_ (fun _ => ?_))
   | exact priceofficeref06_Parse.mono _ _
   | exact LeO.none _
   | refine LeO.ite ?_ ?_
   | refine LeO.bind ?_ (fun _ => ?_)
set_option maxHeartbeats 8000000 in
set_option maxRecDepth 100000 in
theorem priceofficeref06_Level.calls (k : Nat) (a0 : ByteArray) (r : Int) (w : World) (h : priceofficeref06_Level.f k a0 = some r) :
  Calls Tryd.prog 35 #[.string a0] w fun e w' => e = .returned (.int .i64 r) ∧ Below w.heap.size w w' := by
 have HB := mk0 (Below.refl w.heap.size w)
 have H : ((priceofficeref06_Parse.f k a0).bind fun bt308 => (if bt308.2 = 0 then (some (bt308.1.length : Int)) else (if a0.toList = ([] : List UInt8) then (some (bt308.1.length : Int)) else (some (-1))))) = some r := h
 clear h
 replace H := Option.bind_eq_some_iff.mp H
 obtain ⟨⟨t308, t309⟩, A20, H⟩ := H
 replace H : (if t309 = 0 then (some (t308.length : Int)) else (if a0.toList = ([] : List UInt8) then (some (t308.length : Int)) else (some (-1)))) = some r := H
 have A2 := mk0 A20
 clear A20
 by_cases c3 : t309 = 0
 ·rw [if_pos c3] at H
  have c3b0 : (t309 == 0) = true := beq_iff_eq.mpr c3
  have c3b1 : (t309 != 0) = false := bne_eq_false_iff_eq.mpr c3
  clear c3
  obtain rfl := Option.some.inj H
  go_enter Tryd.func35, Tryd.ntmps35
  go_wp2_with (first | ((with_reducible refine gate_callee (f := 26) rfl ?_); refine goesL_ (some 7) rfl rfl Tryd.func26 (by kernel_rfl) rfl #[.string a0] rfl (by (try simp only [List.map_toArray, List.map_cons, List.map_nil]); first | done | rfl | (simp only [List.length_drop, List.length_take]; rfl)) ?_; (with_reducible refine (priceofficeref06_Parse.calls k a0 t308 t309 _ A2.out).mono ?_); rintro e w4 ⟨v310, rfl, ho0, hb⟩; refine ⟨_, rfl, ?_⟩; have n0_ := mk0 (Kd.R_lower ho0 (below_size (by repeat (first | (with_reducible first | exact HB.out | apply b_a | apply b_n | apply b_d) | exact HB.out)))); have n1_ := mk0 (below_step (by repeat (first | (with_reducible first | exact HB.out | apply b_a | apply b_n | apply b_d) | exact HB.out)) hb); clear HB; have HO311 := n0_; have HB := n1_; clear n0_ n1_; (try clear hb); (try clear hb2); (try clear hk); (try clear hi); (try clear ho0); obtain ⟨Ao5, co5, eo5⟩ := Kd.R_slice HO311.out; subst eo5))
  go_ret
  exact ⟨by first | rfl | (simp [errW_none, errW_some] <;> rfl) | (simp [*, errW_none, errW_some] <;> rfl), by repeat (first | (with_reducible first | exact HB.out | apply b_a | apply b_n | apply b_d) | exact HB.out)⟩
 ·rw [if_neg c3] at H
  have c3b0 : (t309 == 0) = false := beq_eq_false_iff_ne.mpr c3
  have c3b1 : (t309 != 0) = true := bne_iff_ne.mpr c3
  by_cases c6 : a0.toList = ([] : List UInt8)
  ·rw [if_pos c6] at H
   have c6b0 : (a0.toList == ([] : List UInt8)) = true := beq_iff_eq.mpr c6
   have c6b1 : (a0.toList != ([] : List UInt8)) = false := bne_eq_false_iff_eq.mpr c6
   clear c6
   obtain rfl := Option.some.inj H
   go_enter Tryd.func35, Tryd.ntmps35
   go_wp2_with (first | ((with_reducible refine gate_callee (f := 26) rfl ?_); refine goesL_ (some 7) rfl rfl Tryd.func26 (by kernel_rfl) rfl #[.string a0] rfl (by (try simp only [List.map_toArray, List.map_cons, List.map_nil]); first | done | rfl | (simp only [List.length_drop, List.length_take]; rfl)) ?_; (with_reducible refine (priceofficeref06_Parse.calls k a0 t308 t309 _ A2.out).mono ?_); rintro e w7 ⟨v310, rfl, ho0, hb⟩; refine ⟨_, rfl, ?_⟩; have n0_ := mk0 (Kd.R_lower ho0 (below_size (by repeat (first | (with_reducible first | exact HB.out | apply b_a | apply b_n | apply b_d) | exact HB.out)))); have n1_ := mk0 (below_step (by repeat (first | (with_reducible first | exact HB.out | apply b_a | apply b_n | apply b_d) | exact HB.out)) hb); clear HB; have HO311 := n0_; have HB := n1_; clear n0_ n1_; (try clear hb); (try clear hb2); (try clear hk); (try clear hi); (try clear ho0); obtain ⟨Ao8, co8, eo8⟩ := Kd.R_slice HO311.out; subst eo8))
   go_ret
   exact ⟨by first | rfl | (simp [errW_none, errW_some] <;> rfl) | (simp [*, errW_none, errW_some] <;> rfl), by repeat (first | (with_reducible first | exact HB.out | apply b_a | apply b_n | apply b_d) | exact HB.out)⟩
  ·rw [if_neg c6] at H
   have c6b0 : (a0.toList == ([] : List UInt8)) = false := beq_eq_false_iff_ne.mpr c6
   have c6b1 : (a0.toList != ([] : List UInt8)) = true := bne_iff_ne.mpr c6
   obtain rfl := Option.some.inj H
   go_enter Tryd.func35, Tryd.ntmps35
   go_wp2_with (first | ((with_reducible refine gate_callee (f := 26) rfl ?_); refine goesL_ (some 7) rfl rfl Tryd.func26 (by kernel_rfl) rfl #[.string a0] rfl (by (try simp only [List.map_toArray, List.map_cons, List.map_nil]); first | done | rfl | (simp only [List.length_drop, List.length_take]; rfl)) ?_; (with_reducible refine (priceofficeref06_Parse.calls k a0 t308 t309 _ A2.out).mono ?_); rintro e w9 ⟨v310, rfl, ho0, hb⟩; refine ⟨_, rfl, ?_⟩; have n0_ := mk0 (Kd.R_lower ho0 (below_size (by repeat (first | (with_reducible first | exact HB.out | apply b_a | apply b_n | apply b_d) | exact HB.out)))); have n1_ := mk0 (below_step (by repeat (first | (with_reducible first | exact HB.out | apply b_a | apply b_n | apply b_d) | exact HB.out)) hb); clear HB; have HO311 := n0_; have HB := n1_; clear n0_ n1_; (try clear hb); (try clear hb2); (try clear hk); (try clear hi); (try clear ho0)))
   go_ret
   exact ⟨by first | rfl | (simp [errW_none, errW_some] <;> rfl) | (simp [*, errW_none, errW_some] <;> rfl), by repeat (first | (with_reducible first | exact HB.out | apply b_a | apply b_n | apply b_d) | exact HB.out)⟩

end Go.Proofs.YtpnoliognpmkmaaDoor.P
