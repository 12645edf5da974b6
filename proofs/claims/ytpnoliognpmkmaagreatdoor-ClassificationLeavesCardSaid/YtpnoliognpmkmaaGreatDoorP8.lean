/- Lean functions with the same answers as the program's Go functions, and for each the proof that the call comes to these answers; written by a program of mine out of the translation, the functions marked 'by hand' by me. -/
import Derived.Test.YtpnoliognpmkmaaGreatDoorP0
namespace Go.Proofs.YtpnoliognpmkmaaGreatDoor.P
open Go.RowKit Go.Proofs.YtpnoliognpmkmaaGreatDoorW.PrintWords Go.Proofs.YtpnoliognpmkmaaGreatDoorW.PrintLast Go.Proofs.YtpnoliognpmkmaaGreatDoorW.PrintMore
attribute [local go_sem] max2_int min2_int max_two min_two max_three min_three max_four min_four   -- for this text's walks alone
set_option linter.unusedVariables false
set_option linter.unusedSimpArgs false

/-! ### r6_SameStrings: function 7 -/
def r6_SameStrings.l0 : Nat → List ByteArray → List ByteArray → Int → Int → Option (Bool)
 | 0, _, _, _, _ => none
 | k + 1, x0, x1, x12, x13 => if x13 < x12 then (if 0 ≤ x13 then (if x13 < (x0.length : Int) then (if x13 < (x1.length : Int) then (if (rdOf ByteArray.empty x0 x13).toList = (rdOf ByteArray.empty x1 x13).toList then (r6_SameStrings.l0 k x0 x1 x12 (wrap64 (x13 + 1))) else (some false)) else (none)) else (none)) else (none)) else (some true)
def r6_SameStrings.f (k : Nat) (l0 : List ByteArray) (l1 : List ByteArray) : Option (Bool) := if (l0.length : Int) = (l1.length : Int) then (r6_SameStrings.l0 k l0 l1 (l0.length : Int) 0) else (some false)
theorem r6_SameStrings.mono_l : ∀ k, (∀ y0 y1 y2 y3, LeO (r6_SameStrings.l0 k y0 y1 y2 y3) (r6_SameStrings.l0 (k + 1) y0 y1 y2 y3))
 | 0 => fun _ _ _ _ r h => by simp [r6_SameStrings.l0] at h
 | k + 1 => by
  have ih0 := r6_SameStrings.mono_l k
  ·intro y0 y1 y2 y3
   unfold r6_SameStrings.l0
   repeat' first
   | (with_reducible exact ih0 _ _ _ _)
   | (with_reducible exact LeO.refl _)
   | (with_reducible exact LeO.none _)
   | (with_reducible refine LeO.ite ?_ ?_)
   | (with_reducible refine LeO.bind ?_ (fun _ => ?_))
theorem r6_SameStrings.mono : ∀ a0 a1 k, LeO (r6_SameStrings.f k a0 a1) (r6_SameStrings.f (k + 1) a0 a1) := by
 intro a0 a1 k
 have ih0 := r6_SameStrings.mono_l k
 unfold r6_SameStrings.f
 repeat' first
   | (with_reducible exact ih0 _ _ _ _)
   | (with_reducible exact LeO.refl _)
   | (with_reducible exact LeO.none _)
   | (with_reducible refine LeO.ite ?_ ?_)
   | (with_reducible refine LeO.bind ?_ (fun _ => ?_))
set_option maxHeartbeats 8000000 in
set_option maxRecDepth 100000 in
theorem r6_SameStrings.calls (k : Nat) (A0 : Option Addr) (c0 : Nat) (l0 : List ByteArray) (A1 : Option Addr) (c1 : Nat) (l1 : List ByteArray) (r : Bool) (w : World) (hr0 : Kd.C Kd.string w A0 l0.length l0) (hc0 : l0.length ≤ c0) (hr1 : Kd.C Kd.string w A1 l1.length l1) (hc1 : l1.length ≤ c1) (h : r6_SameStrings.f k l0 l1 = some r) :
  Calls Tryz.prog 7 #[.slice A0 l0.length c0, .slice A1 l1.length c1] w fun e w' => e = .returned (.bool r) ∧ Drawn0 w w' := by
 have HR0 := mk0 hr0
 have HC0 := mk0 hc0
 clear hr0 hc0
 have HR1 := mk0 hr1
 have HC1 := mk0 hc1
 clear hr1 hc1
 have H : (if (l0.length : Int) = (l1.length : Int) then (r6_SameStrings.l0 k l0 l1 (l0.length : Int) 0) else (some false)) = some r := h
 clear h
 by_cases c3 : (l0.length : Int) = (l1.length : Int)
 ·rw [if_pos c3] at H
  have c3b0 : ((l0.length : Int) == (l1.length : Int)) = true := beq_iff_eq.mpr c3
  have c3b1 : ((l0.length : Int) != (l1.length : Int)) = false := bne_eq_false_iff_eq.mpr c3
  have c3b2 : (l0.length == l1.length) = true := by first | simpa using c3 | (simp at c3 ⊢; omega)
  clear c3
  have H' := mk0 H
  clear H
  go_enter Tryz.func7, Tryz.ntmps7
  go_wp2
  repeat (go_quiet (fail); try go_wp2)
  go_loopg [13] k (fun kq v13 w' => ∃ (x13_1 : Int), v13 = .int .i64 x13_1 ∧ Aside0 (r6_SameStrings.l0 kq l0 l1 (l0.length : Int) x13_1 = some r) ∧ Aside0 (kq ≤ k) ∧ Drawn0 w w')
  case atStart => exact ⟨(0), (by first | rfl | (simp; done) | (simp [*]; done)), H', ⟨Nat.le_refl _⟩, by repeat (first | exact Drawn0.refl _ | apply Drawn0.step)⟩
  case round =>
   clear H'
   try clear c1
   try clear p2
   try clear c3
   try clear c3b0
   try clear c3b1
   try clear c3b2
   obtain ⟨x13_1, rfl, HA, HK1, ⟨m1, rfl⟩⟩ := hrel
   cases gk with
   | zero => exact absurd HA.out (by simp [r6_SameStrings.l0])
   | succ k1 =>
    have H := HA.out
    clear HA
    simp only [r6_SameStrings.l0] at H
    by_cases c4 : x13_1 < (l0.length : Int)
    ·rw [if_pos c4] at H
     have c4b0 : decide (x13_1 < (l0.length : Int)) = true := decide_eq_true c4
     clear c4
     by_cases c5 : 0 ≤ x13_1
     ·rw [if_pos c5] at H
      have c5b0 : decide (0 ≤ x13_1) = true := decide_eq_true c5
      clear c5
      by_cases c6 : x13_1 < (l0.length : Int)
      ·rw [if_pos c6] at H
       have c6b0 : decide (x13_1 < (l0.length : Int)) = true := decide_eq_true c6
       clear c6
       by_cases c7 : x13_1 < (l1.length : Int)
       ·rw [if_pos c7] at H
        have c7b0 : decide (x13_1 < (l1.length : Int)) = true := decide_eq_true c7
        clear c7
        by_cases c8 : (rdOf ByteArray.empty l0 x13_1).toList = (rdOf ByteArray.empty l1 x13_1).toList
        ·rw [if_pos c8] at H
         have c8b0 : ((rdOf ByteArray.empty l0 x13_1).toList == (rdOf ByteArray.empty l1 x13_1).toList) = true := beq_iff_eq.mpr c8
         have c8b1 : ((rdOf ByteArray.empty l0 x13_1).toList != (rdOf ByteArray.empty l1 x13_1).toList) = false := bne_eq_false_iff_eq.mpr c8
         clear c8
         have H' := mk0 H
         clear H
         have p273 : 0 ≤ (x13_1 : Int) := of_decide_eq_true (by assumption)
         have q273 : x13_1 < (l0.length : Int) := of_decide_eq_true (by assumption)
         obtain ⟨ad273, e273, hx273_0⟩ := Kd.at_string HR0.out x13_1 p273 q273
         cases e273
         replace p273 := eq_true p273
         replace q273 := eq_true q273
         have p274 : 0 ≤ (x13_1 : Int) := of_decide_eq_true (by assumption)
         have q274 : x13_1 < (l1.length : Int) := of_decide_eq_true (by assumption)
         obtain ⟨ad274, e274, hx274_0⟩ := Kd.at_string HR1.out x13_1 p274 q274
         cases e274
         replace p274 := eq_true p274
         replace q274 := eq_true q274
         go_wp2
         repeat (go_quiet (fail); try go_wp2)
         go_roundg k1
         case measure => have := HK1.out; omega
         case rel => exact ⟨(wrap64 (x13_1 + 1)), (by first | rfl | (simp; done) | (simp [*]; done)), H', ⟨by have := HK1.out; omega⟩, by repeat (first | exact Drawn0.refl _ | apply Drawn0.step)⟩
        ·rw [if_neg c8] at H
         have c8b0 : ((rdOf ByteArray.empty l0 x13_1).toList == (rdOf ByteArray.empty l1 x13_1).toList) = false := beq_eq_false_iff_ne.mpr c8
         have c8b1 : ((rdOf ByteArray.empty l0 x13_1).toList != (rdOf ByteArray.empty l1 x13_1).toList) = true := bne_iff_ne.mpr c8
         obtain rfl := Option.some.inj H
         have p273 : 0 ≤ (x13_1 : Int) := of_decide_eq_true (by assumption)
         have q273 : x13_1 < (l0.length : Int) := of_decide_eq_true (by assumption)
         obtain ⟨ad273, e273, hx273_0⟩ := Kd.at_string HR0.out x13_1 p273 q273
         cases e273
         replace p273 := eq_true p273
         replace q273 := eq_true q273
         have p274 : 0 ≤ (x13_1 : Int) := of_decide_eq_true (by assumption)
         have q274 : x13_1 < (l1.length : Int) := of_decide_eq_true (by assumption)
         obtain ⟨ad274, e274, hx274_0⟩ := Kd.at_string HR1.out x13_1 p274 q274
         cases e274
         replace p274 := eq_true p274
         replace q274 := eq_true q274
         go_wp2
         repeat (go_quiet (fail); try go_wp2)
         go_ret
         exact ⟨by first | rfl | (simp; done) | (simp [*]; done), by repeat (first | exact Drawn0.refl _ | apply Drawn0.step)⟩
       ·rw [if_neg c7] at H
        exact absurd H (by simp)
      ·rw [if_neg c6] at H
       exact absurd H (by simp)
     ·rw [if_neg c5] at H
      exact absurd H (by simp)
    ·rw [if_neg c4] at H
     have c4b0 : decide (x13_1 < (l0.length : Int)) = false := decide_eq_false c4
     clear c4
     obtain rfl := Option.some.inj H
     go_wp2
     repeat (go_quiet (fail); try go_wp2)
     go_ret
     exact ⟨by first | rfl | (simp; done) | (simp [*]; done), by repeat (first | exact Drawn0.refl _ | apply Drawn0.step)⟩
 ·rw [if_neg c3] at H
  have c3b0 : ((l0.length : Int) == (l1.length : Int)) = false := beq_eq_false_iff_ne.mpr c3
  have c3b1 : ((l0.length : Int) != (l1.length : Int)) = true := bne_iff_ne.mpr c3
  have c3b2 : (l0.length == l1.length) = false := by first | simpa using c3 | (simp at c3 ⊢; omega)
  obtain rfl := Option.some.inj H
  go_enter Tryz.func7, Tryz.ntmps7
  go_wp2
  repeat (go_quiet (fail); try go_wp2)
  go_ret
  exact ⟨by first | rfl | (simp; done) | (simp [*]; done), by repeat (first | exact Drawn0.refl _ | apply Drawn0.step)⟩

/-! ### strings_Split: function 46 (by hand) -/


def strings_Split.f (a0 : ByteArray) (a1 : ByteArray) : Option (List ByteArray) := if a0.size < 4294967281 ∧ 1 ≤ a1.size then some (splitL a0 a1) else none
theorem strings_Split.calls (a0 : ByteArray) (a1 : ByteArray) (r1 : List ByteArray) (w : World) (hG : GL w) (h : strings_Split.f a0 a1 = some r1) :
  Calls Tryz.prog 46 #[.string a0, .string a1] w fun e w' => ∃ v0_ : Value, e = .returned (v0_) ∧ Kd.R Kd.string 9 w' w.heap.size (fun _ => True) v0_ r1 ∧ Below w.heap.size w w' := by
 unfold strings_Split.f at h
 split at h
 ·rename_i c
  obtain rfl := Option.some.inj h
  exact split_any a0 a1 c.1 c.2 w hG
 ·exact absurd h (by simp)

/-! ### strconv_Atoi: function 47 (by hand) -/


def strconv_Atoi.f (a0 : ByteArray) : Option (Int × Option Int) := if a0.size ≤ 281474976710656 then some (numOf a0.data.toList, none) else none
theorem strconv_Atoi.calls (a0 : ByteArray) (r1 : Int) (r2 : Option Int) (w : World) (hG : GL w) (h : strconv_Atoi.f a0 = some (r1, r2)) :
  Calls Tryz.prog 47 #[.string a0] w fun e w' => ∃ ev_ : Value, e = .returned (.tuple #[.int .i64 r1, ev_]) ∧ Below w.heap.size w w' := by
 unfold strconv_Atoi.f at h
 split at h
 ·rename_i c
  simp only [Option.some.injEq, Prod.mk.injEq] at h
  obtain ⟨rfl, rfl⟩ := h
  refine (atoi_any a0 c w hG).mono fun e w' hp => ?_
  obtain ⟨ev, _, he, hb⟩ := hp
  exact ⟨ev, he, hb⟩
 ·exact absurd h (by simp)

/-! ### slices_Min_int_int: function 58 (by hand) -/


def slices_Min_int_int.f (l0 : List Int) : Option (Int) := if 0 < l0.length ∧ l0.length ≤ 9223372036854775807 then some (Lib.minOf l0) else none
theorem slices_Min_int_int.calls (A0 : Option Addr) (c0 : Nat) (l0 : List Int) (r : Int) (w : World) (hr0 : Kd.C (Kd.int .i64) w A0 l0.length l0) (hc0 : l0.length ≤ c0) (h : slices_Min_int_int.f l0 = some r) :
  Calls Tryz.prog 58 #[.slice A0 l0.length c0] w fun e w' => e = .returned (.int .i64 r) ∧ Below w.heap.size w w' := by
 unfold slices_Min_int_int.f at h
 split at h
 ·rename_i c
  obtain rfl := Option.some.inj h
  exact min_any A0 c0 l0 w hr0 c.1 c.2
 ·exact absurd h (by simp)

/-! ### slices_Max_int_int: function 59 (by hand) -/


def slices_Max_int_int.f (l0 : List Int) : Option (Int) := if 0 < l0.length ∧ l0.length ≤ 9223372036854775807 then some (Lib.maxOf l0) else none
theorem slices_Max_int_int.calls (A0 : Option Addr) (c0 : Nat) (l0 : List Int) (r : Int) (w : World) (hr0 : Kd.C (Kd.int .i64) w A0 l0.length l0) (hc0 : l0.length ≤ c0) (h : slices_Max_int_int.f l0 = some r) :
  Calls Tryz.prog 59 #[.slice A0 l0.length c0] w fun e w' => e = .returned (.int .i64 r) ∧ Below w.heap.size w w' := by
 unfold slices_Max_int_int.f at h
 split at h
 ·rename_i c
  obtain rfl := Option.some.inj h
  exact max_any A0 c0 l0 w hr0 c.1 c.2
 ·exact absurd h (by simp)

/-! ### strconv_Itoa: function 60 (by hand) -/


def strconv_Itoa.f (a0 : Int) : Option (ByteArray) := if -9223372036854775808 ≤ a0 ∧ a0 ≤ 9223372036854775807 then some (itoaB a0) else none
theorem strconv_Itoa.calls (a0 : Int) (r : ByteArray) (w : World) (hG : GT w) (h : strconv_Itoa.f a0 = some r) :
  Calls Tryz.prog 60 #[.int .i64 a0] w fun e w' => e = .returned (.string r) ∧ Below w.heap.size w w' := by
 unfold strconv_Itoa.f at h
 split at h
 ·rename_i c
  obtain rfl := Option.some.inj h
  exact itoa_any a0 c.1 c.2 w hG
 ·exact absurd h (by simp)

/-! ### c_Format: function 48 -/
mutual
def c_Format.j0 : Nat → List Int → Bool → Option (ByteArray × Int)
 | 0, _, _ => none
 | k + 1, x0, x24 => if x24 = true then (some ((⟨#[]⟩ : ByteArray), 64)) else (if 0 < (x0.length : Int) then ((strconv_Itoa.f (rd x0 0)).bind fun t278 => (if (rd x0 0) < 10 then (if 1 + t278.size ≤ 9223372036854775807 then (c_Format.j1 k x0 ((⟨#[48]⟩ : ByteArray) ++ t278)) else (none)) else (c_Format.j1 k x0 t278))) else (none))
def c_Format.j1 : Nat → List Int → ByteArray → Option (ByteArray × Int)
 | 0, _, _ => none
 | k + 1, x0, x4 => if 1 ≤ (x0.length : Int) then (c_Format.l0 k x4 (x0.drop 1) ((x0.drop 1).length : Int) 0) else (none)
def c_Format.l0 : Nat → ByteArray → List Int → Int → Int → Option (ByteArray × Int)
 | 0, _, _, _, _ => none
 | k + 1, x4, x36, x37, x38 => if x38 < x37 then (if 0 ≤ x38 then (if x38 < (x36.length : Int) then ((strconv_Itoa.f (rd x36 x38)).bind fun t282 => (if 1 + t282.size ≤ 9223372036854775807 then (if x4.size + ((⟨#[46]⟩ : ByteArray) ++ t282).size ≤ 9223372036854775807 then (c_Format.l0 k (x4 ++ ((⟨#[46]⟩ : ByteArray) ++ t282)) x36 x37 (wrap64 (x38 + 1))) else (none)) else (none))) else (none)) else (none)) else (some (x4, 0))
end
def c_Format.f (k : Nat) (l0 : List Int) : Option (ByteArray × Int) := if (l0.length : Int) < 1 then (c_Format.j0 k l0 true) else (if (l0.length : Int) > 5 then (c_Format.j0 k l0 true) else ((slices_Min_int_int.f l0).bind fun t275 => (if t275 < 1 then (c_Format.j0 k l0 true) else ((slices_Max_int_int.f l0).bind fun t276 => (c_Format.j0 k l0 (decide (t276 > 99)))))))
theorem c_Format.mono_l : ∀ k, (∀ y0 y1, LeO (c_Format.j0 k y0 y1) (c_Format.j0 (k + 1) y0 y1)) ∧ (∀ y0 y1, LeO (c_Format.j1 k y0 y1) (c_Format.j1 (k + 1) y0 y1)) ∧ (∀ y0 y1 y2 y3, LeO (c_Format.l0 k y0 y1 y2 y3) (c_Format.l0 (k + 1) y0 y1 y2 y3))
 | 0 => ⟨fun _ _ r h => by simp [c_Format.j0] at h, fun _ _ r h => by simp [c_Format.j1] at h, fun _ _ _ _ r h => by simp [c_Format.l0] at h⟩
 | k + 1 => by
  obtain ⟨ih0, ih1, ih2⟩ := c_Format.mono_l k
  refine ⟨?_, ?_, ?_⟩
  ·intro y0 y1
   unfold c_Format.j0
   repeat' first
   | (with_reducible exact ih0 _ _)
   | (with_reducible exact ih1 _ _)
   | (with_reducible exact ih2 _ _ _ _)
   | (with_reducible exact LeO.refl _)
   | (with_reducible exact LeO.none _)
   | (with_reducible refine LeO.ite ?_ ?_)
   | (with_reducible refine LeO.bind ?_ (fun _ => ?_))
  ·intro y0 y1
   unfold c_Format.j1
   repeat' first
   | (with_reducible exact ih0 _ _)
   | (with_reducible exact ih1 _ _)
   | (with_reducible exact ih2 _ _ _ _)
   | (with_reducible exact LeO.refl _)
   | (with_reducible exact LeO.none _)
   | (with_reducible refine LeO.ite ?_ ?_)
   | (with_reducible refine LeO.bind ?_ (fun _ => ?_))
  ·intro y0 y1 y2 y3
   unfold c_Format.l0
   repeat' first
   | (with_reducible exact ih0 _ _)
   | (with_reducible exact ih1 _ _)
   | (with_reducible exact ih2 _ _ _ _)
   | (with_reducible exact LeO.refl _)
   | (with_reducible exact LeO.none _)
   | (with_reducible refine LeO.ite ?_ ?_)
   | (with_reducible refine LeO.bind ?_ (fun _ => ?_))
theorem c_Format.mono : ∀ a0 k, LeO (c_Format.f k a0) (c_Format.f (k + 1) a0) := by
 intro a0 k
 obtain ⟨ih0, ih1, ih2⟩ := c_Format.mono_l k
 unfold c_Format.f
 repeat' first
   | (with_reducible exact ih0 _ _)
   | (with_reducible exact ih1 _ _)
   | (with_reducible exact ih2 _ _ _ _)
   | (with_reducible exact LeO.refl _)
   | (with_reducible exact LeO.none _)
   | (with_reducible refine LeO.ite ?_ ?_)
   | (with_reducible refine LeO.bind ?_ (fun _ => ?_))
set_option maxHeartbeats 8000000 in
set_option maxRecDepth 100000 in
theorem c_Format.calls (k : Nat) (A0 : Option Addr) (c0 : Nat) (l0 : List Int) (r1 : ByteArray) (r2 : Int) (w : World) (hr0 : Kd.C (Kd.int .i64) w A0 l0.length l0) (hc0 : l0.length ≤ c0) (hG : GT w) (h : c_Format.f k l0 = some (r1, r2)) :
  Calls Tryz.prog 48 #[.slice A0 l0.length c0] w fun e w' => e = .returned (.tuple #[.string r1, .int .i64 r2]) ∧ Below w.heap.size w w' := by
 have HG := mk0 hG
 clear hG
 have HR0 := mk0 hr0
 have HC0 := mk0 hc0
 clear hr0 hc0
 have HB := mk0 (Below.refl w.heap.size w)
 have H : (if (l0.length : Int) < 1 then (c_Format.j0 k l0 true) else (if (l0.length : Int) > 5 then (c_Format.j0 k l0 true) else ((slices_Min_int_int.f l0).bind fun t275 => (if t275 < 1 then (c_Format.j0 k l0 true) else ((slices_Max_int_int.f l0).bind fun t276 => (c_Format.j0 k l0 (decide (t276 > 99)))))))) = some (r1, r2) := h
 clear h
 have HC2 := mk0 H
 clear H
 go_enter Tryz.func48, Tryz.ntmps48
 go_upto_region 1 with (fail)
 go_cut [24] (fun v24 wc => ∃ (kq : Nat) (x24_41 : Bool), v24 = .bool x24_41 ∧ Aside0 (c_Format.j0 kq l0 x24_41 = some (r1, r2)) ∧ Aside0 (kq ≤ k) ∧ Aside0 (Below w.heap.size w wc))
 case first =>
  have H := HC2.out
  clear HC2
  by_cases c3 : (l0.length : Int) < 1
  ·rw [if_pos c3] at H
   have c3b0 : decide ((l0.length : Int) < 1) = true := decide_eq_true c3
   have c3b1 : decide (l0.length < 1) = true := decide_eq_true (by omega)
   clear c3
   (first | rw [c3b0] | (simp only [i64_w, i32_w]; rw [c3b0]) | skip)
   have H' := mk0 H
   clear H
   go_wp2
   go_meet
   case rel => exact ⟨_, (true), (by first | rfl | (simp; done) | (simp [*]; done)), H', ⟨by first | omega | exact Nat.le_refl _⟩, ⟨by repeat (first | (with_reducible first | exact HB.out | apply b_a | apply b_n | apply b_d) | exact HB.out)⟩⟩
  ·rw [if_neg c3] at H
   have c3b0 : decide ((l0.length : Int) < 1) = false := decide_eq_false c3
   have c3b1 : decide (l0.length < 1) = false := decide_eq_false (by omega)
   clear c3
   (first | rw [c3b0] | (simp only [i64_w, i32_w]; rw [c3b0]) | skip)
   by_cases c4 : (l0.length : Int) > 5
   ·rw [if_pos c4] at H
    have c4b0 : decide (5 < (l0.length : Int)) = true := decide_eq_true c4
    have c4b1 : decide (5 < l0.length) = true := decide_eq_true (by omega)
    clear c4
    have H' := mk0 H
    clear H
    go_wp2
    go_meet
    case rel => exact ⟨_, (true), (by first | rfl | (simp; done) | (simp [*]; done)), H', ⟨by first | omega | exact Nat.le_refl _⟩, ⟨by repeat (first | (with_reducible first | exact HB.out | apply b_a | apply b_n | apply b_d) | exact HB.out)⟩⟩
   ·rw [if_neg c4] at H
    have c4b0 : decide (5 < (l0.length : Int)) = false := decide_eq_false c4
    have c4b1 : decide (5 < l0.length) = false := decide_eq_false (by omega)
    clear c4
    replace H := Option.bind_eq_some_iff.mp H
    obtain ⟨t275, A50, H⟩ := H
    replace H : (if t275 < 1 then (c_Format.j0 k l0 true) else ((slices_Max_int_int.f l0).bind fun t276 => (c_Format.j0 k l0 (decide (t276 > 99))))) = some (r1, r2) := H
    have A5 := mk0 A50
    clear A50
    by_cases c6 : t275 < 1
    ·rw [if_pos c6] at H
     have c6b0 : decide (t275 < 1) = true := decide_eq_true c6
     clear c6
     have H' := mk0 H
     clear H
     go_wp2_with (first | (go_at_call 58; (with_reducible refine (slices_Min_int_int.calls _ _ l0 t275 _ ?side1 ?side2 A5.out).mono ?_); (case side1 => repeat (first | exact (Kd.C_below HR0.out HB.out) | (with_reducible refine Kd.C_alloc ?_ _) | (with_reducible refine Kd.C_drewN ?_ _) | (with_reducible refine Kd.C_drew ?_))); (case side2 => exact HC0.out); rintro e w7 ⟨rfl, hb⟩; have n0_ := mk0 (below_step (by repeat (with_reducible first | exact HB.out | apply b_a | apply b_n | apply b_d)) hb); clear HB; have HB := n0_; clear n0_; (try clear hb); (try clear hb2); (try clear hk); (try clear hi)))
     go_meet
     case rel => exact ⟨_, (true), (by first | rfl | (simp; done) | (simp [*]; done)), H', ⟨by first | omega | exact Nat.le_refl _⟩, ⟨by repeat (first | (with_reducible first | exact HB.out | apply b_a | apply b_n | apply b_d) | exact HB.out)⟩⟩
    ·rw [if_neg c6] at H
     have c6b0 : decide (t275 < 1) = false := decide_eq_false c6
     clear c6
     replace H := Option.bind_eq_some_iff.mp H
     obtain ⟨t276, A80, H⟩ := H
     replace H : (c_Format.j0 k l0 (decide (t276 > 99))) = some (r1, r2) := H
     have A8 := mk0 A80
     clear A80
     have H' := mk0 H
     clear H
     go_wp2_with (first | (go_at_call 58; (with_reducible refine (slices_Min_int_int.calls _ _ l0 t275 _ ?side1 ?side2 A5.out).mono ?_); (case side1 => repeat (first | exact (Kd.C_below HR0.out HB.out) | (with_reducible refine Kd.C_alloc ?_ _) | (with_reducible refine Kd.C_drewN ?_ _) | (with_reducible refine Kd.C_drew ?_))); (case side2 => exact HC0.out); rintro e w9 ⟨rfl, hb⟩; have n0_ := mk0 (below_step (by repeat (with_reducible first | exact HB.out | apply b_a | apply b_n | apply b_d)) hb); clear HB; have HB := n0_; clear n0_; (try clear hb); (try clear hb2); (try clear hk); (try clear hi)) | (go_at_call 59; (with_reducible refine (slices_Max_int_int.calls _ _ l0 t276 _ ?side1 ?side2 A8.out).mono ?_); (case side1 => repeat (first | exact (Kd.C_below HR0.out HB.out) | (with_reducible refine Kd.C_alloc ?_ _) | (with_reducible refine Kd.C_drewN ?_ _) | (with_reducible refine Kd.C_drew ?_))); (case side2 => exact HC0.out); rintro e w10 ⟨rfl, hb⟩; have n0_ := mk0 (below_step (by repeat (with_reducible first | exact HB.out | apply b_a | apply b_n | apply b_d)) hb); clear HB; have HB := n0_; clear n0_; (try clear hb); (try clear hb2); (try clear hk); (try clear hi)))
     go_meet
     case rel => exact ⟨_, (decide (t276 > 99)), (by first | rfl | (simp; done) | (simp [*]; done)), H', ⟨by first | omega | exact Nat.le_refl _⟩, ⟨by repeat (first | (with_reducible first | exact HB.out | apply b_a | apply b_n | apply b_d) | exact HB.out)⟩⟩
 case rest =>
  clear HC2
  try clear p2
  try clear c3
  try clear c3b0
  try clear c3b1
  try clear c4
  try clear c4b0
  try clear c4b1
  try clear c6
  try clear c6b0
  obtain ⟨kq, x24_41, rfl, HA, HJ41, HB⟩ := hcut
  cases kq with
  | zero => exact absurd HA.out (by simp [c_Format.j0])
  | succ kj41 =>
   have H := HA.out
   clear HA
   simp only [c_Format.j0] at H
   by_cases c11 : x24_41 = true
   ·subst c11
    have H1 : (some ((⟨#[]⟩ : ByteArray), 64)) = some (r1, r2) := by rw [if_pos rfl] at H; exact H
    clear H
    have H := H1
    clear H1
    simp only [Option.some.injEq, Prod.mk.injEq] at H
    obtain ⟨rfl, rfl⟩ := H
    go_wp2
    go_ret2
    exact ⟨by first | rfl | (simp [errW_none, errW_some] <;> rfl) | (simp [*, errW_none, errW_some] <;> rfl), by repeat (first | (with_reducible first | exact HB.out | apply b_a | apply b_n | apply b_d) | exact HB.out)⟩
   ·replace c11 := Bool.eq_false_iff.mpr c11
    subst c11
    have H1 : (if 0 < (l0.length : Int) then ((strconv_Itoa.f (rd l0 0)).bind fun t278 => (if (rd l0 0) < 10 then (if 1 + t278.size ≤ 9223372036854775807 then (c_Format.j1 kj41 l0 ((⟨#[48]⟩ : ByteArray) ++ t278)) else (none)) else (c_Format.j1 kj41 l0 t278))) else (none)) = some (r1, r2) := by rw [if_neg (show ¬ (false = true) by decide)] at H; exact H
    clear H
    have H := H1
    clear H1
    by_cases c12 : 0 < (l0.length : Int)
    ·rw [if_pos c12] at H
     have c12b0 : decide (0 < (l0.length : Int)) = true := decide_eq_true c12
     have c12b1 : decide (0 < l0.length) = true := decide_eq_true (by omega)
     clear c12
     replace H := Option.bind_eq_some_iff.mp H
     obtain ⟨t278, A130, H⟩ := H
     replace H : (if (rd l0 0) < 10 then (if 1 + t278.size ≤ 9223372036854775807 then (c_Format.j1 kj41 l0 ((⟨#[48]⟩ : ByteArray) ++ t278)) else (none)) else (c_Format.j1 kj41 l0 t278)) = some (r1, r2) := H
     have A13 := mk0 A130
     clear A130
     have HC14 := mk0 H
     clear H
     have p277 : 0 ≤ (0 : Int) := (by omega)
     have q277 : 0 < (l0.length : Int) := of_decide_eq_true (by assumption)
     obtain ⟨ad277, e277, hx277_0⟩ := Kd.at_int HR0.out 0 p277 q277
     cases e277
     have qi277 : (0 < l0.length) = True := eq_true (by omega)
     (try rw [show ((0 : Int)).toNat = 0 from rfl] at hx277_0)
     (try rw [Addr.add_zero'] at hx277_0)
     replace hx277_0 := (HB.out.cell (World.block_lt_of_cell? w _ hx277_0)).trans hx277_0
     replace p277 := eq_true p277
     replace q277 := eq_true q277
     (try have q277x := q277)
     (try simp only [List.length_drop] at q277x)
     go_upto_if 32 with (first | ((with_reducible refine gate_callee (f := 60) rfl ?_); refine goesL_ (some 28) rfl rfl Tryz.func60 (by kernel_rfl) rfl #[.int .i64 (rd l0 0)] rfl (by (try simp only [List.map_toArray, List.map_cons, List.map_nil]); first | done | rfl) ?_; (with_reducible refine (strconv_Itoa.calls (rd l0 0) t278 _ ?side1 A13.out).mono ?_); (case side1 => first | exact HG.out | exact GT.below HG.out (by repeat (with_reducible first | exact HB.out | apply b_a | apply b_n | apply b_d))); rintro e w15 ⟨rfl, hb⟩; refine ⟨_, rfl, ?_⟩; have n0_ := mk0 (below_step (by repeat (with_reducible first | exact HB.out | apply b_a | apply b_n | apply b_d)) hb); clear HB; have HB := n0_; clear n0_; (try clear hb); have p279 : 0 ≤ (0 : Int) := (by omega); have q279 : 0 < (l0.length : Int) := of_decide_eq_true (by assumption); obtain ⟨ad279, e279, hx279_0⟩ := Kd.at_int HR0.out 0 p279 q279; obtain rfl : ad277 = ad279 := (by injection e279); have qi279 : (0 < l0.length) = True := eq_true (by omega); (try rw [show ((0 : Int)).toNat = 0 from rfl] at hx279_0); (try rw [Addr.add_zero'] at hx279_0); replace hx279_0 := (HB.out.cell (World.block_lt_of_cell? w _ hx279_0)).trans hx279_0; replace p279 := eq_true p279; replace q279 := eq_true q279))
     (try simp only [Act.put, List.setIfInBounds_toArray, List.set_cons_zero, List.set_cons_succ])
     go_cut [4] (fun v4 wc => ∃ (kq : Nat) (x4_53 : ByteArray), v4 = .string x4_53 ∧ Aside0 (c_Format.j1 kq l0 x4_53 = some (r1, r2)) ∧ Aside0 (kq ≤ kj41) ∧ Aside0 (Below w.heap.size w wc))
     case first =>
      have H := HC14.out
      clear HC14
      by_cases c16 : (rd l0 0) < 10
      ·rw [if_pos c16] at H
       have c16b0 : decide ((rd l0 0) < 10) = true := decide_eq_true c16
       clear c16
       (first | rw [c16b0] | (simp only [i64_w, i32_w]; rw [c16b0]) | skip)
       by_cases c17 : 1 + t278.size ≤ 9223372036854775807
       ·rw [if_pos c17] at H
        have c17b0 := eq_true c17
        have c17b1 : decide (1 + t278.size ≤ 9223372036854775807) = true := decide_eq_true c17
        try have c17b2 : (9223372036854775807 < 1 + t278.size) = False := eq_false (Nat.not_lt.2 c17)
        have H' := mk0 H
        clear H
        go_wp2
        go_meet
        case rel => exact ⟨_, ((⟨#[48]⟩ : ByteArray) ++ t278), (by first | rfl | (simp; done) | (simp [*]; done)), H', ⟨by have := HJ41.out; first | omega | exact Nat.le_refl _⟩, ⟨by repeat (first | (with_reducible first | exact HB.out | apply b_a | apply b_n | apply b_d) | exact HB.out)⟩⟩
       ·rw [if_neg c17] at H
        exact absurd H (by simp)
      ·rw [if_neg c16] at H
       have c16b0 : decide ((rd l0 0) < 10) = false := decide_eq_false c16
       clear c16
       (first | rw [c16b0] | (simp only [i64_w, i32_w]; rw [c16b0]) | skip)
       have H' := mk0 H
       clear H
       go_wp2
       go_meet
       case rel => exact ⟨_, (t278), (by first | rfl | (simp; done) | (simp [*]; done)), H', ⟨by have := HJ41.out; first | omega | exact Nat.le_refl _⟩, ⟨by repeat (first | (with_reducible first | exact HB.out | apply b_a | apply b_n | apply b_d) | exact HB.out)⟩⟩
     case rest =>
      clear HC14
      try clear c1
      try clear p2
      try clear q2
      try clear hx2
      try clear qi2
      try clear c3
      try clear c3b0
      try clear c3b1
      try clear c4
      try clear c4b0
      try clear c4b1
      try clear c6
      try clear c6b0
      try clear c11
      try clear c12
      try clear c12b0
      try clear c12b1
      try clear c16
      try clear c16b0
      try clear c17
      try clear c17b0
      try clear c17b1
      try clear c17b2
      try clear hx277_0
      try clear hx279_0
      try clear p2
      try clear p277
      try clear p279
      try clear q277
      try clear q279
      obtain ⟨kq, x4_53, rfl, HA, HJ53, HB⟩ := hcut
      cases kq with
      | zero => exact absurd HA.out (by simp [c_Format.j1])
      | succ kj53 =>
       have H := HA.out
       clear HA
       simp only [c_Format.j1] at H
       by_cases c18 : 1 ≤ (l0.length : Int)
       ·rw [if_pos c18] at H
        have c18b0 := eq_true c18
        have c18b1 : decide (1 ≤ (l0.length : Int)) = true := decide_eq_true c18
        clear c18
        have H' := mk0 H
        clear H
        obtain ⟨i019, hi019, _, hsz19, _⟩ := info_parts info3
        obtain ⟨A19, hcut19, hA19, hC19⟩ := print_drop_of (P := Tryz.prog) (Value.int .i64) 0 25 3 .i64 Tryz.underlying25 hi019 hsz19 (some ad277) c0 l0 1 (by omega) (of_decide_eq_true (by assumption)) HC0.out
        have HR280 := mk0 (Kd.C_of_reads (h1 := fun _ => rfl) (hA19 _ (Kd.reads_of_C HR0.out)))
        have HC280 := mk0 hC19
        clear hA19 hC19 hi019 hsz19
        go_wp2
        go_loopg [4, 38] kj53 (fun kq v4 v38 w' => ∃ (x4_3 : ByteArray) (x38_3 : Int), v4 = .string x4_3 ∧ v38 = .int .i64 x38_3 ∧ Aside0 (c_Format.l0 kq x4_3 (l0.drop 1) ((l0.drop 1).length : Int) x38_3 = some (r1, r2)) ∧ Aside0 (kq ≤ kj53) ∧ Aside0 (Below w.heap.size w w'))
        case atStart => exact ⟨(x4_53), (0), (by first | rfl | (simp; done) | (simp [*]; done)), (by first | rfl | (simp; done) | (simp [*]; done)), H', ⟨Nat.le_refl _⟩, ⟨by repeat (first | (with_reducible first | exact HB.out | apply b_a | apply b_n | apply b_d) | exact HB.out)⟩⟩
        case round =>
         clear H'
         try clear c1
         try clear p2
         try clear q2
         try clear hx2
         try clear qi2
         try clear c3
         try clear c3b0
         try clear c3b1
         try clear c4
         try clear c4b0
         try clear c4b1
         try clear c6
         try clear c6b0
         try clear c11
         try clear c12
         try clear c12b0
         try clear c12b1
         try clear c16
         try clear c16b0
         try clear c17
         try clear c17b0
         try clear c17b1
         try clear c17b2
         try clear c18
         try clear c18b0
         try clear c18b1
         try clear hx277_0
         try clear hx279_0
         try clear p2
         try clear p277
         try clear p279
         try clear q2
         try clear q277
         try clear q279
         obtain ⟨x4_3, x38_3, rfl, rfl, HA, HK3, HB⟩ := hrel
         cases gk with
         | zero => exact absurd HA.out (by simp [c_Format.l0])
         | succ k3 =>
          have H := HA.out
          clear HA
          simp only [c_Format.l0] at H
          by_cases c20 : x38_3 < ((l0.drop 1).length : Int)
          ·rw [if_pos c20] at H
           have c20b0 : decide (x38_3 < ((l0.drop 1).length : Int)) = true := decide_eq_true c20
           (try have c20b0x := c20b0)
           (try simp only [List.length_drop] at c20b0x)
           clear c20
           by_cases c21 : 0 ≤ x38_3
           ·rw [if_pos c21] at H
            have c21b0 : decide (0 ≤ x38_3) = true := decide_eq_true c21
            clear c21
            by_cases c22 : x38_3 < ((l0.drop 1).length : Int)
            ·rw [if_pos c22] at H
             have c22b0 : decide (x38_3 < ((l0.drop 1).length : Int)) = true := decide_eq_true c22
             (try have c22b0x := c22b0)
             (try simp only [List.length_drop] at c22b0x)
             clear c22
             replace H := Option.bind_eq_some_iff.mp H
             obtain ⟨t282, A230, H⟩ := H
             replace H : (if 1 + t282.size ≤ 9223372036854775807 then (if x4_3.size + ((⟨#[46]⟩ : ByteArray) ++ t282).size ≤ 9223372036854775807 then (c_Format.l0 k3 (x4_3 ++ ((⟨#[46]⟩ : ByteArray) ++ t282)) (l0.drop 1) ((l0.drop 1).length : Int) (wrap64 (x38_3 + 1))) else (none)) else (none)) = some (r1, r2) := H
             have A23 := mk0 A230
             clear A230
             by_cases c24 : 1 + t282.size ≤ 9223372036854775807
             ·rw [if_pos c24] at H
              have c24b0 := eq_true c24
              have c24b1 : decide (1 + t282.size ≤ 9223372036854775807) = true := decide_eq_true c24
              try have c24b2 : (9223372036854775807 < 1 + t282.size) = False := eq_false (Nat.not_lt.2 c24)
              by_cases c25 : x4_3.size + ((⟨#[46]⟩ : ByteArray) ++ t282).size ≤ 9223372036854775807
              ·rw [if_pos c25] at H
               have c25b0 := eq_true c25
               have c25b1 : decide (x4_3.size + ((⟨#[46]⟩ : ByteArray) ++ t282).size ≤ 9223372036854775807) = true := decide_eq_true c25
               try have c25b2 : (9223372036854775807 < x4_3.size + ((⟨#[46]⟩ : ByteArray) ++ t282).size) = False := eq_false (Nat.not_lt.2 c25)
               have H' := mk0 H
               clear H
               have p281 : 0 ≤ (x38_3 : Int) := of_decide_eq_true (by assumption)
               have q281 : x38_3 < ((l0.drop 1).length : Int) := of_decide_eq_true (by assumption)
               obtain ⟨ad281, e281, hx281_0⟩ := Kd.at_int HR280.out x38_3 p281 q281
               cases e281
               replace hx281_0 := (HB.out.cell (World.block_lt_of_cell? w _ hx281_0)).trans hx281_0
               replace p281 := eq_true p281
               replace q281 := eq_true q281
               (try have q281x := q281)
               (try simp only [List.length_drop] at q281x)
               simp only [List.drop_one] at A23
               go_wp2_with (first | ((with_reducible refine gate_callee (f := 60) rfl ?_); refine goesL_ (some 44) rfl rfl Tryz.func60 (by kernel_rfl) rfl #[.int .i64 (rd l0.tail x38_3)] rfl (by (try simp only [List.map_toArray, List.map_cons, List.map_nil]); first | done | rfl | (simp only [List.length_drop, List.length_take]; rfl)) ?_; (with_reducible refine (strconv_Itoa.calls (rd l0.tail x38_3) t282 _ ?side1 A23.out).mono ?_); (case side1 => first | exact HG.out | exact GT.below HG.out (by repeat (with_reducible first | exact HB.out | apply b_a | apply b_n | apply b_d))); rintro e w26 ⟨rfl, hb⟩; refine ⟨_, rfl, ?_⟩; have n0_ := mk0 (below_step (by repeat (with_reducible first | exact HB.out | apply b_a | apply b_n | apply b_d)) hb); clear HB; have HB := n0_; clear n0_; (try clear hb)))
               go_roundg k3
               case measure => have := HJ41.out; have := HJ53.out; have := HK3.out; omega
               case rel => exact ⟨(x4_3 ++ ((⟨#[46]⟩ : ByteArray) ++ t282)), (wrap64 (x38_3 + 1)), (by first | rfl | (simp; done) | (simp [*]; done)), (by first | rfl | (simp; done) | (simp [*]; done)), H', ⟨by have := HJ41.out; have := HJ53.out; have := HK3.out; omega⟩, ⟨by repeat (first | (with_reducible first | exact HB.out | apply b_a | apply b_n | apply b_d) | exact HB.out)⟩⟩
              ·rw [if_neg c25] at H
               exact absurd H (by simp)
             ·rw [if_neg c24] at H
              exact absurd H (by simp)
            ·rw [if_neg c22] at H
             exact absurd H (by simp)
           ·rw [if_neg c21] at H
            exact absurd H (by simp)
          ·rw [if_neg c20] at H
           have c20b0 : decide (x38_3 < ((l0.drop 1).length : Int)) = false := decide_eq_false c20
           (try have c20b0x := c20b0)
           (try simp only [List.length_drop] at c20b0x)
           clear c20
           simp only [Option.some.injEq, Prod.mk.injEq] at H
           obtain ⟨rfl, rfl⟩ := H
           go_wp2
           go_ret2
           exact ⟨by first | rfl | (simp [errW_none, errW_some] <;> rfl) | (simp [*, errW_none, errW_some] <;> rfl), by repeat (first | (with_reducible first | exact HB.out | apply b_a | apply b_n | apply b_d) | exact HB.out)⟩
       ·rw [if_neg c18] at H
        exact absurd H (by simp)
    ·rw [if_neg c12] at H
     exact absurd H (by simp)

/-! ### c_Parse: function 31 -/
def c_Parse.l0 : Nat → ByteArray → List Int → List ByteArray → Int → Int → Option (List Int × Int)
 | 0, _, _, _, _, _ => none
 | k + 1, x0, x4, x12, x13, x14 => if x14 < x13 then (if 0 ≤ x14 then (if x14 < (x12.length : Int) then ((strconv_Atoi.f (rdOf ByteArray.empty x12 x14)).bind fun bt287 => (if x4.length < 17592186044416 then (c_Parse.l0 k x0 (x4 ++ [bt287.1]) x12 x13 (wrap64 (x14 + 1))) else (none))) else (none)) else (none)) else ((c_Format.f k x4).bind fun bt292 => (if bt292.2 = 0 then (if bt292.1.toList = x0.toList then (some (x4, 0)) else (some (([] : List Int), 60))) else (some (([] : List Int), 60))))
def c_Parse.f (k : Nat) (a0 : ByteArray) : Option (List Int × Int) := (strings_Split.f a0 (⟨#[46]⟩ : ByteArray)).bind fun t283 => (c_Parse.l0 k a0 ([] : List Int) t283 (t283.length : Int) 0)
theorem c_Parse.mono_l : ∀ k, (∀ y0 y1 y2 y3 y4, LeO (c_Parse.l0 k y0 y1 y2 y3 y4) (c_Parse.l0 (k + 1) y0 y1 y2 y3 y4))
 | 0 => fun _ _ _ _ _ r h => by simp [c_Parse.l0] at h
 | k + 1 => by
  have ih0 := c_Parse.mono_l k
  ·intro y0 y1 y2 y3 y4
   unfold c_Parse.l0
   repeat' first
   | (with_reducible exact ih0 _ _ _ _ _)
   | (with_reducible exact c_Format.mono _ _)
   | (with_reducible exact LeO.refl _)
   | (with_reducible exact LeO.none _)
   | (with_reducible refine LeO.ite ?_ ?_)
   | (with_reducible refine LeO.bind ?_ (fun _ => ?_))
theorem c_Parse.mono : ∀ a0 k, LeO (c_Parse.f k a0) (c_Parse.f (k + 1) a0) := by
 intro a0 k
 have ih0 := c_Parse.mono_l k
 unfold c_Parse.f
 repeat' first
   | (with_reducible exact ih0 _ _ _ _ _)
   | (with_reducible exact c_Format.mono _ _)
   | (with_reducible exact LeO.refl _)
   | (with_reducible exact LeO.none _)
   | (with_reducible refine LeO.ite ?_ ?_)
   | (with_reducible refine LeO.bind ?_ (fun _ => ?_))
set_option maxHeartbeats 8000000 in
set_option maxRecDepth 100000 in
theorem c_Parse.calls (k : Nat) (a0 : ByteArray) (r1 : List Int) (r2 : Int) (w : World) (hG : GL w) (h : c_Parse.f k a0 = some (r1, r2)) :
  Calls Tryz.prog 31 #[.string a0] w fun e w' => ∃ v0_ : Value, e = .returned (.tuple #[v0_, .int .i64 r2]) ∧ Kd.R (Kd.int .i64) 3 w' w.heap.size (fun _ => True) v0_ r1 ∧ Below w.heap.size w w' := by
 have HG := mk0 hG
 clear hG
 have HB := mk0 (Below.refl w.heap.size w)
 have H : ((strings_Split.f a0 (⟨#[46]⟩ : ByteArray)).bind fun t283 => (c_Parse.l0 k a0 ([] : List Int) t283 (t283.length : Int) 0)) = some (r1, r2) := h
 clear h
 replace H := Option.bind_eq_some_iff.mp H
 obtain ⟨t283, A20, H⟩ := H
 replace H : (c_Parse.l0 k a0 ([] : List Int) t283 (t283.length : Int) 0) = some (r1, r2) := H
 have A2 := mk0 A20
 clear A20
 have H' := mk0 H
 clear H
 go_enter Tryz.func31, Tryz.ntmps31
 go_wp2_with (first | ((with_reducible refine gate_callee (f := 46) rfl ?_); refine goesL_ (some 12) rfl rfl Tryz.func46 (by kernel_rfl) rfl #[.string a0, .string (⟨#[46]⟩ : ByteArray)] rfl (by (try simp only [List.map_toArray, List.map_cons, List.map_nil]); first | done | rfl) ?_; (with_reducible refine (strings_Split.calls a0 (⟨#[46]⟩ : ByteArray) t283 _ ?side1 A2.out).mono ?_); (case side1 => first | exact HG.out | exact GL.below HG.out (by repeat (with_reducible first | exact HB.out | apply b_a | apply b_n | apply b_d))); rintro e w3 ⟨v284, rfl, ho0, hb⟩; refine ⟨_, rfl, ?_⟩; have n0_ := mk0 (Kd.R_lower ho0 (below_size (by repeat (with_reducible first | exact HB.out | apply b_a | apply b_n | apply b_d)))); have n1_ := mk0 (below_step (by repeat (with_reducible first | exact HB.out | apply b_a | apply b_n | apply b_d)) hb); clear HB; have HO285 := n0_; have HB := n1_; clear n0_ n1_; (try clear hb); (try clear hb2); (try clear hk); (try clear hi); (try clear ho0); obtain ⟨Ao4, co4, eo4⟩ := Kd.R_slice HO285.out; subst eo4))
 go_loopg [4, 14] k (fun kq v4 v14 w' => ∃ (x4_1 : List Int) (x14_1 : Int), v14 = .int .i64 x14_1 ∧ Aside0 (c_Parse.l0 kq a0 x4_1 t283 (t283.length : Int) x14_1 = some (r1, r2)) ∧ Aside0 (kq ≤ k) ∧ Aside0 (Kd.R (Kd.int .i64) 3 w' w.heap.size (fun _ => True) v4 x4_1) ∧ Aside0 (Kd.R Kd.string 9 w' w.heap.size (fun _ => True) (.slice Ao4 t283.length co4) t283) ∧ Aside0 (Below w.heap.size w w'))
 case atStart => exact ⟨(([] : List Int)), (0), (by first | rfl | (simp; done) | (simp [*]; done)), H', ⟨Nat.le_refl _⟩, ⟨by first | exact Kd.R_nil _ _ _ _ _ | exact Kd.N_nil _ _ _ _ _ | exact Kd.V_nil _ _ _ _ _ | exact Kd.Q_nil _ _ _ _ _ | exact Kd.S_nil _ _ _ _ _⟩, ⟨by (with_reducible repeat (first | apply r_a | apply r_n | apply r_d)); exact HO285.out⟩, ⟨by repeat (first | (with_reducible first | exact HB.out | apply b_a | apply b_n | apply b_d) | exact HB.out)⟩⟩
 case round =>
  clear H'
  try clear p2
  try clear c3
  try clear c4
  obtain ⟨x4_1, x14_1, rfl, HA, HK1, HO_4, HO_12, HB⟩ := hrel
  cases gk with
  | zero => exact absurd HA.out (by simp [c_Parse.l0])
  | succ k1 =>
   have H := HA.out
   clear HA
   simp only [c_Parse.l0] at H
   by_cases c5 : x14_1 < (t283.length : Int)
   ·rw [if_pos c5] at H
    have c5b0 : decide (x14_1 < (t283.length : Int)) = true := decide_eq_true c5
    clear c5
    by_cases c6 : 0 ≤ x14_1
    ·rw [if_pos c6] at H
     have c6b0 : decide (0 ≤ x14_1) = true := decide_eq_true c6
     clear c6
     by_cases c7 : x14_1 < (t283.length : Int)
     ·rw [if_pos c7] at H
      have c7b0 : decide (x14_1 < (t283.length : Int)) = true := decide_eq_true c7
      clear c7
      replace H := Option.bind_eq_some_iff.mp H
      obtain ⟨⟨t287, t288⟩, A80, H⟩ := H
      replace H : (if x4_1.length < 17592186044416 then (c_Parse.l0 k1 a0 (x4_1 ++ [t287]) t283 (t283.length : Int) (wrap64 (x14_1 + 1))) else (none)) = some (r1, r2) := H
      have A8 := mk0 A80
      clear A80
      by_cases c9 : x4_1.length < 17592186044416
      ·rw [if_pos c9] at H
       have LMc9 := mk0 c9
       clear c9
       obtain ⟨y289, hy289⟩ : ∃ y_ : List Int, y_ = (x4_1 ++ [t287]) := ⟨_, rfl⟩
       replace H : (c_Parse.l0 k1 a0 y289 t283 (t283.length : Int) (wrap64 (x14_1 + 1))) = some (r1, r2) := by first | (rw [hy289]; with_reducible exact H) | (have H2_ := (Option.bind_some _ _).symm.trans H; rw [hy289]; with_reducible exact H2_) | (have H2_ := (Option.bind_some _ _).symm.trans H; with_reducible exact H2_) | with_reducible exact H | (rw [hy289]; exact H) | exact H
       have Ny289 := mk0 hy289
       clear hy289
       have H' := mk0 H
       clear H
       have p286 : 0 ≤ (x14_1 : Int) := of_decide_eq_true (by assumption)
       have q286 : x14_1 < (t283.length : Int) := of_decide_eq_true (by assumption)
       obtain ⟨ad286, e286, hx286_0⟩ := Kd.at_string (Kd.R_reads' HO_12.out).2.2 x14_1 p286 q286
       cases e286
       replace p286 := eq_true p286
       replace q286 := eq_true q286
       go_wp2_with (first | ((with_reducible refine gate_callee (f := 47) rfl ?_); refine goesL_ (some 20) rfl rfl Tryz.func47 (by kernel_rfl) rfl #[.string (rdOf ByteArray.empty t283 x14_1)] rfl (by (try simp only [List.map_toArray, List.map_cons, List.map_nil]); first | done | rfl) ?_; (with_reducible refine (strconv_Atoi.calls (rdOf ByteArray.empty t283 x14_1) t287 t288 _ ?side1 A8.out).mono ?_); (case side1 => first | exact HG.out | exact GL.below HG.out (by repeat (with_reducible first | exact HB.out | apply b_a | apply b_n | apply b_d))); rintro e w10 ⟨ev_, rfl, hb⟩; refine ⟨_, rfl, ?_⟩; have n0_ := mk0 (Kd.R_below (by (with_reducible repeat (first | apply r_a | apply r_n | apply r_d)); exact HO_4.out) hb); have n1_ := mk0 (Kd.R_below (by (with_reducible repeat (first | apply r_a | apply r_n | apply r_d)); exact HO_12.out) hb); have n2_ := mk0 (below_step (by repeat (with_reducible first | exact HB.out | apply b_a | apply b_n | apply b_d)) hb); clear HO_4; clear HO_12; clear HB; have HO_4 := n0_; have HO_12 := n1_; have HB := n2_; clear n0_ n1_ n2_; (try clear hb); (try simp only [errW_none, errW_some])) | ((with_reducible refine gate_builtin (b := .append) (xs := #[.tmp 23, .tmp 25]) rfl ?_); at_builtin; refine Kd.R_append (Kd.int .i64) (w0 := w) w.heap.size rfl (.tmp 23) (.tmp 25) 25 3 (.int .i64 0) 8 rfl Tryz.underlying25 info3 rfl (by decide) (by omega) u4 x4_1 t287 [.int .i64 t287] (fun _ => True) (fun _ => False) rfl rfl ?aP (fun _ hk => hk.elim) ?aF ?aO ?aB ?aS ?aL ?_; (case aP => exact rfl); (case aB => exact (by repeat (with_reducible first | exact HB.out | apply b_a | apply b_n | apply b_d))); (case aF => exact (fun _ _ => trivial)); (case aO => exact (by (with_reducible repeat (first | apply r_a | apply r_n | apply r_d)); exact HO_4.out)); (case aS => exact (below_size (by repeat (with_reducible first | exact HB.out | apply b_a | apply b_n | apply b_d)))); (case aL => have := LMc9.out; omega); intro v290 w11 ho hb hg hat; rw [← Ny289.out] at ho; have n0_ := mk0 (Kd.R_over' (by (with_reducible repeat (first | apply r_a | apply r_n | apply r_d)); exact HO_12.out) (Kd.R_typed (by (with_reducible repeat (first | apply r_a | apply r_n | apply r_d)); exact HO_4.out)) (by decide) hg); have n1_ := mk0 (hb); have n2_ := mk0 (ho); clear HO_12; clear HB; clear HO_4; have HO_12 := n0_; have HB := n1_; have HO291 := n2_; clear n0_ n1_ n2_; clear ho hb hg hat))
       go_roundg k1
       case measure => have := HK1.out; omega
       case rel => exact ⟨(y289), (wrap64 (x14_1 + 1)), (by first | rfl | (simp; done) | (simp [*]; done)), H', ⟨by have := HK1.out; omega⟩, ⟨by (with_reducible repeat (first | apply r_a | apply r_n | apply r_d)); exact HO291.out⟩, ⟨by (with_reducible repeat (first | apply r_a | apply r_n | apply r_d)); exact HO_12.out⟩, ⟨by repeat (first | (with_reducible first | exact HB.out | apply b_a | apply b_n | apply b_d) | exact HB.out)⟩⟩
      ·rw [if_neg c9] at H
       exact absurd H (by simp)
     ·rw [if_neg c7] at H
      exact absurd H (by simp)
    ·rw [if_neg c6] at H
     exact absurd H (by simp)
   ·rw [if_neg c5] at H
    have c5b0 : decide (x14_1 < (t283.length : Int)) = false := decide_eq_false c5
    clear c5
    replace H := Option.bind_eq_some_iff.mp H
    obtain ⟨⟨t292, t293⟩, A120, H⟩ := H
    replace H : (if t293 = 0 then (if t292.toList = a0.toList then (some (x4_1, 0)) else (some (([] : List Int), 60))) else (some (([] : List Int), 60))) = some (r1, r2) := H
    have A12 := mk0 A120
    clear A120
    by_cases c13 : t293 = 0
    ·rw [if_pos c13] at H
     have c13b0 : (t293 == 0) = true := beq_iff_eq.mpr c13
     have c13b1 : (t293 != 0) = false := bne_eq_false_iff_eq.mpr c13
     clear c13
     by_cases c14 : t292.toList = a0.toList
     ·rw [if_pos c14] at H
      have c14b0 : (t292.toList == a0.toList) = true := beq_iff_eq.mpr c14
      have c14b1 : (t292.toList != a0.toList) = false := bne_eq_false_iff_eq.mpr c14
      clear c14
      simp only [Option.some.injEq, Prod.mk.injEq] at H
      obtain ⟨rfl, rfl⟩ := H
      obtain ⟨Ao15, co15, eo15⟩ := Kd.R_slice HO_4.out
      subst eo15
      go_wp2_with (first | ((with_reducible refine gate_callee (f := 48) rfl ?_); refine goesL_ (some 30) rfl rfl Tryz.func48 (by kernel_rfl) rfl #[.slice Ao15 x4_1.length co15] rfl (by (try simp only [List.map_toArray, List.map_cons, List.map_nil]); first | done | rfl) ?_; (with_reducible refine (c_Format.calls k1 _ _ x4_1 t292 t293 _ ?side1 ?side2 ?side3 A12.out).mono ?_); (case side1 => repeat (first | exact (Kd.R_reads' HO_4.out).2.2 | (with_reducible refine Kd.C_alloc ?_ _) | (with_reducible refine Kd.C_drewN ?_ _) | (with_reducible refine Kd.C_drew ?_))); (case side2 => exact (Kd.R_reads' HO_4.out).2.1); (case side3 => first | exact HG.out | exact GT.below HG.out.gt (by repeat (with_reducible first | exact HB.out | apply b_a | apply b_n | apply b_d))); rintro e w16 ⟨rfl, hb⟩; refine ⟨_, rfl, ?_⟩; have n0_ := mk0 (Kd.R_below (by (with_reducible repeat (first | apply r_a | apply r_n | apply r_d)); exact HO_4.out) hb); have n1_ := mk0 (Kd.R_below (by (with_reducible repeat (first | apply r_a | apply r_n | apply r_d)); exact HO_12.out) hb); have n2_ := mk0 (below_step (by repeat (with_reducible first | exact HB.out | apply b_a | apply b_n | apply b_d)) hb); clear HO_4; clear HO_12; clear HB; have HO_4 := n0_; have HO_12 := n1_; have HB := n2_; clear n0_ n1_ n2_; (try clear hb)))
      go_ret2
      exact ⟨_, by first | rfl | (simp [errW_none, errW_some] <;> rfl) | (simp [*, errW_none, errW_some] <;> rfl), by (with_reducible repeat (first | apply r_a | apply r_n | apply r_d)); exact HO_4.out, by repeat (first | (with_reducible first | exact HB.out | apply b_a | apply b_n | apply b_d) | exact HB.out)⟩
     ·rw [if_neg c14] at H
      have c14b0 : (t292.toList == a0.toList) = false := beq_eq_false_iff_ne.mpr c14
      have c14b1 : (t292.toList != a0.toList) = true := bne_iff_ne.mpr c14
      simp only [Option.some.injEq, Prod.mk.injEq] at H
      obtain ⟨rfl, rfl⟩ := H
      obtain ⟨Ao17, co17, eo17⟩ := Kd.R_slice HO_4.out
      subst eo17
      go_wp2_with (first | ((with_reducible refine gate_callee (f := 48) rfl ?_); refine goesL_ (some 30) rfl rfl Tryz.func48 (by kernel_rfl) rfl #[.slice Ao17 x4_1.length co17] rfl (by (try simp only [List.map_toArray, List.map_cons, List.map_nil]); first | done | rfl) ?_; (with_reducible refine (c_Format.calls k1 _ _ x4_1 t292 t293 _ ?side1 ?side2 ?side3 A12.out).mono ?_); (case side1 => repeat (first | exact (Kd.R_reads' HO_4.out).2.2 | (with_reducible refine Kd.C_alloc ?_ _) | (with_reducible refine Kd.C_drewN ?_ _) | (with_reducible refine Kd.C_drew ?_))); (case side2 => exact (Kd.R_reads' HO_4.out).2.1); (case side3 => first | exact HG.out | exact GT.below HG.out.gt (by repeat (with_reducible first | exact HB.out | apply b_a | apply b_n | apply b_d))); rintro e w18 ⟨rfl, hb⟩; refine ⟨_, rfl, ?_⟩; have n0_ := mk0 (Kd.R_below (by (with_reducible repeat (first | apply r_a | apply r_n | apply r_d)); exact HO_4.out) hb); have n1_ := mk0 (Kd.R_below (by (with_reducible repeat (first | apply r_a | apply r_n | apply r_d)); exact HO_12.out) hb); have n2_ := mk0 (below_step (by repeat (with_reducible first | exact HB.out | apply b_a | apply b_n | apply b_d)) hb); clear HO_4; clear HO_12; clear HB; have HO_4 := n0_; have HO_12 := n1_; have HB := n2_; clear n0_ n1_ n2_; (try clear hb)))
      go_ret2
      exact ⟨_, by first | rfl | (simp [errW_none, errW_some] <;> rfl) | (simp [*, errW_none, errW_some] <;> rfl), by first | exact Kd.R_nil _ _ _ _ _ | exact Kd.N_nil _ _ _ _ _ | exact Kd.V_nil _ _ _ _ _ | exact Kd.Q_nil _ _ _ _ _ | exact Kd.S_nil _ _ _ _ _, by repeat (first | (with_reducible first | exact HB.out | apply b_a | apply b_n | apply b_d) | exact HB.out)⟩
    ·rw [if_neg c13] at H
     have c13b0 : (t293 == 0) = false := beq_eq_false_iff_ne.mpr c13
     have c13b1 : (t293 != 0) = true := bne_iff_ne.mpr c13
     simp only [Option.some.injEq, Prod.mk.injEq] at H
     obtain ⟨rfl, rfl⟩ := H
     obtain ⟨Ao19, co19, eo19⟩ := Kd.R_slice HO_4.out
     subst eo19
     go_wp2_with (first | ((with_reducible refine gate_callee (f := 48) rfl ?_); refine goesL_ (some 30) rfl rfl Tryz.func48 (by kernel_rfl) rfl #[.slice Ao19 x4_1.length co19] rfl (by (try simp only [List.map_toArray, List.map_cons, List.map_nil]); first | done | rfl) ?_; (with_reducible refine (c_Format.calls k1 _ _ x4_1 t292 t293 _ ?side1 ?side2 ?side3 A12.out).mono ?_); (case side1 => repeat (first | exact (Kd.R_reads' HO_4.out).2.2 | (with_reducible refine Kd.C_alloc ?_ _) | (with_reducible refine Kd.C_drewN ?_ _) | (with_reducible refine Kd.C_drew ?_))); (case side2 => exact (Kd.R_reads' HO_4.out).2.1); (case side3 => first | exact HG.out | exact GT.below HG.out.gt (by repeat (with_reducible first | exact HB.out | apply b_a | apply b_n | apply b_d))); rintro e w20 ⟨rfl, hb⟩; refine ⟨_, rfl, ?_⟩; have n0_ := mk0 (Kd.R_below (by (with_reducible repeat (first | apply r_a | apply r_n | apply r_d)); exact HO_4.out) hb); have n1_ := mk0 (Kd.R_below (by (with_reducible repeat (first | apply r_a | apply r_n | apply r_d)); exact HO_12.out) hb); have n2_ := mk0 (below_step (by repeat (with_reducible first | exact HB.out | apply b_a | apply b_n | apply b_d)) hb); clear HO_4; clear HO_12; clear HB; have HO_4 := n0_; have HO_12 := n1_; have HB := n2_; clear n0_ n1_ n2_; (try clear hb)))
     go_ret2
     exact ⟨_, by first | rfl | (simp [errW_none, errW_some] <;> rfl) | (simp [*, errW_none, errW_some] <;> rfl), by first | exact Kd.R_nil _ _ _ _ _ | exact Kd.N_nil _ _ _ _ _ | exact Kd.V_nil _ _ _ _ _ | exact Kd.Q_nil _ _ _ _ _ | exact Kd.S_nil _ _ _ _ _, by repeat (first | (with_reducible first | exact HB.out | apply b_a | apply b_n | apply b_d) | exact HB.out)⟩

/-! ### c_is: function 29 -/
def c_is.f (k : Nat) (a0 : ByteArray) : Option (Bool) := (c_Parse.f k a0).bind fun bt294 => (some (bt294.2 == 0))
theorem c_is.mono : ∀ a0 k, LeO (c_is.f k a0) (c_is.f (k + 1) a0) := by
 intro a0 k
 unfold c_is.f
 repeat' first
   | (with_reducible exact c_Parse.mono _ _)
   | (with_reducible exact LeO.refl _)
   | (with_reducible exact LeO.none _)
   | (with_reducible refine LeO.ite ?_ ?_)
   | (with_reducible refine LeO.bind ?_ (fun _ => ?_))
set_option maxHeartbeats 8000000 in
set_option maxRecDepth 100000 in
theorem c_is.calls (k : Nat) (a0 : ByteArray) (r : Bool) (w : World) (hG : GL w) (h : c_is.f k a0 = some r) :
  Calls Tryz.prog 29 #[.string a0] w fun e w' => e = .returned (.bool r) ∧ Below w.heap.size w w' := by
 have HG := mk0 hG
 clear hG
 have HB := mk0 (Below.refl w.heap.size w)
 have H : ((c_Parse.f k a0).bind fun bt294 => (some (bt294.2 == 0))) = some r := h
 clear h
 replace H := Option.bind_eq_some_iff.mp H
 obtain ⟨⟨t294, t295⟩, A20, H⟩ := H
 replace H : (some (t295 == 0)) = some r := H
 have A2 := mk0 A20
 clear A20
 obtain rfl := Option.some.inj H
 go_enter Tryz.func29, Tryz.ntmps29
 go_wp2_with (first | ((with_reducible refine gate_callee (f := 31) rfl ?_); refine goesL_ (some 7) rfl rfl Tryz.func31 (by kernel_rfl) rfl #[.string a0] rfl (by (try simp only [List.map_toArray, List.map_cons, List.map_nil]); first | done | rfl) ?_; (with_reducible refine (c_Parse.calls k a0 t294 t295 _ ?side1 A2.out).mono ?_); (case side1 => first | exact HG.out | exact GL.below HG.out (by repeat (with_reducible first | exact HB.out | apply b_a | apply b_n | apply b_d))); rintro e w3 ⟨v296, rfl, ho0, hb⟩; refine ⟨_, rfl, ?_⟩; have n0_ := mk0 (Kd.R_lower ho0 (below_size (by repeat (with_reducible first | exact HB.out | apply b_a | apply b_n | apply b_d)))); have n1_ := mk0 (below_step (by repeat (with_reducible first | exact HB.out | apply b_a | apply b_n | apply b_d)) hb); clear HB; have HO297 := n0_; have HB := n1_; clear n0_ n1_; (try clear hb); (try clear hb2); (try clear hk); (try clear hi); (try clear ho0)))
 go_ret
 exact ⟨by first | rfl | (simp [errW_none, errW_some] <;> rfl) | (simp [*, errW_none, errW_some] <;> rfl), by repeat (first | (with_reducible first | exact HB.out | apply b_a | apply b_n | apply b_d) | exact HB.out)⟩

/-! ### strings_LastIndex: function 35 (by hand) -/


def strings_LastIndex.f (a0 : ByteArray) (a1 : ByteArray) : Option (Int) := if a0.size < 4611686018427387904 then some (Lib.lastIndex a0.data.toList a1.data.toList) else none
theorem strings_LastIndex.calls (a0 : ByteArray) (a1 : ByteArray) (r : Int) (w : World) (h : strings_LastIndex.f a0 a1 = some r) :
  Calls Tryz.prog 35 #[.string a0, .string a1] w fun e w' => e = .returned (.int .i64 r) ∧ Below w.heap.size w w' := by
 unfold strings_LastIndex.f at h
 split at h
 ·rename_i c
  obtain rfl := Option.some.inj h
  exact last_any a0 a1 c w
 ·exact absurd h (by simp)

end Go.Proofs.YtpnoliognpmkmaaGreatDoor.P
