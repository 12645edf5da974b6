/- Lean functions with the same answers as the program's Go functions, and for each the proof that the call comes to these answers; written by a program of mine out of the translation, the functions marked 'by hand' by me. -/
import Derived.Test.YtpnoliognpmkmaaDoorP0
import Derived.Test.YtpnoliognpmkmaaDoorP2
namespace Go.Proofs.YtpnoliognpmkmaaDoor.P
open Go.RowKit Go.Proofs.YtpnoliognpmkmaaDoorW.PrintWords Go.Proofs.YtpnoliognpmkmaaDoorW.PrintLast Go.Proofs.YtpnoliognpmkmaaDoorW.PrintMore
attribute [local go_sem] max2_int min2_int max_two min_two max_three min_three max_four min_four   -- for this text's walks alone
set_option linter.unusedVariables false
set_option linter.unusedSimpArgs false

/-! ### slices_Index_string_string: function 69 -/
def slices_Index_string_string.l0 : Nat → List ByteArray → ByteArray → Int → Int → Option (Int)
 | 0, _, _, _, _ => none
 | k + 1, x0, x1, x7, x8 => if x8 < x7 then (if 0 ≤ x8 then (if x8 < (x0.length : Int) then (if x1.toList = (rdOf ByteArray.empty x0 x8).toList then (some x8) else (slices_Index_string_string.l0 k x0 x1 x7 (wrap64 (x8 + 1)))) else (none)) else (none)) else (some (-1))
def slices_Index_string_string.f (k : Nat) (l0 : List ByteArray) (a1 : ByteArray) : Option (Int) := slices_Index_string_string.l0 k l0 a1 (l0.length : Int) 0
theorem slices_Index_string_string.mono_l : ∀ k, (∀ y0 y1 y2 y3, LeO (slices_Index_string_string.l0 k y0 y1 y2 y3) (slices_Index_string_string.l0 (k + 1) y0 y1 y2 y3))
 | 0 => fun _ _ _ _ r h => by simp [slices_Index_string_string.l0] at h
 | k + 1 => by
  have ih0 := slices_Index_string_string.mono_l k
  ·intro y0 y1 y2 y3
   unfold slices_Index_string_string.l0
   repeat' first
   | (with_reducible exact ih0 _ _ _ _)
   | (with_reducible exact LeO.refl _)
   | (with_reducible exact LeO.none _)
   | (with_reducible refine LeO.ite ?_ ?_)
   | (with_reducible refine LeO.bind ?_ (fun _ => ?_))
   | exact ih0 _ _ _ _
   | exact LeO.none _
   | refine LeO.ite ?_ ?_
   | refine LeO.bind ?_ (fun _ => ?_)
theorem slices_Index_string_string.mono : ∀ a0 a1 k, LeO (slices_Index_string_string.f k a0 a1) (slices_Index_string_string.f (k + 1) a0 a1) := by
 intro a0 a1 k
 have ih0 := slices_Index_string_string.mono_l k
 unfold slices_Index_string_string.f
 repeat' first
   | (with_reducible exact ih0 _ _ _ _)
   | (with_reducible exact LeO.refl _)
   | (with_reducible exact LeO.none _)
   | (with_reducible refine LeO.ite ?_ ?_)
   | (with_reducible refine LeO.bind ?_ (fun _ => ?_))
   | exact ih0 _ _ _ _
   | exact LeO.none _
   | refine LeO.ite ?_ ?_
   | refine LeO.bind ?_ (fun _ => ?_)
set_option maxHeartbeats 8000000 in
set_option maxRecDepth 100000 in
theorem slices_Index_string_string.calls (k : Nat) (A0 : Option Addr) (c0 : Nat) (l0 : List ByteArray) (a1 : ByteArray) (r : Int) (w : World) (hr0 : Kd.C Kd.string w A0 l0.length l0) (hc0 : l0.length ≤ c0) (h : slices_Index_string_string.f k l0 a1 = some r) :
  Calls Tryd.prog 69 #[.slice A0 l0.length c0, .string a1] w fun e w' => e = .returned (.int .i64 r) ∧ Drawn0 w w' := by
 have HR0 := mk0 hr0
 have HC0 := mk0 hc0
 clear hr0 hc0
 have H : (slices_Index_string_string.l0 k l0 a1 (l0.length : Int) 0) = some r := h
 clear h
 have H' := mk0 H
 clear H
 go_enter Tryd.func69, Tryd.ntmps69
 go_wp2
 go_loopg [8] k (fun kq v8 w' => ∃ (x8_1 : Int), v8 = .int .i64 x8_1 ∧ Aside0 (slices_Index_string_string.l0 kq l0 a1 (l0.length : Int) x8_1 = some r) ∧ Aside0 (kq ≤ k) ∧ Drawn0 w w')
 case atStart => exact ⟨(0), (by first | rfl | (simp; done) | (simp [*]; done)), H', ⟨Nat.le_refl _⟩, by repeat (first | exact Drawn0.refl _ | apply Drawn0.step)⟩
 case round =>
  clear H'
  try clear p2
  obtain ⟨x8_1, rfl, HA, HK1, ⟨m1, rfl⟩⟩ := hrel
  cases gk with
  | zero => exact absurd HA.out (by simp [slices_Index_string_string.l0])
  | succ k1 =>
   have H := HA.out
   clear HA
   simp only [slices_Index_string_string.l0] at H
   by_cases c3 : x8_1 < (l0.length : Int)
   ·rw [if_pos c3] at H
    have c3b0 : decide (x8_1 < (l0.length : Int)) = true := decide_eq_true c3
    clear c3
    by_cases c4 : 0 ≤ x8_1
    ·rw [if_pos c4] at H
     have c4b0 : decide (0 ≤ x8_1) = true := decide_eq_true c4
     clear c4
     by_cases c5 : x8_1 < (l0.length : Int)
     ·rw [if_pos c5] at H
      have c5b0 : decide (x8_1 < (l0.length : Int)) = true := decide_eq_true c5
      clear c5
      by_cases c6 : a1.toList = (rdOf ByteArray.empty l0 x8_1).toList
      ·rw [if_pos c6] at H
       have c6b0 : (a1.toList == (rdOf ByteArray.empty l0 x8_1).toList) = true := beq_iff_eq.mpr c6
       have c6b1 : (a1.toList != (rdOf ByteArray.empty l0 x8_1).toList) = false := bne_eq_false_iff_eq.mpr c6
       clear c6
       obtain rfl := Option.some.inj H
       have p450 : 0 ≤ (x8_1 : Int) := of_decide_eq_true (by first | (with_reducible assumption) | assumption)
       have q450 : x8_1 < (l0.length : Int) := of_decide_eq_true (by first | (with_reducible assumption) | assumption)
       obtain ⟨ad450, e450, hx450_0⟩ := Kd.at_string HR0.out x8_1 p450 q450
       cases e450
       replace p450 := eq_true p450
       replace q450 := eq_true q450
       go_wp2
       go_ret
       exact ⟨by first | rfl | (simp; done) | (simp [*]; done), by repeat (first | exact Drawn0.refl _ | apply Drawn0.step)⟩
      ·rw [if_neg c6] at H
       have c6b0 : (a1.toList == (rdOf ByteArray.empty l0 x8_1).toList) = false := beq_eq_false_iff_ne.mpr c6
       have c6b1 : (a1.toList != (rdOf ByteArray.empty l0 x8_1).toList) = true := bne_iff_ne.mpr c6
       have H' := mk0 H
       clear H
       have p450 : 0 ≤ (x8_1 : Int) := of_decide_eq_true (by first | (with_reducible assumption) | assumption)
       have q450 : x8_1 < (l0.length : Int) := of_decide_eq_true (by first | (with_reducible assumption) | assumption)
       obtain ⟨ad450, e450, hx450_0⟩ := Kd.at_string HR0.out x8_1 p450 q450
       cases e450
       replace p450 := eq_true p450
       replace q450 := eq_true q450
       go_wp2
       go_roundg k1
       case measure => have := HK1.out; omega
       case rel => exact ⟨(wrap64 (x8_1 + 1)), (by first | rfl | (simp; done) | (simp [*]; done)), H', ⟨by have := HK1.out; omega⟩, by repeat (first | exact Drawn0.refl _ | apply Drawn0.step)⟩
     ·rw [if_neg c5] at H
      exact absurd H (by simp)
    ·rw [if_neg c4] at H
     exact absurd H (by simp)
   ·rw [if_neg c3] at H
    have c3b0 : decide (x8_1 < (l0.length : Int)) = false := decide_eq_false c3
    clear c3
    obtain rfl := Option.some.inj H
    go_wp2
    go_ret
    exact ⟨by first | rfl | (simp; done) | (simp [*]; done), by repeat (first | exact Drawn0.refl _ | apply Drawn0.step)⟩

/-! ### slices_Contains_string_string: function 50 -/
def slices_Contains_string_string.f (k : Nat) (l0 : List ByteArray) (a1 : ByteArray) : Option (Bool) := (slices_Index_string_string.f k l0 a1).bind fun t451 => (some (decide (t451 ≥ 0)))
theorem slices_Contains_string_string.mono : ∀ a0 a1 k, LeO (slices_Contains_string_string.f k a0 a1) (slices_Contains_string_string.f (k + 1) a0 a1) := by
 intro a0 a1 k
 unfold slices_Contains_string_string.f
 repeat' first
   | (with_reducible exact slices_Index_string_string.mono _ _ _)
   | (with_reducible exact LeO.refl _)
   | (with_reducible exact LeO.none _)
   | (with_reducible refine LeO.ite ?_ ?_)
   | (with_reducible refine LeO.bind ?_ (fun _ => ?_))
   | exact slices_Index_string_string.mono _ _ _
   | exact LeO.none _
   | refine LeO.ite ?_ ?_
   | refine LeO.bind ?_ (fun _ => ?_)
set_option maxHeartbeats 8000000 in
set_option maxRecDepth 100000 in
theorem slices_Contains_string_string.calls (k : Nat) (A0 : Option Addr) (c0 : Nat) (l0 : List ByteArray) (a1 : ByteArray) (r : Bool) (w : World) (hr0 : Kd.C Kd.string w A0 l0.length l0) (hc0 : l0.length ≤ c0) (h : slices_Contains_string_string.f k l0 a1 = some r) :
  Calls Tryd.prog 50 #[.slice A0 l0.length c0, .string a1] w fun e w' => e = .returned (.bool r) ∧ Drawn0 w w' := by
 have HR0 := mk0 hr0
 have HC0 := mk0 hc0
 clear hr0 hc0
 have H : ((slices_Index_string_string.f k l0 a1).bind fun t451 => (some (decide (t451 ≥ 0)))) = some r := h
 clear h
 replace H := Option.bind_eq_some_iff.mp H
 obtain ⟨t451, A30, H⟩ := H
 replace H : (some (decide (t451 ≥ 0))) = some r := H
 have A3 := mk0 A30
 clear A30
 obtain rfl := Option.some.inj H
 go_enter Tryd.func50, Tryd.ntmps50
 go_wp2_with (first | ((with_reducible refine gate_callee (f := 69) rfl ?_); refine goesL_ (some 7) rfl rfl Tryd.func69 (by kernel_rfl) rfl #[.slice A0 l0.length c0, .string a1] rfl (by (try simp only [List.map_toArray, List.map_cons, List.map_nil]); first | done | rfl | (simp only [List.length_drop, List.length_take]; rfl)) ?_; (with_reducible refine (slices_Index_string_string.calls k _ _ l0 a1 t451 _ ?side1 ?side2 A3.out).mono ?_); (case side1 => repeat (first | exact HR0.out | (with_reducible refine Kd.C_alloc ?_ _) | (with_reducible refine Kd.C_drewN ?_ _) | (with_reducible refine Kd.C_drew ?_))); (case side2 => exact HC0.out); rintro e w' ⟨rfl, ⟨nd, rfl⟩⟩; refine ⟨_, rfl, ?_⟩))
 go_ret
 exact ⟨by first | rfl | (simp; done) | (simp [*]; done), by repeat (first | exact Drawn0.refl _ | apply Drawn0.step)⟩

/-! ### classification_Validate: function 38 -/
mutual
def classification_Validate.j0 : Nat → Bool → ByteArray → List ByteArray → Option (Int)
 | 0, _, _, _ => none
 | k + 1, x16, x453000, x453001 => if x16 = true then (some 61) else (classification_Validate.l0 k x453001 (x453001.length : Int) 0 x453000 x453001)
def classification_Validate.l0 : Nat → List ByteArray → Int → Int → ByteArray → List ByteArray → Option (Int)
 | 0, _, _, _, _, _ => none
 | k + 1, x18, x19, x20, x453000, x453001 => if x20 < x19 then (if 0 ≤ x20 then (if x20 < (x18.length : Int) then ((classification_Parent.f k (rdOf ByteArray.empty x18 x20)).bind fun bt454 => (if bt454.2 = true then (if x20 > 0 then (if 0 ≤ (wrap64 (x20 - 1)) then (if (wrap64 (x20 - 1)) < (x453001.length : Int) then ((classification_Compare.f k (rdOf ByteArray.empty x453001 (wrap64 (x20 - 1))) (rdOf ByteArray.empty x18 x20)).bind fun t457 => (classification_Validate.j2 k x20 bt454.1 x18 x19 x20 (decide (t457 ≥ 0)) x453000 x453001)) else (none)) else (none)) else (classification_Validate.j2 k x20 bt454.1 x18 x19 x20 false x453000 x453001)) else (some 60))) else (none)) else (none)) else (some 0)
def classification_Validate.j2 : Nat → Int → ByteArray → List ByteArray → Int → Int → Bool → ByteArray → List ByteArray → Option (Int)
 | 0, _, _, _, _, _, _, _, _ => none
 | k + 1, x3, x5, x18, x19, x20, x33, x453000, x453001 => if x33 = true then (some 62) else (if x5.toList = ([] : List UInt8) then (classification_Validate.l0 k x18 x19 (wrap64 (x20 + 1)) x453000 x453001) else (if 0 ≤ x3 then (if x3 ≤ (x453001.length : Int) then ((slices_Contains_string_string.f k (x453001.take (x3 : Int).toNat) x5).bind fun t459 => (if t459 = true then (classification_Validate.l0 k x18 x19 (wrap64 (x20 + 1)) x453000 x453001) else (some 63))) else (none)) else (none)))
end
def classification_Validate.f (k : Nat) (a0_0 : ByteArray) (l0_1 : List ByteArray) : Option (Int) := if (l0_1.length : Int) < 1 then (classification_Validate.j0 k true a0_0 l0_1) else (classification_Validate.j0 k (decide ((l0_1.length : Int) > 200)) a0_0 l0_1)
theorem classification_Validate.mono_l : ∀ k, (∀ y0 y1 y2, LeO (classification_Validate.j0 k y0 y1 y2) (classification_Validate.j0 (k + 1) y0 y1 y2)) ∧ (∀ y0 y1 y2 y3 y4, LeO (classification_Validate.l0 k y0 y1 y2 y3 y4) (classification_Validate.l0 (k + 1) y0 y1 y2 y3 y4)) ∧ (∀ y0 y1 y2 y3 y4 y5 y6 y7, LeO (classification_Validate.j2 k y0 y1 y2 y3 y4 y5 y6 y7) (classification_Validate.j2 (k + 1) y0 y1 y2 y3 y4 y5 y6 y7))
 | 0 => ⟨fun _ _ _ r h => by simp [classification_Validate.j0] at h, fun _ _ _ _ _ r h => by simp [classification_Validate.l0] at h, fun _ _ _ _ _ _ _ _ r h => by simp [classification_Validate.j2] at h⟩
 | k + 1 => by
  obtain ⟨ih0, ih1, ih2⟩ := classification_Validate.mono_l k
  refine ⟨?_, ?_, ?_⟩
  ·intro y0 y1 y2
   unfold classification_Validate.j0
   repeat' first
   | (with_reducible exact ih0 _ _ _)
   | (with_reducible exact ih1 _ _ _ _ _)
   | (with_reducible exact ih2 _ _ _ _ _ _ _ _)
   | (with_reducible exact classification_Compare.mono _ _ _)
   | (with_reducible exact classification_Parent.mono _ _)
   | (with_reducible exact slices_Contains_string_string.mono _ _ _)
   | (with_reducible exact LeO.refl _)
   | (with_reducible exact LeO.none _)
   | (with_reducible refine LeO.ite ?_ ?_)
   | (with_reducible refine LeO.bind ?_ (fun _ => ?_))
   | exact ih0 _ _ _
   | exact ih1 _ _ _ _ _
   | exact ih2 _ _ _ _ _ _ _ _
   | exact classification_Compare.mono _ _ _
   | exact classification_Parent.mono _ _
   | exact slices_Contains_string_string.mono _ _ _
   | exact LeO.none _
   | refine LeO.ite ?_ ?_
   | refine LeO.bind ?_ (fun _ => ?_)
  ·intro y0 y1 y2 y3 y4
   unfold classification_Validate.l0
   repeat' first
   | (with_reducible exact ih0 _ _ _)
   | (with_reducible exact ih1 _ _ _ _ _)
   | (with_reducible exact ih2 _ _ _ _ _ _ _ _)
   | (with_reducible exact classification_Compare.mono _ _ _)
   | (with_reducible exact classification_Parent.mono _ _)
   | (with_reducible exact slices_Contains_string_string.mono _ _ _)
   | (with_reducible exact LeO.refl _)
   | (with_reducible exact LeO.none _)
   | (with_reducible refine LeO.ite ?_ ?_)
   | (with_reducible refine LeO.bind ?_ (fun _ => ?_))
   | exact ih0 _ _ _
   | exact ih1 _ _ _ _ _
   | exact ih2 _ _ _ _ _ _ _ _
   | exact classification_Compare.mono _ _ _
   | exact classification_Parent.mono _ _
   | exact slices_Contains_string_string.mono _ _ _
   | exact LeO.none _
   | refine LeO.ite ?_ ?_
   | refine LeO.bind ?_ (fun _ => ?_)
  ·intro y0 y1 y2 y3 y4 y5 y6 y7
   unfold classification_Validate.j2
   repeat' first
   | (with_reducible exact ih0 _ _ _)
   | (with_reducible exact ih1 _ _ _ _ _)
   | (with_reducible exact ih2 _ _ _ _ _ _ _ _)
   | (with_reducible exact classification_Compare.mono _ _ _)
   | (with_reducible exact classification_Parent.mono _ _)
   | (with_reducible exact slices_Contains_string_string.mono _ _ _)
   | (with_reducible exact LeO.refl _)
   | (with_reducible exact LeO.none _)
   | (with_reducible refine LeO.ite ?_ ?_)
   | (with_reducible refine LeO.bind ?_ (fun _ => ?_))
   | exact ih0 _ _ _
   | exact ih1 _ _ _ _ _
   | exact ih2 _ _ _ _ _ _ _ _
   | exact classification_Compare.mono _ _ _
   | exact classification_Parent.mono _ _
   | exact slices_Contains_string_string.mono _ _ _
   | exact LeO.none _
   | refine LeO.ite ?_ ?_
   | refine LeO.bind ?_ (fun _ => ?_)
theorem classification_Validate.mono : ∀ a0 a1 k, LeO (classification_Validate.f k a0 a1) (classification_Validate.f (k + 1) a0 a1) := by
 intro a0 a1 k
 obtain ⟨ih0, ih1, ih2⟩ := classification_Validate.mono_l k
 unfold classification_Validate.f
 repeat' first
   | (with_reducible exact ih0 _ _ _)
   | (with_reducible exact ih1 _ _ _ _ _)
   | (with_reducible exact ih2 _ _ _ _ _ _ _ _)
   | (with_reducible exact classification_Compare.mono _ _ _)
   | (with_reducible exact classification_Parent.mono _ _)
   | (with_reducible exact slices_Contains_string_string.mono _ _ _)
   | (with_reducible exact LeO.refl _)
   | (with_reducible exact LeO.none _)
   | (with_reducible refine LeO.ite ?_ ?_)
   | (with_reducible refine LeO.bind ?_ (fun _ => ?_))
   | exact ih0 _ _ _
   | exact ih1 _ _ _ _ _
   | exact ih2 _ _ _ _ _ _ _ _
   | exact classification_Compare.mono _ _ _
   | exact classification_Parent.mono _ _
   | exact slices_Contains_string_string.mono _ _ _
   | exact LeO.none _
   | refine LeO.ite ?_ ?_
   | refine LeO.bind ?_ (fun _ => ?_)
set_option maxHeartbeats 8000000 in
set_option maxRecDepth 100000 in
theorem classification_Validate.calls (k : Nat) (a0_0 : ByteArray) (A0_1 : Option Addr) (c0_1 : Nat) (l0_1 : List ByteArray) (r : Int) (w : World) (hr0_1 : Kd.C Kd.string w A0_1 l0_1.length l0_1) (hc0_1 : l0_1.length ≤ c0_1) (hG : GL w) (h : classification_Validate.f k a0_0 l0_1 = some r) :
  Calls Tryd.prog 38 #[.agg #[.string a0_0, .slice A0_1 l0_1.length c0_1]] w fun e w' => e = .returned (.int .i64 r) ∧ Below w.heap.size w w' := by
 have HG := mk0 hG
 clear hG
 have hu28 := Tryd.underlying28
 have HR0_1 := mk0 hr0_1
 have HC0_1 := mk0 hc0_1
 clear hr0_1 hc0_1
 have HB := mk0 (Below.refl w.heap.size w)
 have H : (if (l0_1.length : Int) < 1 then (classification_Validate.j0 k true a0_0 l0_1) else (classification_Validate.j0 k (decide ((l0_1.length : Int) > 200)) a0_0 l0_1)) = some r := h
 clear h
 have HC2 := mk0 H
 clear H
 go_enter Tryd.func38, Tryd.ntmps38
 go_upto_region 1 with (first | ((with_reducible refine gate_dst (N := 1) rfl ?_); refine box_event ?hg (N := 1) ?hd (cs := #[.string a0_0, .slice A0_1 l0_1.length c0_1]) (t := 28) ?hr ?_; (case hd => rfl); (case hg => rfl); (case hr => first | (go_simp; done) | (go_simp; rfl)); intro gb452 hg w3 hbox hb; have n0_ := mk0 (below_step (by repeat (first | (with_reducible first | exact HB.out | apply b_a | apply b_n | apply b_d) | exact HB.out)) hb); have n1_ := mk0 (hbox); have n2_ := mk0 ((by rw [hg]; exact (below_size (by repeat (first | (with_reducible first | exact HB.out | apply b_a | apply b_n | apply b_d) | exact HB.out))) : w.heap.size ≤ gb452)); have n3_ := mk0 ((by rw [hg]; exact (below_size (by repeat (first | (with_reducible first | exact HB.out | apply b_a | apply b_n | apply b_d) | exact HB.out))) : w.heap.size ≤ gb452)); clear HB; have HB := n0_; have BK452 := n1_; have GW452 := n2_; have GE452 := n3_; clear n0_ n1_ n2_ n3_; clear hb hbox hg))
 (try simp only [Act.put, List.setIfInBounds_toArray, List.set_cons_zero, List.set_cons_succ])
 go_cut [16] (fun v16 wc => ∃ (kq : Nat) (x16_41 : Bool), v16 = .bool x16_41 ∧ Aside0 (classification_Validate.j0 kq x16_41 a0_0 l0_1 = some r) ∧ Aside0 (kq ≤ k) ∧ Aside0 (wc.heap[gb452]? = some (.cells #[.string a0_0, (.slice A0_1 l0_1.length c0_1)] 28 (0, 0))) ∧ Aside0 (Below w.heap.size w wc))
 case first =>
  have H := HC2.out
  clear HC2
  by_cases c4 : (l0_1.length : Int) < 1
  ·rw [if_pos c4] at H
   have c4b0 : decide ((l0_1.length : Int) < 1) = true := decide_eq_true c4
   have c4b1 : decide (l0_1.length < 1) = true := decide_eq_true (by omega)
   clear c4
   (first | rw [c4b0] | (simp only [i64_w, i32_w]; rw [c4b0]) | skip)
   have H' := mk0 H
   clear H
   have hcz5_0 : w3.cell? ⟨gb452, 0, none⟩ = some (.string a0_0) := (blk_cell BK452.out 0).trans rfl
   have hcz5_1 : w3.cell? ⟨gb452, 1, none⟩ = some (.slice A0_1 l0_1.length c0_1) := (blk_cell BK452.out 1).trans rfl
   have hfz5_0 := blk_frozen BK452.out 0
   have hfz5_1 := blk_frozen BK452.out 1
   go_wp2
   go_meet
   case rel => exact ⟨_, (true), (by first | rfl | (simp; done) | (simp [*]; done)), H', ⟨by first | omega | exact Nat.le_refl _⟩, ⟨by (with_reducible repeat (first | refine blk_drewN ?_ _ | refine blk_drew ?_ | refine blk_alloc ?_ _)); exact BK452.out⟩, ⟨by repeat (first | (with_reducible first | exact HB.out | apply b_a | apply b_n | apply b_d | refine below_set ?_ GE452.out) | exact HB.out)⟩⟩
  ·rw [if_neg c4] at H
   have c4b0 : decide ((l0_1.length : Int) < 1) = false := decide_eq_false c4
   have c4b1 : decide (l0_1.length < 1) = false := decide_eq_false (by omega)
   clear c4
   (first | rw [c4b0] | (simp only [i64_w, i32_w]; rw [c4b0]) | skip)
   have H' := mk0 H
   clear H
   have hcz6_0 : w3.cell? ⟨gb452, 0, none⟩ = some (.string a0_0) := (blk_cell BK452.out 0).trans rfl
   have hcz6_1 : w3.cell? ⟨gb452, 1, none⟩ = some (.slice A0_1 l0_1.length c0_1) := (blk_cell BK452.out 1).trans rfl
   have hfz6_0 := blk_frozen BK452.out 0
   have hfz6_1 := blk_frozen BK452.out 1
   go_wp2
   go_meet
   case rel => exact ⟨_, (decide ((l0_1.length : Int) > 200)), (by first | rfl | (simp; done) | (simp [*]; done)), H', ⟨by first | omega | exact Nat.le_refl _⟩, ⟨by (with_reducible repeat (first | refine blk_drewN ?_ _ | refine blk_drew ?_ | refine blk_alloc ?_ _)); exact BK452.out⟩, ⟨by repeat (first | (with_reducible first | exact HB.out | apply b_a | apply b_n | apply b_d | refine below_set ?_ GE452.out) | exact HB.out)⟩⟩
 case rest =>
  clear HC2
  try clear p2
  try clear c3
  try clear c4
  try clear c4b0
  try clear c4b1
  try clear hcz5_0
  try clear hcz5_1
  try clear hcz6_0
  try clear hcz6_1
  try clear hfz5_0
  try clear hfz5_1
  try clear hfz6_0
  try clear hfz6_1
  obtain ⟨kq, x16_41, rfl, HA, HJ41, BK452, HB⟩ := hcut
  cases kq with
  | zero => exact absurd HA.out (by simp [classification_Validate.j0])
  | succ kj41 =>
   have H := HA.out
   clear HA
   simp only [classification_Validate.j0] at H
   by_cases c7 : x16_41 = true
   ·subst c7
    have H1 : (some 61) = some r := by rw [if_pos rfl] at H; exact H
    clear H
    have H := H1
    clear H1
    obtain rfl := Option.some.inj H
    go_wp2
    go_ret
    exact ⟨by first | rfl | (simp [errW_none, errW_some] <;> rfl) | (simp [*, errW_none, errW_some] <;> rfl), by repeat (first | (with_reducible first | exact HB.out | apply b_a | apply b_n | apply b_d | refine below_set ?_ GE452.out) | exact HB.out)⟩
   ·replace c7 := Bool.eq_false_iff.mpr c7
    subst c7
    have H1 : (classification_Validate.l0 kj41 l0_1 (l0_1.length : Int) 0 a0_0 l0_1) = some r := by rw [if_neg (show ¬ (false = true) by decide)] at H; exact H
    clear H
    have H := H1
    clear H1
    have H' := mk0 H
    clear H
    have hcz8_0 : wc.cell? ⟨gb452, 0, none⟩ = some (.string a0_0) := (blk_cell BK452.out 0).trans rfl
    have hcz8_1 : wc.cell? ⟨gb452, 1, none⟩ = some (.slice A0_1 l0_1.length c0_1) := (blk_cell BK452.out 1).trans rfl
    have hfz8_0 := blk_frozen BK452.out 0
    have hfz8_1 := blk_frozen BK452.out 1
    go_wp2
    go_loopg [20] kj41 (fun kq v20 w' => ∃ (x20_2 : Int), v20 = .int .i64 x20_2 ∧ Aside0 (classification_Validate.l0 kq l0_1 (l0_1.length : Int) x20_2 a0_0 l0_1 = some r) ∧ Aside0 (kq ≤ kj41) ∧ Aside0 (w'.heap[gb452]? = some (.cells #[.string a0_0, (.slice A0_1 l0_1.length c0_1)] 28 (0, 0))) ∧ Aside0 (Below w.heap.size w w'))
    case atStart => exact ⟨(0), (by first | rfl | (simp; done) | (simp [*]; done)), H', ⟨Nat.le_refl _⟩, ⟨by (with_reducible repeat (first | refine blk_drewN ?_ _ | refine blk_drew ?_ | refine blk_alloc ?_ _)); exact BK452.out⟩, ⟨by repeat (first | (with_reducible first | exact HB.out | apply b_a | apply b_n | apply b_d | refine below_set ?_ GE452.out) | exact HB.out)⟩⟩
    case round =>
     clear H'
     try clear p2
     try clear c3
     try clear c4
     try clear c4b0
     try clear c4b1
     try clear c7
     try clear hcz5_0
     try clear hcz5_1
     try clear hcz6_0
     try clear hcz6_1
     try clear hcz8_0
     try clear hcz8_1
     try clear hfz5_0
     try clear hfz5_1
     try clear hfz6_0
     try clear hfz6_1
     try clear hfz8_0
     try clear hfz8_1
     try clear p2
     obtain ⟨x20_2, rfl, HA, HK2, BK452, HB⟩ := hrel
     cases gk with
     | zero => exact absurd HA.out (by simp [classification_Validate.l0])
     | succ k2 =>
      have H := HA.out
      clear HA
      simp only [classification_Validate.l0] at H
      by_cases c9 : x20_2 < (l0_1.length : Int)
      ·rw [if_pos c9] at H
       have c9b0 : decide (x20_2 < (l0_1.length : Int)) = true := decide_eq_true c9
       clear c9
       by_cases c10 : 0 ≤ x20_2
       ·rw [if_pos c10] at H
        have c10b0 : decide (0 ≤ x20_2) = true := decide_eq_true c10
        clear c10
        by_cases c11 : x20_2 < (l0_1.length : Int)
        ·rw [if_pos c11] at H
         have c11b0 : decide (x20_2 < (l0_1.length : Int)) = true := decide_eq_true c11
         clear c11
         replace H := Option.bind_eq_some_iff.mp H
         obtain ⟨⟨t454, t455⟩, A120, H⟩ := H
         replace H : (if t455 = true then (if x20_2 > 0 then (if 0 ≤ (wrap64 (x20_2 - 1)) then (if (wrap64 (x20_2 - 1)) < (l0_1.length : Int) then ((classification_Compare.f k2 (rdOf ByteArray.empty l0_1 (wrap64 (x20_2 - 1))) (rdOf ByteArray.empty l0_1 x20_2)).bind fun t457 => (classification_Validate.j2 k2 x20_2 t454 l0_1 (l0_1.length : Int) x20_2 (decide (t457 ≥ 0)) a0_0 l0_1)) else (none)) else (none)) else (classification_Validate.j2 k2 x20_2 t454 l0_1 (l0_1.length : Int) x20_2 false a0_0 l0_1)) else (some 60)) = some r := H
         have A12 := mk0 A120
         clear A120
         by_cases c13 : t455 = true
         ·subst c13
          have H1 : (if x20_2 > 0 then (if 0 ≤ (wrap64 (x20_2 - 1)) then (if (wrap64 (x20_2 - 1)) < (l0_1.length : Int) then ((classification_Compare.f k2 (rdOf ByteArray.empty l0_1 (wrap64 (x20_2 - 1))) (rdOf ByteArray.empty l0_1 x20_2)).bind fun t457 => (classification_Validate.j2 k2 x20_2 t454 l0_1 (l0_1.length : Int) x20_2 (decide (t457 ≥ 0)) a0_0 l0_1)) else (none)) else (none)) else (classification_Validate.j2 k2 x20_2 t454 l0_1 (l0_1.length : Int) x20_2 false a0_0 l0_1)) = some r := by rw [if_pos rfl] at H; exact H
          clear H
          have H := H1
          clear H1
          have HC14 := mk0 H
          clear H
          have p453 : 0 ≤ (x20_2 : Int) := of_decide_eq_true (by first | (with_reducible assumption) | assumption)
          have q453 : x20_2 < (l0_1.length : Int) := of_decide_eq_true (by first | (with_reducible assumption) | assumption)
          obtain ⟨ad453, e453, hx453_0⟩ := Kd.at_string HR0_1.out x20_2 p453 q453
          cases e453
          replace hx453_0 := (HB.out.cell (World.block_lt_of_cell? w _ hx453_0)).trans hx453_0
          replace p453 := eq_true p453
          replace q453 := eq_true q453
          go_upto_region 9 with (first | ((with_reducible refine gate_callee (f := 33) rfl ?_); refine goesL_ (some 27) rfl rfl Tryd.func33 (by kernel_rfl) rfl #[.string (rdOf ByteArray.empty l0_1 x20_2)] rfl (by (try simp only [List.map_toArray, List.map_cons, List.map_nil]); first | done | rfl | (simp only [List.length_drop, List.length_take]; rfl)) ?_; (with_reducible refine (classification_Parent.calls k2 (rdOf ByteArray.empty l0_1 x20_2) t454 true _ ?side1 A12.out).mono ?_); (case side1 => first | exact HG.out | exact GL.below HG.out (by repeat (first | (with_reducible first | exact HB.out | apply b_a | apply b_n | apply b_d | refine below_set ?_ GE452.out) | exact HB.out))); rintro e w15 ⟨rfl, hb⟩; refine ⟨_, rfl, ?_⟩; have n0_ := mk0 (blk_below (g := gb452) (o := .cells #[.string a0_0, .slice (some ad453) l0_1.length c0_1] 28 (0, 0)) (by (with_reducible repeat (first | refine blk_drewN ?_ _ | refine blk_drew ?_ | refine blk_alloc ?_ _)); exact BK452.out) hb); have n1_ := mk0 (below_step (by repeat (first | (with_reducible first | exact HB.out | apply b_a | apply b_n | apply b_d | refine below_set ?_ GE452.out) | exact HB.out)) hb); clear BK452; clear HB; have BK452 := n0_; have HB := n1_; clear n0_ n1_; (try clear hb); (try clear hb2); (try clear hk); (try clear hi)))
          (try simp only [Act.put, List.setIfInBounds_toArray, List.set_cons_zero, List.set_cons_succ])
          go_cut [33] (fun v33 wc => ∃ (kq : Nat) (x33_53 : Bool), v33 = .bool x33_53 ∧ Aside0 (classification_Validate.j2 kq x20_2 t454 l0_1 (l0_1.length : Int) x20_2 x33_53 a0_0 l0_1 = some r) ∧ Aside0 (kq ≤ k2) ∧ Aside0 (wc.heap[gb452]? = some (.cells #[.string a0_0, (.slice (some ad453) l0_1.length c0_1)] 28 (0, 0))) ∧ Aside0 (Below w.heap.size w wc))
          case first =>
           have H := HC14.out
           clear HC14
           by_cases c16 : x20_2 > 0
           ·rw [if_pos c16] at H
            have c16b0 : decide (0 < x20_2) = true := decide_eq_true c16
            clear c16
            (first | rw [c16b0] | (simp only [i64_w, i32_w]; rw [c16b0]) | skip)
            obtain ⟨ji17, hji17⟩ : ∃ j_ : Int, (wrap64 (x20_2 - 1)) = j_ := ⟨_, rfl⟩
            replace H : (if 0 ≤ (ji17) then (if (ji17) < (l0_1.length : Int) then ((classification_Compare.f k2 (rdOf ByteArray.empty l0_1 (ji17)) (rdOf ByteArray.empty l0_1 x20_2)).bind fun t457 => (classification_Validate.j2 k2 x20_2 t454 l0_1 (l0_1.length : Int) x20_2 (decide (t457 ≥ 0)) a0_0 l0_1)) else (none)) else (none)) = some r := by first | (rw [hji17] at H; exact H) | (simp only [hji17] at H ⊢; exact H)
            have hji17w : (IntKind.i64.wrap (x20_2 - 1)) = ji17 := (i64_w _).trans hji17
            by_cases c18 : 0 ≤ (ji17)
            ·rw [if_pos c18] at H
             have c18b0 : decide (0 ≤ (ji17)) = true := decide_eq_true c18
             clear c18
             by_cases c19 : (ji17) < (l0_1.length : Int)
             ·rw [if_pos c19] at H
              have c19b0 : decide ((ji17) < (l0_1.length : Int)) = true := decide_eq_true c19
              clear c19
              replace H := Option.bind_eq_some_iff.mp H
              obtain ⟨t457, A200, H⟩ := H
              replace H : (classification_Validate.j2 k2 x20_2 t454 l0_1 (l0_1.length : Int) x20_2 (decide (t457 ≥ 0)) a0_0 l0_1) = some r := H
              have A20 := mk0 A200
              clear A200
              have H' := mk0 H
              clear H
              have hcz21_0 : w15.cell? ⟨gb452, 0, none⟩ = some (.string a0_0) := (blk_cell BK452.out 0).trans rfl
              have hcz21_1 : w15.cell? ⟨gb452, 1, none⟩ = some (.slice (some ad453) l0_1.length c0_1) := (blk_cell BK452.out 1).trans rfl
              have hfz21_0 := blk_frozen BK452.out 0
              have hfz21_1 := blk_frozen BK452.out 1
              have p456 : 0 ≤ ((ji17) : Int) := of_decide_eq_true (by first | (with_reducible assumption) | assumption)
              have q456 : (ji17) < (l0_1.length : Int) := of_decide_eq_true (by first | (with_reducible assumption) | assumption)
              obtain ⟨ad456, e456, hx456_0⟩ := Kd.at_string HR0_1.out (ji17) p456 q456
              obtain rfl : ad453 = ad456 := (by injection e456)
              replace hx456_0 := (HB.out.cell (World.block_lt_of_cell? w _ hx456_0)).trans hx456_0
              replace p456 := eq_true p456
              replace q456 := eq_true q456
              go_wp2_with (first | (go_at_call 30; (with_reducible refine (classification_Compare.calls k2 (rdOf ByteArray.empty l0_1 (ji17)) (rdOf ByteArray.empty l0_1 x20_2) t457 _ ?side1 A20.out).mono ?_); (case side1 => first | exact HG.out | exact GL.below HG.out (by repeat (first | (with_reducible first | exact HB.out | apply b_a | apply b_n | apply b_d | refine below_set ?_ GE452.out) | exact HB.out))); rintro e w22 ⟨rfl, hb⟩; have n0_ := mk0 (blk_below (g := gb452) (o := .cells #[.string a0_0, .slice (some ad453) l0_1.length c0_1] 28 (0, 0)) (by (with_reducible repeat (first | refine blk_drewN ?_ _ | refine blk_drew ?_ | refine blk_alloc ?_ _)); exact BK452.out) hb); have n1_ := mk0 (below_step (by repeat (first | (with_reducible first | exact HB.out | apply b_a | apply b_n | apply b_d | refine below_set ?_ GE452.out) | exact HB.out)) hb); clear BK452; clear HB; have BK452 := n0_; have HB := n1_; clear n0_ n1_; (try clear hb); (try clear hb2); (try clear hk); (try clear hi)))
              go_meet
              case rel => exact ⟨_, (decide (t457 ≥ 0)), (by first | rfl | (simp; done) | (simp [*]; done)), H', ⟨by have := HJ41.out; have := HK2.out; first | omega | exact Nat.le_refl _⟩, ⟨by (with_reducible repeat (first | refine blk_drewN ?_ _ | refine blk_drew ?_ | refine blk_alloc ?_ _)); exact BK452.out⟩, ⟨by repeat (first | (with_reducible first | exact HB.out | apply b_a | apply b_n | apply b_d | refine below_set ?_ GE452.out) | exact HB.out)⟩⟩
             ·rw [if_neg c19] at H
              exact absurd H (by simp)
            ·rw [if_neg c18] at H
             exact absurd H (by simp)
           ·rw [if_neg c16] at H
            have c16b0 : decide (0 < x20_2) = false := decide_eq_false c16
            clear c16
            (first | rw [c16b0] | (simp only [i64_w, i32_w]; rw [c16b0]) | skip)
            have H' := mk0 H
            clear H
            go_wp2
            go_meet
            case rel => exact ⟨_, (false), (by first | rfl | (simp; done) | (simp [*]; done)), H', ⟨by have := HJ41.out; have := HK2.out; first | omega | exact Nat.le_refl _⟩, ⟨by (with_reducible repeat (first | refine blk_drewN ?_ _ | refine blk_drew ?_ | refine blk_alloc ?_ _)); exact BK452.out⟩, ⟨by repeat (first | (with_reducible first | exact HB.out | apply b_a | apply b_n | apply b_d | refine below_set ?_ GE452.out) | exact HB.out)⟩⟩
          case rest =>
           clear HC14
           try clear c1
           try clear p2
           try clear c3
           try clear c4
           try clear c4b0
           try clear c4b1
           try clear p4
           try clear q4
           try clear hx4
           try clear p6
           try clear c7
           try clear c9
           try clear c9b0
           try clear c10
           try clear c10b0
           try clear c11
           try clear c11b0
           try clear c13
           try clear c16
           try clear c16b0
           try clear c18
           try clear c18b0
           try clear c19
           try clear c19b0
           try clear hcz21_0
           try clear hcz21_1
           try clear hcz5_0
           try clear hcz5_1
           try clear hcz6_0
           try clear hcz6_1
           try clear hcz8_0
           try clear hcz8_1
           try clear hfz21_0
           try clear hfz21_1
           try clear hfz5_0
           try clear hfz5_1
           try clear hfz6_0
           try clear hfz6_1
           try clear hfz8_0
           try clear hfz8_1
           try clear hx453_0
           try clear hx456_0
           try clear p2
           try clear p453
           try clear p456
           try clear q453
           try clear q456
           obtain ⟨kq, x33_53, rfl, HA, HJ53, BK452, HB⟩ := hcut
           cases kq with
           | zero => exact absurd HA.out (by simp [classification_Validate.j2])
           | succ kj53 =>
            have H := HA.out
            clear HA
            simp only [classification_Validate.j2] at H
            by_cases c23 : x33_53 = true
            ·subst c23
             have H1 : (some 62) = some r := by rw [if_pos rfl] at H; exact H
             clear H
             have H := H1
             clear H1
             obtain rfl := Option.some.inj H
             go_wp2
             go_ret
             exact ⟨by first | rfl | (simp [errW_none, errW_some] <;> rfl) | (simp [*, errW_none, errW_some] <;> rfl), by repeat (first | (with_reducible first | exact HB.out | apply b_a | apply b_n | apply b_d | refine below_set ?_ GE452.out) | exact HB.out)⟩
            ·replace c23 := Bool.eq_false_iff.mpr c23
             subst c23
             have H1 : (if t454.toList = ([] : List UInt8) then (classification_Validate.l0 kj53 l0_1 (l0_1.length : Int) (wrap64 (x20_2 + 1)) a0_0 l0_1) else (if 0 ≤ x20_2 then (if x20_2 ≤ (l0_1.length : Int) then ((slices_Contains_string_string.f kj53 (l0_1.take (x20_2 : Int).toNat) t454).bind fun t459 => (if t459 = true then (classification_Validate.l0 kj53 l0_1 (l0_1.length : Int) (wrap64 (x20_2 + 1)) a0_0 l0_1) else (some 63))) else (none)) else (none))) = some r := by rw [if_neg (show ¬ (false = true) by decide)] at H; exact H
             clear H
             have H := H1
             clear H1
             by_cases c24 : t454.toList = ([] : List UInt8)
             ·rw [if_pos c24] at H
              have c24b0 : (t454.toList == ([] : List UInt8)) = true := beq_iff_eq.mpr c24
              have c24b1 : (t454.toList != ([] : List UInt8)) = false := bne_eq_false_iff_eq.mpr c24
              clear c24
              have H' := mk0 H
              clear H
              go_wp2
              go_roundg kj53
              case measure => have := HJ41.out; have := HK2.out; have := HJ53.out; omega
              case rel => exact ⟨(wrap64 (x20_2 + 1)), (by first | rfl | (simp; done) | (simp [*]; done)), H', ⟨by have := HJ41.out; have := HK2.out; have := HJ53.out; omega⟩, ⟨by (with_reducible repeat (first | refine blk_drewN ?_ _ | refine blk_drew ?_ | refine blk_alloc ?_ _)); exact BK452.out⟩, ⟨by repeat (first | (with_reducible first | exact HB.out | apply b_a | apply b_n | apply b_d | refine below_set ?_ GE452.out) | exact HB.out)⟩⟩
             ·rw [if_neg c24] at H
              have c24b0 : (t454.toList == ([] : List UInt8)) = false := beq_eq_false_iff_ne.mpr c24
              have c24b1 : (t454.toList != ([] : List UInt8)) = true := bne_iff_ne.mpr c24
              by_cases c25 : 0 ≤ x20_2
              ·rw [if_pos c25] at H
               have c25b0 := eq_true c25
               have c25b1 : decide (0 ≤ x20_2) = true := decide_eq_true c25
               clear c25
               by_cases c26 : x20_2 ≤ (l0_1.length : Int)
               ·rw [if_pos c26] at H
                have c26b0 := eq_true c26
                have c26b1 : decide (x20_2 ≤ (l0_1.length : Int)) = true := decide_eq_true c26
                clear c26
                replace H := Option.bind_eq_some_iff.mp H
                obtain ⟨t459, A270, H⟩ := H
                replace H : (if t459 = true then (classification_Validate.l0 kj53 l0_1 (l0_1.length : Int) (wrap64 (x20_2 + 1)) a0_0 l0_1) else (some 63)) = some r := H
                have A27 := mk0 A270
                clear A270
                by_cases c28 : t459 = true
                ·subst c28
                 have H1 : (classification_Validate.l0 kj53 l0_1 (l0_1.length : Int) (wrap64 (x20_2 + 1)) a0_0 l0_1) = some r := by rw [if_pos rfl] at H; exact H
                 clear H
                 have H := H1
                 clear H1
                 have H' := mk0 H
                 clear H
                 have hcz29_0 : wc.cell? ⟨gb452, 0, none⟩ = some (.string a0_0) := (blk_cell BK452.out 0).trans rfl
                 have hcz29_1 : wc.cell? ⟨gb452, 1, none⟩ = some (.slice (some ad453) l0_1.length c0_1) := (blk_cell BK452.out 1).trans rfl
                 have hfz29_0 := blk_frozen BK452.out 0
                 have hfz29_1 := blk_frozen BK452.out 1
                 obtain ⟨i030, hi030, _, hsz30, _⟩ := info_parts info9
                 obtain ⟨hcut30, hA30, hC30⟩ := print_take_of (P := Tryd.prog) Value.string (⟨#[]⟩ : ByteArray) 26 9 .i64 Tryd.underlying26 hi030 hsz30 (some ad453) c0_1 l0_1 x20_2 (of_decide_eq_true (by first | (with_reducible assumption) | assumption)) (of_decide_eq_true (by first | (with_reducible assumption) | assumption)) HC0_1.out
                 have HR458 := mk0 (Kd.C_of_reads (h1 := fun _ => rfl) (hA30 _ (Kd.reads_of_C HR0_1.out)))
                 have HC458 := mk0 hC30
                 clear hA30 hC30 hi030 hsz30
                 go_wp2_with (first | (go_at_call 50; refine calls_of_args (args' := #[.slice (some ad453) (l0_1.take (x20_2 : Int).toNat).length c0_1, .string t454]) (by have hq_ : x20_2 ≤ (l0_1.length : Int) := of_decide_eq_true (by first | (with_reducible assumption) | assumption); rw [show (l0_1.take (x20_2 : Int).toNat).length = (x20_2 : Int).toNat from by rw [List.length_take]; omega]) ?_; (with_reducible refine (slices_Contains_string_string.calls kj53 _ _ (l0_1.take (x20_2 : Int).toNat) t454 true _ ?side1 ?side2 A27.out).mono ?_); (case side1 => repeat (first | exact (Kd.C_below HR458.out HB.out) | (with_reducible refine Kd.C_alloc ?_ _) | (with_reducible refine Kd.C_drewN ?_ _) | (with_reducible refine Kd.C_drew ?_))); (case side2 => exact HC458.out); rintro e w' ⟨rfl, ⟨nd, rfl⟩⟩))
                 go_roundg kj53
                 case measure => have := HJ41.out; have := HK2.out; have := HJ53.out; omega
                 case rel => exact ⟨(wrap64 (x20_2 + 1)), (by first | rfl | (simp; done) | (simp [*]; done)), H', ⟨by have := HJ41.out; have := HK2.out; have := HJ53.out; omega⟩, ⟨by (with_reducible repeat (first | refine blk_drewN ?_ _ | refine blk_drew ?_ | refine blk_alloc ?_ _)); exact BK452.out⟩, ⟨by repeat (first | (with_reducible first | exact HB.out | apply b_a | apply b_n | apply b_d | refine below_set ?_ GE452.out) | exact HB.out)⟩⟩
                ·replace c28 := Bool.eq_false_iff.mpr c28
                 subst c28
                 have H1 : (some 63) = some r := by rw [if_neg (show ¬ (false = true) by decide)] at H; exact H
                 clear H
                 have H := H1
                 clear H1
                 obtain rfl := Option.some.inj H
                 have hcz31_0 : wc.cell? ⟨gb452, 0, none⟩ = some (.string a0_0) := (blk_cell BK452.out 0).trans rfl
                 have hcz31_1 : wc.cell? ⟨gb452, 1, none⟩ = some (.slice (some ad453) l0_1.length c0_1) := (blk_cell BK452.out 1).trans rfl
                 have hfz31_0 := blk_frozen BK452.out 0
                 have hfz31_1 := blk_frozen BK452.out 1
                 obtain ⟨i032, hi032, _, hsz32, _⟩ := info_parts info9
                 obtain ⟨hcut32, hA32, hC32⟩ := print_take_of (P := Tryd.prog) Value.string (⟨#[]⟩ : ByteArray) 26 9 .i64 Tryd.underlying26 hi032 hsz32 (some ad453) c0_1 l0_1 x20_2 (of_decide_eq_true (by first | (with_reducible assumption) | assumption)) (of_decide_eq_true (by first | (with_reducible assumption) | assumption)) HC0_1.out
                 have HR458 := mk0 (Kd.C_of_reads (h1 := fun _ => rfl) (hA32 _ (Kd.reads_of_C HR0_1.out)))
                 have HC458 := mk0 hC32
                 clear hA32 hC32 hi032 hsz32
                 go_wp2_with (first | (go_at_call 50; refine calls_of_args (args' := #[.slice (some ad453) (l0_1.take (x20_2 : Int).toNat).length c0_1, .string t454]) (by have hq_ : x20_2 ≤ (l0_1.length : Int) := of_decide_eq_true (by first | (with_reducible assumption) | assumption); rw [show (l0_1.take (x20_2 : Int).toNat).length = (x20_2 : Int).toNat from by rw [List.length_take]; omega]) ?_; (with_reducible refine (slices_Contains_string_string.calls kj53 _ _ (l0_1.take (x20_2 : Int).toNat) t454 false _ ?side1 ?side2 A27.out).mono ?_); (case side1 => repeat (first | exact (Kd.C_below HR458.out HB.out) | (with_reducible refine Kd.C_alloc ?_ _) | (with_reducible refine Kd.C_drewN ?_ _) | (with_reducible refine Kd.C_drew ?_))); (case side2 => exact HC458.out); rintro e w' ⟨rfl, ⟨nd, rfl⟩⟩))
                 go_ret
                 exact ⟨by first | rfl | (simp [errW_none, errW_some] <;> rfl) | (simp [*, errW_none, errW_some] <;> rfl), by repeat (first | (with_reducible first | exact HB.out | apply b_a | apply b_n | apply b_d | refine below_set ?_ GE452.out) | exact HB.out)⟩
               ·rw [if_neg c26] at H
                exact absurd H (by simp)
              ·rw [if_neg c25] at H
               exact absurd H (by simp)
         ·replace c13 := Bool.eq_false_iff.mpr c13
          subst c13
          have H1 : (some 60) = some r := by rw [if_neg (show ¬ (false = true) by decide)] at H; exact H
          clear H
          have H := H1
          clear H1
          obtain rfl := Option.some.inj H
          have p453 : 0 ≤ (x20_2 : Int) := of_decide_eq_true (by first | (with_reducible assumption) | assumption)
          have q453 : x20_2 < (l0_1.length : Int) := of_decide_eq_true (by first | (with_reducible assumption) | assumption)
          obtain ⟨ad453, e453, hx453_0⟩ := Kd.at_string HR0_1.out x20_2 p453 q453
          cases e453
          replace hx453_0 := (HB.out.cell (World.block_lt_of_cell? w _ hx453_0)).trans hx453_0
          replace p453 := eq_true p453
          replace q453 := eq_true q453
          go_wp2_with (first | ((with_reducible refine gate_callee (f := 33) rfl ?_); refine goesL_ (some 27) rfl rfl Tryd.func33 (by kernel_rfl) rfl #[.string (rdOf ByteArray.empty l0_1 x20_2)] rfl (by (try simp only [List.map_toArray, List.map_cons, List.map_nil]); first | done | rfl | (simp only [List.length_drop, List.length_take]; rfl)) ?_; (with_reducible refine (classification_Parent.calls k2 (rdOf ByteArray.empty l0_1 x20_2) t454 false _ ?side1 A12.out).mono ?_); (case side1 => first | exact HG.out | exact GL.below HG.out (by repeat (first | (with_reducible first | exact HB.out | apply b_a | apply b_n | apply b_d | refine below_set ?_ GE452.out) | exact HB.out))); rintro e w33 ⟨rfl, hb⟩; refine ⟨_, rfl, ?_⟩; have n0_ := mk0 (blk_below (g := gb452) (o := .cells #[.string a0_0, .slice (some ad453) l0_1.length c0_1] 28 (0, 0)) (by (with_reducible repeat (first | refine blk_drewN ?_ _ | refine blk_drew ?_ | refine blk_alloc ?_ _)); exact BK452.out) hb); have n1_ := mk0 (below_step (by repeat (first | (with_reducible first | exact HB.out | apply b_a | apply b_n | apply b_d | refine below_set ?_ GE452.out) | exact HB.out)) hb); clear BK452; clear HB; have BK452 := n0_; have HB := n1_; clear n0_ n1_; (try clear hb); (try clear hb2); (try clear hk); (try clear hi)))
          go_ret
          exact ⟨by first | rfl | (simp [errW_none, errW_some] <;> rfl) | (simp [*, errW_none, errW_some] <;> rfl), by repeat (first | (with_reducible first | exact HB.out | apply b_a | apply b_n | apply b_d | refine below_set ?_ GE452.out) | exact HB.out)⟩
        ·rw [if_neg c11] at H
         exact absurd H (by simp)
       ·rw [if_neg c10] at H
        exact absurd H (by simp)
      ·rw [if_neg c9] at H
       have c9b0 : decide (x20_2 < (l0_1.length : Int)) = false := decide_eq_false c9
       clear c9
       obtain rfl := Option.some.inj H
       go_wp2
       go_ret
       exact ⟨by first | rfl | (simp [errW_none, errW_some] <;> rfl) | (simp [*, errW_none, errW_some] <;> rfl), by repeat (first | (with_reducible first | exact HB.out | apply b_a | apply b_n | apply b_d | refine below_set ?_ GE452.out) | exact HB.out)⟩

/-! ### priceofficeref06_has: function 52 -/
def priceofficeref06_has.l0 : Nat → ByteArray → List ByteArray → Int → Int → Option (Bool)
 | 0, _, _, _, _ => none
 | k + 1, x1, x7, x8, x9 => if x9 < x8 then (if 0 ≤ x9 then (if x9 < (x7.length : Int) then (if (rdOf ByteArray.empty x7 x9).toList = x1.toList then (some true) else (priceofficeref06_has.l0 k x1 x7 x8 (wrap64 (x9 + 1)))) else (none)) else (none)) else (some false)
def priceofficeref06_has.f (k : Nat) (l0 : List ByteArray) (a1 : ByteArray) : Option (Bool) := priceofficeref06_has.l0 k a1 l0 (l0.length : Int) 0
theorem priceofficeref06_has.mono_l : ∀ k, (∀ y0 y1 y2 y3, LeO (priceofficeref06_has.l0 k y0 y1 y2 y3) (priceofficeref06_has.l0 (k + 1) y0 y1 y2 y3))
 | 0 => fun _ _ _ _ r h => by simp [priceofficeref06_has.l0] at h
 | k + 1 => by
  have ih0 := priceofficeref06_has.mono_l k
  ·intro y0 y1 y2 y3
   unfold priceofficeref06_has.l0
   repeat' first
   | (with_reducible exact ih0 _ _ _ _)
   | (with_reducible exact LeO.refl _)
   | (with_reducible exact LeO.none _)
   | (with_reducible refine LeO.ite ?_ ?_)
   | (with_reducible refine LeO.bind ?_ (fun _ => ?_))
   | exact ih0 _ _ _ _
   | exact LeO.none _
   | refine LeO.ite ?_ ?_
   | refine LeO.bind ?_ (fun _ => ?_)
theorem priceofficeref06_has.mono : ∀ a0 a1 k, LeO (priceofficeref06_has.f k a0 a1) (priceofficeref06_has.f (k + 1) a0 a1) := by
 intro a0 a1 k
 have ih0 := priceofficeref06_has.mono_l k
 unfold priceofficeref06_has.f
 repeat' first
   | (with_reducible exact ih0 _ _ _ _)
   | (with_reducible exact LeO.refl _)
   | (with_reducible exact LeO.none _)
   | (with_reducible refine LeO.ite ?_ ?_)
   | (with_reducible refine LeO.bind ?_ (fun _ => ?_))
   | exact ih0 _ _ _ _
   | exact LeO.none _
   | refine LeO.ite ?_ ?_
   | refine LeO.bind ?_ (fun _ => ?_)
set_option maxHeartbeats 8000000 in
set_option maxRecDepth 100000 in
theorem priceofficeref06_has.calls (k : Nat) (A0 : Option Addr) (c0 : Nat) (l0 : List ByteArray) (a1 : ByteArray) (r : Bool) (w : World) (hr0 : Kd.C Kd.string w A0 l0.length l0) (hc0 : l0.length ≤ c0) (h : priceofficeref06_has.f k l0 a1 = some r) :
  Calls Tryd.prog 52 #[.slice A0 l0.length c0, .string a1] w fun e w' => e = .returned (.bool r) ∧ Drawn0 w w' := by
 have HR0 := mk0 hr0
 have HC0 := mk0 hc0
 clear hr0 hc0
 have H : (priceofficeref06_has.l0 k a1 l0 (l0.length : Int) 0) = some r := h
 clear h
 have H' := mk0 H
 clear H
 go_enter Tryd.func52, Tryd.ntmps52
 go_wp2
 go_loopg [9] k (fun kq v9 w' => ∃ (x9_1 : Int), v9 = .int .i64 x9_1 ∧ Aside0 (priceofficeref06_has.l0 kq a1 l0 (l0.length : Int) x9_1 = some r) ∧ Aside0 (kq ≤ k) ∧ Drawn0 w w')
 case atStart => exact ⟨(0), (by first | rfl | (simp; done) | (simp [*]; done)), H', ⟨Nat.le_refl _⟩, by repeat (first | exact Drawn0.refl _ | apply Drawn0.step)⟩
 case round =>
  clear H'
  try clear p2
  obtain ⟨x9_1, rfl, HA, HK1, ⟨m1, rfl⟩⟩ := hrel
  cases gk with
  | zero => exact absurd HA.out (by simp [priceofficeref06_has.l0])
  | succ k1 =>
   have H := HA.out
   clear HA
   simp only [priceofficeref06_has.l0] at H
   by_cases c3 : x9_1 < (l0.length : Int)
   ·rw [if_pos c3] at H
    have c3b0 : decide (x9_1 < (l0.length : Int)) = true := decide_eq_true c3
    clear c3
    by_cases c4 : 0 ≤ x9_1
    ·rw [if_pos c4] at H
     have c4b0 : decide (0 ≤ x9_1) = true := decide_eq_true c4
     clear c4
     by_cases c5 : x9_1 < (l0.length : Int)
     ·rw [if_pos c5] at H
      have c5b0 : decide (x9_1 < (l0.length : Int)) = true := decide_eq_true c5
      clear c5
      by_cases c6 : (rdOf ByteArray.empty l0 x9_1).toList = a1.toList
      ·rw [if_pos c6] at H
       have c6b0 : ((rdOf ByteArray.empty l0 x9_1).toList == a1.toList) = true := beq_iff_eq.mpr c6
       have c6b1 : ((rdOf ByteArray.empty l0 x9_1).toList != a1.toList) = false := bne_eq_false_iff_eq.mpr c6
       clear c6
       obtain rfl := Option.some.inj H
       have p460 : 0 ≤ (x9_1 : Int) := of_decide_eq_true (by first | (with_reducible assumption) | assumption)
       have q460 : x9_1 < (l0.length : Int) := of_decide_eq_true (by first | (with_reducible assumption) | assumption)
       obtain ⟨ad460, e460, hx460_0⟩ := Kd.at_string HR0.out x9_1 p460 q460
       cases e460
       replace p460 := eq_true p460
       replace q460 := eq_true q460
       go_wp2
       go_ret
       exact ⟨by first | rfl | (simp; done) | (simp [*]; done), by repeat (first | exact Drawn0.refl _ | apply Drawn0.step)⟩
      ·rw [if_neg c6] at H
       have c6b0 : ((rdOf ByteArray.empty l0 x9_1).toList == a1.toList) = false := beq_eq_false_iff_ne.mpr c6
       have c6b1 : ((rdOf ByteArray.empty l0 x9_1).toList != a1.toList) = true := bne_iff_ne.mpr c6
       have H' := mk0 H
       clear H
       have p460 : 0 ≤ (x9_1 : Int) := of_decide_eq_true (by first | (with_reducible assumption) | assumption)
       have q460 : x9_1 < (l0.length : Int) := of_decide_eq_true (by first | (with_reducible assumption) | assumption)
       obtain ⟨ad460, e460, hx460_0⟩ := Kd.at_string HR0.out x9_1 p460 q460
       cases e460
       replace p460 := eq_true p460
       replace q460 := eq_true q460
       go_wp2
       go_roundg k1
       case measure => have := HK1.out; omega
       case rel => exact ⟨(wrap64 (x9_1 + 1)), (by first | rfl | (simp; done) | (simp [*]; done)), H', ⟨by have := HK1.out; omega⟩, by repeat (first | exact Drawn0.refl _ | apply Drawn0.step)⟩
     ·rw [if_neg c5] at H
      exact absurd H (by simp)
    ·rw [if_neg c4] at H
     exact absurd H (by simp)
   ·rw [if_neg c3] at H
    have c3b0 : decide (x9_1 < (l0.length : Int)) = false := decide_eq_false c3
    clear c3
    obtain rfl := Option.some.inj H
    go_wp2
    go_ret
    exact ⟨by first | rfl | (simp; done) | (simp [*]; done), by repeat (first | exact Drawn0.refl _ | apply Drawn0.step)⟩

end Go.Proofs.YtpnoliognpmkmaaDoor.P
