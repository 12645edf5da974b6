/- Lean functions with the same answers as the program's Go functions, and for each the proof that the call comes to these answers; written by a program of mine out of the translation, the functions marked 'by hand' by me. -/
import Derived.Test.YtpnoliognpmkmaaDoorP0
namespace Go.Proofs.YtpnoliognpmkmaaDoor.P
open Go.RowKit Go.Proofs.YtpnoliognpmkmaaDoorW.PrintWords Go.Proofs.YtpnoliognpmkmaaDoorW.PrintLast Go.Proofs.YtpnoliognpmkmaaDoorW.PrintMore
attribute [local go_sem] max2_int min2_int max_two min_two max_three min_three max_four min_four   -- for this text's walks alone
set_option linter.unusedVariables false
set_option linter.unusedSimpArgs false

/-! ### slices_Min_int_int: function 55 (by hand) -/


def slices_Min_int_int.f (l0 : List Int) : Option (Int) := if 0 < l0.length ∧ l0.length ≤ 9223372036854775807 then some (Lib.minOf l0) else none
theorem slices_Min_int_int.calls (A0 : Option Addr) (c0 : Nat) (l0 : List Int) (r : Int) (w : World) (hr0 : Kd.C (Kd.int .i64) w A0 l0.length l0) (hc0 : l0.length ≤ c0) (h : slices_Min_int_int.f l0 = some r) :
  Calls Tryd.prog 55 #[.slice A0 l0.length c0] w fun e w' => e = .returned (.int .i64 r) ∧ Below w.heap.size w w' := by
 unfold slices_Min_int_int.f at h
 split at h
 ·rename_i c
  obtain rfl := Option.some.inj h
  exact min_any A0 c0 l0 w hr0 c.1 c.2
 ·exact absurd h (by simp)

/-! ### slices_Max_int_int: function 56 (by hand) -/


def slices_Max_int_int.f (l0 : List Int) : Option (Int) := if 0 < l0.length ∧ l0.length ≤ 9223372036854775807 then some (Lib.maxOf l0) else none
theorem slices_Max_int_int.calls (A0 : Option Addr) (c0 : Nat) (l0 : List Int) (r : Int) (w : World) (hr0 : Kd.C (Kd.int .i64) w A0 l0.length l0) (hc0 : l0.length ≤ c0) (h : slices_Max_int_int.f l0 = some r) :
  Calls Tryd.prog 56 #[.slice A0 l0.length c0] w fun e w' => e = .returned (.int .i64 r) ∧ Below w.heap.size w w' := by
 unfold slices_Max_int_int.f at h
 split at h
 ·rename_i c
  obtain rfl := Option.some.inj h
  exact max_any A0 c0 l0 w hr0 c.1 c.2
 ·exact absurd h (by simp)

/-! ### strconv_Itoa: function 57 (by hand) -/


def strconv_Itoa.f (a0 : Int) : Option (ByteArray) := if -9223372036854775808 ≤ a0 ∧ a0 ≤ 9223372036854775807 then some (itoaB a0) else none
theorem strconv_Itoa.calls (a0 : Int) (r : ByteArray) (w : World) (hG : GT w) (h : strconv_Itoa.f a0 = some r) :
  Calls Tryd.prog 57 #[.int .i64 a0] w fun e w' => e = .returned (.string r) ∧ Below w.heap.size w w' := by
 unfold strconv_Itoa.f at h
 split at h
 ·rename_i c
  obtain rfl := Option.some.inj h
  exact itoa_any a0 c.1 c.2 w hG
 ·exact absurd h (by simp)

/-! ### classification_Format: function 28 -/
mutual
def classification_Format.j0 : Nat → List Int → Bool → Option (ByteArray × Int)
 | 0, _, _ => none
 | k + 1, x0, x24 => if x24 = true then (some ((⟨#[]⟩ : ByteArray), 64)) else (if 0 < (x0.length : Int) then ((strconv_Itoa.f (rd x0 0)).bind fun t104 => (if (rd x0 0) < 10 then (if 1 + t104.size ≤ 9223372036854775807 then (classification_Format.j1 k x0 ((⟨#[48]⟩ : ByteArray) ++ t104)) else (none)) else (classification_Format.j1 k x0 t104))) else (none))
def classification_Format.j1 : Nat → List Int → ByteArray → Option (ByteArray × Int)
 | 0, _, _ => none
 | k + 1, x0, x4 => if 1 ≤ (x0.length : Int) then (classification_Format.l0 k x4 (x0.drop 1) ((x0.drop 1).length : Int) 0) else (none)
def classification_Format.l0 : Nat → ByteArray → List Int → Int → Int → Option (ByteArray × Int)
 | 0, _, _, _, _ => none
 | k + 1, x4, x36, x37, x38 => if x38 < x37 then (if 0 ≤ x38 then (if x38 < (x36.length : Int) then ((strconv_Itoa.f (rd x36 x38)).bind fun t108 => (if 1 + t108.size ≤ 9223372036854775807 then (if x4.size + ((⟨#[46]⟩ : ByteArray) ++ t108).size ≤ 9223372036854775807 then (classification_Format.l0 k (x4 ++ ((⟨#[46]⟩ : ByteArray) ++ t108)) x36 x37 (wrap64 (x38 + 1))) else (none)) else (none))) else (none)) else (none)) else (some (x4, 0))
end
def classification_Format.f (k : Nat) (l0 : List Int) : Option (ByteArray × Int) := if (l0.length : Int) < 1 then (classification_Format.j0 k l0 true) else (if (l0.length : Int) > 5 then (classification_Format.j0 k l0 true) else ((slices_Min_int_int.f l0).bind fun t101 => (if t101 < 1 then (classification_Format.j0 k l0 true) else ((slices_Max_int_int.f l0).bind fun t102 => (classification_Format.j0 k l0 (decide (t102 > 99)))))))
theorem classification_Format.mono_l : ∀ k, (∀ y0 y1, LeO (classification_Format.j0 k y0 y1) (classification_Format.j0 (k + 1) y0 y1)) ∧ (∀ y0 y1, LeO (classification_Format.j1 k y0 y1) (classification_Format.j1 (k + 1) y0 y1)) ∧ (∀ y0 y1 y2 y3, LeO (classification_Format.l0 k y0 y1 y2 y3) (classification_Format.l0 (k + 1) y0 y1 y2 y3))
 | 0 => ⟨fun _ _ r h => by simp [classification_Format.j0] at h, fun _ _ r h => by simp [classification_Format.j1] at h, fun _ _ _ _ r h => by simp [classification_Format.l0] at h⟩
 | k + 1 => by
  obtain ⟨ih0, ih1, ih2⟩ := classification_Format.mono_l k
  refine ⟨?_, ?_, ?_⟩
  ·intro y0 y1
   unfold classification_Format.j0
   repeat' first
   | (with_reducible exact ih0 _ _)
   | (with_reducible exact ih1 _ _)
   | (with_reducible exact ih2 _ _ _ _)
   | (with_reducible exact LeO.refl _)
   | (with_reducible exact LeO.none _)
   | (with_reducible refine LeO.ite ?_ ?_)
   | (with_reducible refine LeO.bind ?_ (fun _ => ?_))
   | exact ih0 _ _
   | exact ih1 _ _
   | exact ih2 _ _ _ _
   | exact LeO.none _
   | refine LeO.ite ?_ ?_
   | refine LeO.bind ?_ (fun _ => ?_)
  ·intro y0 y1
   unfold classification_Format.j1
   repeat' first
   | (with_reducible exact ih0 _ _)
   | (with_reducible exact ih1 _ _)
   | (with_reducible exact ih2 _ _ _ _)
   | (with_reducible exact LeO.refl _)
   | (with_reducible exact LeO.none _)
   | (with_reducible refine LeO.ite ?_ ?_)
   | (with_reducible refine LeO.bind ?_ (fun _ => ?_))
   | exact ih0 _ _
   | exact ih1 _ _
   | exact ih2 _ _ _ _
   | exact LeO.none _
   | refine LeO.ite ?_ ?_
   | refine LeO.bind ?_ (fun _ => ?_)
  ·intro y0 y1 y2 y3
   unfold classification_Format.l0
   repeat' first
   | (with_reducible exact ih0 _ _)
   | (with_reducible exact ih1 _ _)
   | (with_reducible exact ih2 _ _ _ _)
   | (with_reducible exact LeO.refl _)
   | (with_reducible exact LeO.none _)
   | (with_reducible refine LeO.ite ?_ ?_)
   | (with_reducible refine LeO.bind ?_ (fun _ => ?_))
   | exact ih0 _ _
   | exact ih1 _ _
   | exact ih2 _ _ _ _
   | exact LeO.none _
   | refine LeO.ite ?_ ?_
   | refine LeO.bind ?_ (fun _ => ?_)
theorem classification_Format.mono : ∀ a0 k, LeO (classification_Format.f k a0) (classification_Format.f (k + 1) a0) := by
 intro a0 k
 obtain ⟨ih0, ih1, ih2⟩ := classification_Format.mono_l k
 unfold classification_Format.f
 repeat' first
   | (with_reducible exact ih0 _ _)
   | (with_reducible exact ih1 _ _)
   | (with_reducible exact ih2 _ _ _ _)
   | (with_reducible exact LeO.refl _)
   | (with_reducible exact LeO.none _)
   | (with_reducible refine LeO.ite ?_ ?_)
   | (with_reducible refine LeO.bind ?_ (fun _ => ?_))
   | exact ih0 _ _
   | exact ih1 _ _
   | exact ih2 _ _ _ _
   | exact LeO.none _
   | refine LeO.ite ?_ ?_
   | refine LeO.bind ?_ (fun _ => ?_)
set_option maxHeartbeats 8000000 in
set_option maxRecDepth 100000 in
theorem classification_Format.calls (k : Nat) (A0 : Option Addr) (c0 : Nat) (l0 : List Int) (r1 : ByteArray) (r2 : Int) (w : World) (hr0 : Kd.C (Kd.int .i64) w A0 l0.length l0) (hc0 : l0.length ≤ c0) (hG : GT w) (h : classification_Format.f k l0 = some (r1, r2)) :
  Calls Tryd.prog 28 #[.slice A0 l0.length c0] w fun e w' => e = .returned (.tuple #[.string r1, .int .i64 r2]) ∧ Below w.heap.size w w' := by
 have HG := mk0 hG
 clear hG
 have HR0 := mk0 hr0
 have HC0 := mk0 hc0
 clear hr0 hc0
 have HB := mk0 (Below.refl w.heap.size w)
 have H : (if (l0.length : Int) < 1 then (classification_Format.j0 k l0 true) else (if (l0.length : Int) > 5 then (classification_Format.j0 k l0 true) else ((slices_Min_int_int.f l0).bind fun t101 => (if t101 < 1 then (classification_Format.j0 k l0 true) else ((slices_Max_int_int.f l0).bind fun t102 => (classification_Format.j0 k l0 (decide (t102 > 99)))))))) = some (r1, r2) := h
 clear h
 have HC2 := mk0 H
 clear H
 go_enter Tryd.func28, Tryd.ntmps28
 go_upto_region 1 with (fail)
 go_cut [24] (fun v24 wc => ∃ (kq : Nat) (x24_41 : Bool), v24 = .bool x24_41 ∧ Aside0 (classification_Format.j0 kq l0 x24_41 = some (r1, r2)) ∧ Aside0 (kq ≤ k) ∧ Aside0 (Below w.heap.size w wc))
 case first =>
  have H := HC2.out
  clear HC2
  by_cases c3 : (l0.length : Int) < 1
  ·rw [if_pos c3] at H
   have c3b0 : decide ((l0.length : Int) < 1) = true := decide_eq_true c3
   have c3b1 : decide (l0.length < 1) = true := decide_eq_true (by omega)
   clear c3
   (first | rw [c3b0] | (simp only [i64_w, i32_w]; rw [c3b0]) | skip)
   have H' := mk0 H
   clear H
   go_wp2
   go_meet
   case rel => exact ⟨_, (true), (by first | rfl | (simp; done) | (simp [*]; done)), H', ⟨by first | omega | exact Nat.le_refl _⟩, ⟨by repeat (first | (with_reducible first | exact HB.out | apply b_a | apply b_n | apply b_d) | exact HB.out)⟩⟩
  ·rw [if_neg c3] at H
   have c3b0 : decide ((l0.length : Int) < 1) = false := decide_eq_false c3
   have c3b1 : decide (l0.length < 1) = false := decide_eq_false (by omega)
   clear c3
   (first | rw [c3b0] | (simp only [i64_w, i32_w]; rw [c3b0]) | skip)
   by_cases c4 : (l0.length : Int) > 5
   ·rw [if_pos c4] at H
    have c4b0 : decide (5 < (l0.length : Int)) = true := decide_eq_true c4
    have c4b1 : decide (5 < l0.length) = true := decide_eq_true (by omega)
    clear c4
    have H' := mk0 H
    clear H
    go_wp2
    go_meet
    case rel => exact ⟨_, (true), (by first | rfl | (simp; done) | (simp [*]; done)), H', ⟨by first | omega | exact Nat.le_refl _⟩, ⟨by repeat (first | (with_reducible first | exact HB.out | apply b_a | apply b_n | apply b_d) | exact HB.out)⟩⟩
   ·rw [if_neg c4] at H
    have c4b0 : decide (5 < (l0.length : Int)) = false := decide_eq_false c4
    have c4b1 : decide (5 < l0.length) = false := decide_eq_false (by omega)
    clear c4
    replace H := Option.bind_eq_some_iff.mp H
    obtain ⟨t101, A50, H⟩ := H
    replace H : (if t101 < 1 then (classification_Format.j0 k l0 true) else ((slices_Max_int_int.f l0).bind fun t102 => (classification_Format.j0 k l0 (decide (t102 > 99))))) = some (r1, r2) := H
    have A5 := mk0 A50
    clear A50
    by_cases c6 : t101 < 1
    ·rw [if_pos c6] at H
     have c6b0 : decide (t101 < 1) = true := decide_eq_true c6
     clear c6
     have H' := mk0 H
     clear H
     go_wp2_with (first | (go_at_call 55; (with_reducible refine (slices_Min_int_int.calls _ _ l0 t101 _ ?side1 ?side2 A5.out).mono ?_); (case side1 => repeat (first | exact (Kd.C_below HR0.out HB.out) | (with_reducible refine Kd.C_alloc ?_ _) | (with_reducible refine Kd.C_drewN ?_ _) | (with_reducible refine Kd.C_drew ?_))); (case side2 => exact HC0.out); rintro e w7 ⟨rfl, hb⟩; have n0_ := mk0 (below_step (by repeat (first | (with_reducible first | exact HB.out | apply b_a | apply b_n | apply b_d) | exact HB.out)) hb); clear HB; have HB := n0_; clear n0_; (try clear hb); (try clear hb2); (try clear hk); (try clear hi)))
     go_meet
     case rel => exact ⟨_, (true), (by first | rfl | (simp; done) | (simp [*]; done)), H', ⟨by first | omega | exact Nat.le_refl _⟩, ⟨by repeat (first | (with_reducible first | exact HB.out | apply b_a | apply b_n | apply b_d) | exact HB.out)⟩⟩
    ·rw [if_neg c6] at H
     have c6b0 : decide (t101 < 1) = false := decide_eq_false c6
     clear c6
     replace H := Option.bind_eq_some_iff.mp H
     obtain ⟨t102, A80, H⟩ := H
     replace H : (classification_Format.j0 k l0 (decide (t102 > 99))) = some (r1, r2) := H
     have A8 := mk0 A80
     clear A80
     have H' := mk0 H
     clear H
     go_wp2_with (first | (go_at_call 55; (with_reducible refine (slices_Min_int_int.calls _ _ l0 t101 _ ?side1 ?side2 A5.out).mono ?_); (case side1 => repeat (first | exact (Kd.C_below HR0.out HB.out) | (with_reducible refine Kd.C_alloc ?_ _) | (with_reducible refine Kd.C_drewN ?_ _) | (with_reducible refine Kd.C_drew ?_))); (case side2 => exact HC0.out); rintro e w9 ⟨rfl, hb⟩; have n0_ := mk0 (below_step (by repeat (first | (with_reducible first | exact HB.out | apply b_a | apply b_n | apply b_d) | exact HB.out)) hb); clear HB; have HB := n0_; clear n0_; (try clear hb); (try clear hb2); (try clear hk); (try clear hi)) | (go_at_call 56; (with_reducible refine (slices_Max_int_int.calls _ _ l0 t102 _ ?side1 ?side2 A8.out).mono ?_); (case side1 => repeat (first | exact (Kd.C_below HR0.out HB.out) | (with_reducible refine Kd.C_alloc ?_ _) | (with_reducible refine Kd.C_drewN ?_ _) | (with_reducible refine Kd.C_drew ?_))); (case side2 => exact HC0.out); rintro e w10 ⟨rfl, hb⟩; have n0_ := mk0 (below_step (by repeat (first | (with_reducible first | exact HB.out | apply b_a | apply b_n | apply b_d) | exact HB.out)) hb); clear HB; have HB := n0_; clear n0_; (try clear hb); (try clear hb2); (try clear hk); (try clear hi)))
     go_meet
     case rel => exact ⟨_, (decide (t102 > 99)), (by first | rfl | (simp; done) | (simp [*]; done)), H', ⟨by first | omega | exact Nat.le_refl _⟩, ⟨by repeat (first | (with_reducible first | exact HB.out | apply b_a | apply b_n | apply b_d) | exact HB.out)⟩⟩
 case rest =>
  clear HC2
  try clear c2
  try clear p2
  try clear c3
  try clear c3b0
  try clear c3b1
  try clear c4
  try clear c4b0
  try clear c4b1
  try clear c6
  try clear c6b0
  obtain ⟨kq, x24_41, rfl, HA, HJ41, HB⟩ := hcut
  cases kq with
  | zero => exact absurd HA.out (by simp [classification_Format.j0])
  | succ kj41 =>
   have H := HA.out
   clear HA
   simp only [classification_Format.j0] at H
   by_cases c11 : x24_41 = true
   ·subst c11
    have H1 : (some ((⟨#[]⟩ : ByteArray), 64)) = some (r1, r2) := by rw [if_pos rfl] at H; exact H
    clear H
    have H := H1
    clear H1
    simp only [Option.some.injEq, Prod.mk.injEq] at H
    obtain ⟨rfl, rfl⟩ := H
    go_wp2
    go_ret2
    exact ⟨by first | rfl | (simp [errW_none, errW_some] <;> rfl) | (simp [*, errW_none, errW_some] <;> rfl), by repeat (first | (with_reducible first | exact HB.out | apply b_a | apply b_n | apply b_d) | exact HB.out)⟩
   ·replace c11 := Bool.eq_false_iff.mpr c11
    subst c11
    have H1 : (if 0 < (l0.length : Int) then ((strconv_Itoa.f (rd l0 0)).bind fun t104 => (if (rd l0 0) < 10 then (if 1 + t104.size ≤ 9223372036854775807 then (classification_Format.j1 kj41 l0 ((⟨#[48]⟩ : ByteArray) ++ t104)) else (none)) else (classification_Format.j1 kj41 l0 t104))) else (none)) = some (r1, r2) := by rw [if_neg (show ¬ (false = true) by decide)] at H; exact H
    clear H
    have H := H1
    clear H1
    by_cases c12 : 0 < (l0.length : Int)
    ·rw [if_pos c12] at H
     have c12b0 : decide (0 < (l0.length : Int)) = true := decide_eq_true c12
     have c12b1 : decide (0 < l0.length) = true := decide_eq_true (by omega)
     clear c12
     replace H := Option.bind_eq_some_iff.mp H
     obtain ⟨t104, A130, H⟩ := H
     replace H : (if (rd l0 0) < 10 then (if 1 + t104.size ≤ 9223372036854775807 then (classification_Format.j1 kj41 l0 ((⟨#[48]⟩ : ByteArray) ++ t104)) else (none)) else (classification_Format.j1 kj41 l0 t104)) = some (r1, r2) := H
     have A13 := mk0 A130
     clear A130
     have HC14 := mk0 H
     clear H
     have p103 : 0 ≤ (0 : Int) := (by omega)
     have q103 : 0 < (l0.length : Int) := of_decide_eq_true (by first | (with_reducible assumption) | assumption)
     obtain ⟨ad103, e103, hx103_0⟩ := Kd.at_int HR0.out 0 p103 q103
     cases e103
     have qi103 : (0 < l0.length) = True := eq_true (by omega)
     (try rw [show ((0 : Int)).toNat = 0 from rfl] at hx103_0)
     (try rw [Addr.add_zero'] at hx103_0)
     replace hx103_0 := (HB.out.cell (World.block_lt_of_cell? w _ hx103_0)).trans hx103_0
     replace p103 := eq_true p103
     replace q103 := eq_true q103
     (try have q103x := q103)
     (try simp only [List.length_drop] at q103x)
     go_upto_if 32 with (first | ((with_reducible refine gate_callee (f := 57) rfl ?_); refine goesL_ (some 28) rfl rfl Tryd.func57 (by kernel_rfl) rfl #[.int .i64 (rd l0 0)] rfl (by (try simp only [List.map_toArray, List.map_cons, List.map_nil]); first | done | rfl | (simp only [List.length_drop, List.length_take]; rfl)) ?_; (with_reducible refine (strconv_Itoa.calls (rd l0 0) t104 _ ?side1 A13.out).mono ?_); (case side1 => first | exact HG.out | exact GT.below HG.out (by repeat (first | (with_reducible first | exact HB.out | apply b_a | apply b_n | apply b_d) | exact HB.out))); rintro e w15 ⟨rfl, hb⟩; refine ⟨_, rfl, ?_⟩; have n0_ := mk0 (below_step (by repeat (first | (with_reducible first | exact HB.out | apply b_a | apply b_n | apply b_d) | exact HB.out)) hb); clear HB; have HB := n0_; clear n0_; (try clear hb); (try clear hb2); (try clear hk); (try clear hi); have p105 : 0 ≤ (0 : Int) := (by omega); have q105 : 0 < (l0.length : Int) := of_decide_eq_true (by first | (with_reducible assumption) | assumption); obtain ⟨ad105, e105, hx105_0⟩ := Kd.at_int HR0.out 0 p105 q105; obtain rfl : ad103 = ad105 := (by injection e105); have qi105 : (0 < l0.length) = True := eq_true (by omega); (try rw [show ((0 : Int)).toNat = 0 from rfl] at hx105_0); (try rw [Addr.add_zero'] at hx105_0); replace hx105_0 := (HB.out.cell (World.block_lt_of_cell? w _ hx105_0)).trans hx105_0; replace p105 := eq_true p105; replace q105 := eq_true q105))
     (try simp only [Act.put, List.setIfInBounds_toArray, List.set_cons_zero, List.set_cons_succ])
     go_cut [4] (fun v4 wc => ∃ (kq : Nat) (x4_53 : ByteArray), v4 = .string x4_53 ∧ Aside0 (classification_Format.j1 kq l0 x4_53 = some (r1, r2)) ∧ Aside0 (kq ≤ kj41) ∧ Aside0 (Below w.heap.size w wc))
     case first =>
      have H := HC14.out
      clear HC14
      by_cases c16 : (rd l0 0) < 10
      ·rw [if_pos c16] at H
       have c16b0 : decide ((rd l0 0) < 10) = true := decide_eq_true c16
       clear c16
       (first | rw [c16b0] | (simp only [i64_w, i32_w]; rw [c16b0]) | skip)
       by_cases c17 : 1 + t104.size ≤ 9223372036854775807
       ·rw [if_pos c17] at H
        have c17b0 := eq_true c17
        have c17b1 : decide (1 + t104.size ≤ 9223372036854775807) = true := decide_eq_true c17
        try have c17b2 : (9223372036854775807 < 1 + t104.size) = False := eq_false (Nat.not_lt.2 c17)
        have H' := mk0 H
        clear H
        go_wp2
        go_meet
        case rel => exact ⟨_, ((⟨#[48]⟩ : ByteArray) ++ t104), (by first | rfl | (simp; done) | (simp [*]; done)), H', ⟨by have := HJ41.out; first | omega | exact Nat.le_refl _⟩, ⟨by repeat (first | (with_reducible first | exact HB.out | apply b_a | apply b_n | apply b_d) | exact HB.out)⟩⟩
       ·rw [if_neg c17] at H
        exact absurd H (by simp)
      ·rw [if_neg c16] at H
       have c16b0 : decide ((rd l0 0) < 10) = false := decide_eq_false c16
       clear c16
       (first | rw [c16b0] | (simp only [i64_w, i32_w]; rw [c16b0]) | skip)
       have H' := mk0 H
       clear H
       go_wp2
       go_meet
       case rel => exact ⟨_, (t104), (by first | rfl | (simp; done) | (simp [*]; done)), H', ⟨by have := HJ41.out; first | omega | exact Nat.le_refl _⟩, ⟨by repeat (first | (with_reducible first | exact HB.out | apply b_a | apply b_n | apply b_d) | exact HB.out)⟩⟩
     case rest =>
      clear HC14
      try clear c1
      try clear p1
      try clear q1
      try clear hx1
      try clear qi1
      try clear c2
      try clear p2
      try clear c3
      try clear c3b0
      try clear c3b1
      try clear c4
      try clear c4b0
      try clear c4b1
      try clear c5
      try clear c6
      try clear c6b0
      try clear p10
      try clear q10
      try clear hx10
      try clear qi10
      try clear c11
      try clear c12
      try clear c12b0
      try clear c12b1
      try clear c16
      try clear c16b0
      try clear c17
      try clear c17b0
      try clear c17b1
      try clear c17b2
      try clear hx103_0
      try clear hx105_0
      try clear p103
      try clear p105
      try clear p2
      try clear q103
      try clear q105
      obtain ⟨kq, x4_53, rfl, HA, HJ53, HB⟩ := hcut
      cases kq with
      | zero => exact absurd HA.out (by simp [classification_Format.j1])
      | succ kj53 =>
       have H := HA.out
       clear HA
       simp only [classification_Format.j1] at H
       by_cases c18 : 1 ≤ (l0.length : Int)
       ·rw [if_pos c18] at H
        have c18b0 := eq_true c18
        have c18b1 : decide (1 ≤ (l0.length : Int)) = true := decide_eq_true c18
        clear c18
        have H' := mk0 H
        clear H
        obtain ⟨i019, hi019, _, hsz19, _⟩ := info_parts info3
        obtain ⟨A19, hcut19, hA19, hC19⟩ := print_drop_of (P := Tryd.prog) (Value.int .i64) 0 22 3 .i64 Tryd.underlying22 hi019 hsz19 (some ad103) c0 l0 1 (by omega) (of_decide_eq_true (by first | (with_reducible assumption) | assumption)) HC0.out
        have HR106 := mk0 (Kd.C_of_reads (h1 := fun _ => rfl) (hA19 _ (Kd.reads_of_C HR0.out)))
        have HC106 := mk0 hC19
        clear hA19 hC19 hi019 hsz19
        go_wp2
        go_loopg [4, 38] kj53 (fun kq v4 v38 w' => ∃ (x4_3 : ByteArray) (x38_3 : Int), v4 = .string x4_3 ∧ v38 = .int .i64 x38_3 ∧ Aside0 (classification_Format.l0 kq x4_3 (l0.drop 1) ((l0.drop 1).length : Int) x38_3 = some (r1, r2)) ∧ Aside0 (kq ≤ kj53) ∧ Aside0 (Below w.heap.size w w'))
        case atStart => exact ⟨(x4_53), (0), (by first | rfl | (simp; done) | (simp [*]; done)), (by first | rfl | (simp; done) | (simp [*]; done)), H', ⟨Nat.le_refl _⟩, ⟨by repeat (first | (with_reducible first | exact HB.out | apply b_a | apply b_n | apply b_d) | exact HB.out)⟩⟩
        case round =>
         clear H'
         try clear c1
         try clear p1
         try clear q1
         try clear hx1
         try clear qi1
         try clear c2
         try clear p2
         try clear c3
         try clear c3b0
         try clear c3b1
         try clear c4
         try clear c4b0
         try clear c4b1
         try clear c5
         try clear c6
         try clear c6b0
         try clear p10
         try clear q10
         try clear hx10
         try clear qi10
         try clear c11
         try clear c12
         try clear c12b0
         try clear c12b1
         try clear c16
         try clear c16b0
         try clear c17
         try clear c17b0
         try clear c17b1
         try clear c17b2
         try clear c18
         try clear c18b0
         try clear c18b1
         try clear hx103_0
         try clear hx105_0
         try clear p1
         try clear p10
         try clear p103
         try clear p105
         try clear p2
         try clear q1
         try clear q10
         try clear q103
         try clear q105
         obtain ⟨x4_3, x38_3, rfl, rfl, HA, HK3, HB⟩ := hrel
         cases gk with
         | zero => exact absurd HA.out (by simp [classification_Format.l0])
         | succ k3 =>
          have H := HA.out
          clear HA
          simp only [classification_Format.l0] at H
          by_cases c20 : x38_3 < ((l0.drop 1).length : Int)
          ·rw [if_pos c20] at H
           have c20b0 : decide (x38_3 < ((l0.drop 1).length : Int)) = true := decide_eq_true c20
           (try have c20b0x := c20b0)
           (try simp only [List.length_drop] at c20b0x)
           clear c20
           by_cases c21 : 0 ≤ x38_3
           ·rw [if_pos c21] at H
            have c21b0 : decide (0 ≤ x38_3) = true := decide_eq_true c21
            clear c21
            by_cases c22 : x38_3 < ((l0.drop 1).length : Int)
            ·rw [if_pos c22] at H
             have c22b0 : decide (x38_3 < ((l0.drop 1).length : Int)) = true := decide_eq_true c22
             (try have c22b0x := c22b0)
             (try simp only [List.length_drop] at c22b0x)
             clear c22
             replace H := Option.bind_eq_some_iff.mp H
             obtain ⟨t108, A230, H⟩ := H
             replace H : (if 1 + t108.size ≤ 9223372036854775807 then (if x4_3.size + ((⟨#[46]⟩ : ByteArray) ++ t108).size ≤ 9223372036854775807 then (classification_Format.l0 k3 (x4_3 ++ ((⟨#[46]⟩ : ByteArray) ++ t108)) (l0.drop 1) ((l0.drop 1).length : Int) (wrap64 (x38_3 + 1))) else (none)) else (none)) = some (r1, r2) := H
             have A23 := mk0 A230
             clear A230
             by_cases c24 : 1 + t108.size ≤ 9223372036854775807
             ·rw [if_pos c24] at H
              have c24b0 := eq_true c24
              have c24b1 : decide (1 + t108.size ≤ 9223372036854775807) = true := decide_eq_true c24
              try have c24b2 : (9223372036854775807 < 1 + t108.size) = False := eq_false (Nat.not_lt.2 c24)
              by_cases c25 : x4_3.size + ((⟨#[46]⟩ : ByteArray) ++ t108).size ≤ 9223372036854775807
              ·rw [if_pos c25] at H
               have c25b0 := eq_true c25
               have c25b1 : decide (x4_3.size + ((⟨#[46]⟩ : ByteArray) ++ t108).size ≤ 9223372036854775807) = true := decide_eq_true c25
               try have c25b2 : (9223372036854775807 < x4_3.size + ((⟨#[46]⟩ : ByteArray) ++ t108).size) = False := eq_false (Nat.not_lt.2 c25)
               have H' := mk0 H
               clear H
               have p107 : 0 ≤ (x38_3 : Int) := of_decide_eq_true (by first | (with_reducible assumption) | assumption)
               have q107 : x38_3 < ((l0.drop 1).length : Int) := of_decide_eq_true (by first | (with_reducible assumption) | assumption)
               obtain ⟨ad107, e107, hx107_0⟩ := Kd.at_int HR106.out x38_3 p107 q107
               cases e107
               replace hx107_0 := (HB.out.cell (World.block_lt_of_cell? w _ hx107_0)).trans hx107_0
               replace p107 := eq_true p107
               replace q107 := eq_true q107
               (try have q107x := q107)
               (try simp only [List.length_drop] at q107x)
               simp only [List.drop_one] at A23
               go_wp2_with (first | ((with_reducible refine gate_callee (f := 57) rfl ?_); refine goesL_ (some 44) rfl rfl Tryd.func57 (by kernel_rfl) rfl #[.int .i64 (rd l0.tail x38_3)] rfl (by (try simp only [List.map_toArray, List.map_cons, List.map_nil]); first | done | rfl | (simp only [List.length_drop, List.length_take]; rfl)) ?_; (with_reducible refine (strconv_Itoa.calls (rd l0.tail x38_3) t108 _ ?side1 A23.out).mono ?_); (case side1 => first | exact HG.out | exact GT.below HG.out (by repeat (first | (with_reducible first | exact HB.out | apply b_a | apply b_n | apply b_d) | exact HB.out))); rintro e w26 ⟨rfl, hb⟩; refine ⟨_, rfl, ?_⟩; have n0_ := mk0 (below_step (by repeat (first | (with_reducible first | exact HB.out | apply b_a | apply b_n | apply b_d) | exact HB.out)) hb); clear HB; have HB := n0_; clear n0_; (try clear hb); (try clear hb2); (try clear hk); (try clear hi)))
               go_roundg k3
               case measure => have := HJ41.out; have := HJ53.out; have := HK3.out; omega
               case rel => exact ⟨(x4_3 ++ ((⟨#[46]⟩ : ByteArray) ++ t108)), (wrap64 (x38_3 + 1)), (by first | rfl | (simp; done) | (simp [*]; done)), (by first | rfl | (simp; done) | (simp [*]; done)), H', ⟨by have := HJ41.out; have := HJ53.out; have := HK3.out; omega⟩, ⟨by repeat (first | (with_reducible first | exact HB.out | apply b_a | apply b_n | apply b_d) | exact HB.out)⟩⟩
              ·rw [if_neg c25] at H
               exact absurd H (by simp)
             ·rw [if_neg c24] at H
              exact absurd H (by simp)
            ·rw [if_neg c22] at H
             exact absurd H (by simp)
           ·rw [if_neg c21] at H
            exact absurd H (by simp)
          ·rw [if_neg c20] at H
           have c20b0 : decide (x38_3 < ((l0.drop 1).length : Int)) = false := decide_eq_false c20
           (try have c20b0x := c20b0)
           (try simp only [List.length_drop] at c20b0x)
           clear c20
           simp only [Option.some.injEq, Prod.mk.injEq] at H
           obtain ⟨rfl, rfl⟩ := H
           go_wp2
           go_ret2
           exact ⟨by first | rfl | (simp [errW_none, errW_some] <;> rfl) | (simp [*, errW_none, errW_some] <;> rfl), by repeat (first | (with_reducible first | exact HB.out | apply b_a | apply b_n | apply b_d) | exact HB.out)⟩
       ·rw [if_neg c18] at H
        exact absurd H (by simp)
    ·rw [if_neg c12] at H
     exact absurd H (by simp)

/-! ### strings_Split: function 53 (by hand) -/


def strings_Split.f (a0 : ByteArray) (a1 : ByteArray) : Option (List ByteArray) := if a0.size < 4294967281 ∧ 1 ≤ a1.size then some (splitL a0 a1) else none
theorem strings_Split.calls (a0 : ByteArray) (a1 : ByteArray) (r1 : List ByteArray) (w : World) (hG : GL w) (h : strings_Split.f a0 a1 = some r1) :
  Calls Tryd.prog 53 #[.string a0, .string a1] w fun e w' => ∃ v0_ : Value, e = .returned (v0_) ∧ Kd.R Kd.string 9 w' w.heap.size (fun _ => True) v0_ r1 ∧ Below w.heap.size w w' := by
 unfold strings_Split.f at h
 split at h
 ·rename_i c
  obtain rfl := Option.some.inj h
  exact split_any a0 a1 c.1 c.2 w hG
 ·exact absurd h (by simp)

/-! ### strconv_Atoi: function 54 (by hand) -/


def strconv_Atoi.f (a0 : ByteArray) : Option (Int × Option Int) := if a0.size ≤ 281474976710656 then some (numOf a0.data.toList, none) else none
theorem strconv_Atoi.calls (a0 : ByteArray) (r1 : Int) (r2 : Option Int) (w : World) (hG : GL w) (h : strconv_Atoi.f a0 = some (r1, r2)) :
  Calls Tryd.prog 54 #[.string a0] w fun e w' => ∃ ev_ : Value, e = .returned (.tuple #[.int .i64 r1, ev_]) ∧ Below w.heap.size w w' := by
 unfold strconv_Atoi.f at h
 split at h
 ·rename_i c
  simp only [Option.some.injEq, Prod.mk.injEq] at h
  obtain ⟨rfl, rfl⟩ := h
  refine (atoi_any a0 c w hG).mono fun e w' hp => ?_
  obtain ⟨ev, _, he, hb⟩ := hp
  exact ⟨ev, he, hb⟩
 ·exact absurd h (by simp)

/-! ### classification_Parse: function 25 -/
def classification_Parse.l0 : Nat → ByteArray → List Int → List ByteArray → Int → Int → Option (List Int × Int)
 | 0, _, _, _, _, _ => none
 | k + 1, x0, x4, x12, x13, x14 => if x14 < x13 then (if 0 ≤ x14 then (if x14 < (x12.length : Int) then ((strconv_Atoi.f (rdOf ByteArray.empty x12 x14)).bind fun bt113 => (if x4.length < 17592186044416 then (classification_Parse.l0 k x0 (x4 ++ [bt113.1]) x12 x13 (wrap64 (x14 + 1))) else (none))) else (none)) else (none)) else ((classification_Format.f k x4).bind fun bt118 => (if bt118.2 = 0 then (if bt118.1.toList = x0.toList then (some (x4, 0)) else (some (([] : List Int), 60))) else (some (([] : List Int), 60))))
def classification_Parse.f (k : Nat) (a0 : ByteArray) : Option (List Int × Int) := (strings_Split.f a0 (⟨#[46]⟩ : ByteArray)).bind fun t109 => (classification_Parse.l0 k a0 ([] : List Int) t109 (t109.length : Int) 0)
theorem classification_Parse.mono_l : ∀ k, (∀ y0 y1 y2 y3 y4, LeO (classification_Parse.l0 k y0 y1 y2 y3 y4) (classification_Parse.l0 (k + 1) y0 y1 y2 y3 y4))
 | 0 => fun _ _ _ _ _ r h => by simp [classification_Parse.l0] at h
 | k + 1 => by
  have ih0 := classification_Parse.mono_l k
  ·intro y0 y1 y2 y3 y4
   unfold classification_Parse.l0
   repeat' first
   | (with_reducible exact ih0 _ _ _ _ _)
   | (with_reducible exact classification_Format.mono _ _)
   | (with_reducible exact LeO.refl _)
   | (with_reducible exact LeO.none _)
   | (with_reducible refine LeO.ite ?_ ?_)
   | (with_reducible refine LeO.bind ?_ (fun _ => ?_))
   | exact ih0 _ _ _ _ _
   | exact classification_Format.mono _ _
   | exact LeO.none _
   | refine LeO.ite ?_ ?_
   | refine LeO.bind ?_ (fun _ => ?_)
theorem classification_Parse.mono : ∀ a0 k, LeO (classification_Parse.f k a0) (classification_Parse.f (k + 1) a0) := by
 intro a0 k
 have ih0 := classification_Parse.mono_l k
 unfold classification_Parse.f
 repeat' first
   | (with_reducible exact ih0 _ _ _ _ _)
   | (with_reducible exact classification_Format.mono _ _)
   | (with_reducible exact LeO.refl _)
   | (with_reducible exact LeO.none _)
   | (with_reducible refine LeO.ite ?_ ?_)
   | (with_reducible refine LeO.bind ?_ (fun _ => ?_))
   | exact ih0 _ _ _ _ _
   | exact classification_Format.mono _ _
   | exact LeO.none _
   | refine LeO.ite ?_ ?_
   | refine LeO.bind ?_ (fun _ => ?_)
set_option maxHeartbeats 8000000 in
set_option maxRecDepth 100000 in
theorem classification_Parse.calls (k : Nat) (a0 : ByteArray) (r1 : List Int) (r2 : Int) (w : World) (hG : GL w) (h : classification_Parse.f k a0 = some (r1, r2)) :
  Calls Tryd.prog 25 #[.string a0] w fun e w' => ∃ v0_ : Value, e = .returned (.tuple #[v0_, .int .i64 r2]) ∧ Kd.R (Kd.int .i64) 3 w' w.heap.size (fun _ => True) v0_ r1 ∧ Below w.heap.size w w' := by
 have HG := mk0 hG
 clear hG
 have HB := mk0 (Below.refl w.heap.size w)
 have H : ((strings_Split.f a0 (⟨#[46]⟩ : ByteArray)).bind fun t109 => (classification_Parse.l0 k a0 ([] : List Int) t109 (t109.length : Int) 0)) = some (r1, r2) := h
 clear h
 replace H := Option.bind_eq_some_iff.mp H
 obtain ⟨t109, A20, H⟩ := H
 replace H : (classification_Parse.l0 k a0 ([] : List Int) t109 (t109.length : Int) 0) = some (r1, r2) := H
 have A2 := mk0 A20
 clear A20
 have H' := mk0 H
 clear H
 go_enter Tryd.func25, Tryd.ntmps25
 go_wp2_with (first | ((with_reducible refine gate_callee (f := 53) rfl ?_); refine goesL_ (some 12) rfl rfl Tryd.func53 (by kernel_rfl) rfl #[.string a0, .string (⟨#[46]⟩ : ByteArray)] rfl (by (try simp only [List.map_toArray, List.map_cons, List.map_nil]); first | done | rfl | (simp only [List.length_drop, List.length_take]; rfl)) ?_; (with_reducible refine (strings_Split.calls a0 (⟨#[46]⟩ : ByteArray) t109 _ ?side1 A2.out).mono ?_); (case side1 => first | exact HG.out | exact GL.below HG.out (by repeat (first | (with_reducible first | exact HB.out | apply b_a | apply b_n | apply b_d) | exact HB.out))); rintro e w3 ⟨v110, rfl, ho0, hb⟩; refine ⟨_, rfl, ?_⟩; have n0_ := mk0 (Kd.R_lower ho0 (below_size (by repeat (first | (with_reducible first | exact HB.out | apply b_a | apply b_n | apply b_d) | exact HB.out)))); have n1_ := mk0 (below_step (by repeat (first | (with_reducible first | exact HB.out | apply b_a | apply b_n | apply b_d) | exact HB.out)) hb); clear HB; have HO111 := n0_; have HB := n1_; clear n0_ n1_; (try clear hb); (try clear hb2); (try clear hk); (try clear hi); (try clear ho0); obtain ⟨Ao4, co4, eo4⟩ := Kd.R_slice HO111.out; subst eo4))
 go_loopg [4, 14] k (fun kq v4 v14 w' => ∃ (x4_1 : List Int) (x14_1 : Int), v14 = .int .i64 x14_1 ∧ Aside0 (classification_Parse.l0 kq a0 x4_1 t109 (t109.length : Int) x14_1 = some (r1, r2)) ∧ Aside0 (kq ≤ k) ∧ Aside0 (Kd.R (Kd.int .i64) 3 w' w.heap.size (fun _ => True) v4 x4_1) ∧ Aside0 (Kd.R Kd.string 9 w' w.heap.size (fun _ => True) (.slice Ao4 t109.length co4) t109) ∧ Aside0 (Below w.heap.size w w'))
 case atStart => exact ⟨(([] : List Int)), (0), (by first | rfl | (simp; done) | (simp [*]; done)), H', ⟨Nat.le_refl _⟩, ⟨by first | exact Kd.R_nil _ _ _ _ _ | exact Kd.N_nil _ _ _ _ _ | exact Kd.V_nil _ _ _ _ _ | exact Kd.Q_nil _ _ _ _ _ | exact Kd.S_nil _ _ _ _ _⟩, ⟨by (with_reducible repeat (first | apply r_a | apply r_n | apply r_d)); exact HO111.out⟩, ⟨by repeat (first | (with_reducible first | exact HB.out | apply b_a | apply b_n | apply b_d) | exact HB.out)⟩⟩
 case round =>
  clear H'
  try clear c2
  try clear p2
  obtain ⟨x4_1, x14_1, rfl, HA, HK1, HO_4, HO_12, HB⟩ := hrel
  cases gk with
  | zero => exact absurd HA.out (by simp [classification_Parse.l0])
  | succ k1 =>
   have H := HA.out
   clear HA
   simp only [classification_Parse.l0] at H
   by_cases c5 : x14_1 < (t109.length : Int)
   ·rw [if_pos c5] at H
    have c5b0 : decide (x14_1 < (t109.length : Int)) = true := decide_eq_true c5
    clear c5
    by_cases c6 : 0 ≤ x14_1
    ·rw [if_pos c6] at H
     have c6b0 : decide (0 ≤ x14_1) = true := decide_eq_true c6
     clear c6
     by_cases c7 : x14_1 < (t109.length : Int)
     ·rw [if_pos c7] at H
      have c7b0 : decide (x14_1 < (t109.length : Int)) = true := decide_eq_true c7
      clear c7
      replace H := Option.bind_eq_some_iff.mp H
      obtain ⟨⟨t113, t114⟩, A80, H⟩ := H
      replace H : (if x4_1.length < 17592186044416 then (classification_Parse.l0 k1 a0 (x4_1 ++ [t113]) t109 (t109.length : Int) (wrap64 (x14_1 + 1))) else (none)) = some (r1, r2) := H
      have A8 := mk0 A80
      clear A80
      by_cases c9 : x4_1.length < 17592186044416
      ·rw [if_pos c9] at H
       have LMc9 := mk0 c9
       clear c9
       obtain ⟨y115, hy115⟩ : ∃ y_ : List Int, y_ = (x4_1 ++ [t113]) := ⟨_, rfl⟩
       replace H : (classification_Parse.l0 k1 a0 y115 t109 (t109.length : Int) (wrap64 (x14_1 + 1))) = some (r1, r2) := by first | (rw [hy115]; with_reducible exact H) | (have H2_ := (Option.bind_some _ _).symm.trans H; rw [hy115]; with_reducible exact H2_) | (have H2_ := (Option.bind_some _ _).symm.trans H; with_reducible exact H2_) | with_reducible exact H | (rw [hy115]; exact H) | exact H
       have Ny115 := mk0 hy115
       clear hy115
       have H' := mk0 H
       clear H
       have p112 : 0 ≤ (x14_1 : Int) := of_decide_eq_true (by first | (with_reducible assumption) | assumption)
       have q112 : x14_1 < (t109.length : Int) := of_decide_eq_true (by first | (with_reducible assumption) | assumption)
       obtain ⟨ad112, e112, hx112_0⟩ := Kd.at_string (Kd.R_reads' HO_12.out).2.2 x14_1 p112 q112
       cases e112
       replace p112 := eq_true p112
       replace q112 := eq_true q112
       go_wp2_with (first | ((with_reducible refine gate_callee (f := 54) rfl ?_); refine goesL_ (some 20) rfl rfl Tryd.func54 (by kernel_rfl) rfl #[.string (rdOf ByteArray.empty t109 x14_1)] rfl (by (try simp only [List.map_toArray, List.map_cons, List.map_nil]); first | done | rfl | (simp only [List.length_drop, List.length_take]; rfl)) ?_; (with_reducible refine (strconv_Atoi.calls (rdOf ByteArray.empty t109 x14_1) t113 t114 _ ?side1 A8.out).mono ?_); (case side1 => first | exact HG.out | exact GL.below HG.out (by repeat (first | (with_reducible first | exact HB.out | apply b_a | apply b_n | apply b_d) | exact HB.out))); rintro e w10 ⟨ev_, rfl, hb⟩; refine ⟨_, rfl, ?_⟩; have n0_ := mk0 (Kd.R_below (by (with_reducible repeat (first | apply r_a | apply r_n | apply r_d)); exact HO_4.out) hb); have n1_ := mk0 (Kd.R_below (by (with_reducible repeat (first | apply r_a | apply r_n | apply r_d)); exact HO_12.out) hb); have n2_ := mk0 (below_step (by repeat (first | (with_reducible first | exact HB.out | apply b_a | apply b_n | apply b_d) | exact HB.out)) hb); clear HO_4; clear HO_12; clear HB; have HO_4 := n0_; have HO_12 := n1_; have HB := n2_; clear n0_ n1_ n2_; (try clear hb); (try clear hb2); (try clear hk); (try clear hi); (try simp only [errW_none, errW_some])) | ((with_reducible refine gate_builtin (b := .append) (xs := #[.tmp 23, .tmp 25]) rfl ?_); at_builtin; refine Kd.R_append (Kd.int .i64) (w0 := w) w.heap.size rfl (.tmp 23) (.tmp 25) 22 3 (.int .i64 0) 8 rfl Tryd.underlying22 info3 rfl (by decide) (by omega) u4 x4_1 t113 [.int .i64 t113] (fun _ => True) (fun _ => False) rfl rfl ?aP (fun _ hk => hk.elim) ?aF ?aO ?aB ?aS ?aL ?_; (case aP => exact rfl); (case aB => exact (by repeat (first | (with_reducible first | exact HB.out | apply b_a | apply b_n | apply b_d) | exact HB.out))); (case aF => exact (fun _ _ => trivial)); (case aO => exact (by (with_reducible repeat (first | apply r_a | apply r_n | apply r_d)); exact HO_4.out)); (case aS => exact (below_size (by repeat (first | (with_reducible first | exact HB.out | apply b_a | apply b_n | apply b_d) | exact HB.out)))); (case aL => have := LMc9.out; omega); intro v116 w11 ho hb hg hat; rw [← Ny115.out] at ho; have n0_ := mk0 (Kd.R_over' (by (with_reducible repeat (first | apply r_a | apply r_n | apply r_d)); exact HO_12.out) (Kd.R_typed (by (with_reducible repeat (first | apply r_a | apply r_n | apply r_d)); exact HO_4.out)) (by decide) hg); have n1_ := mk0 (hb); have n2_ := mk0 (ho); clear HO_12; clear HB; clear HO_4; have HO_12 := n0_; have HB := n1_; have HO117 := n2_; clear n0_ n1_ n2_; clear ho hb hg hat))
       go_roundg k1
       case measure => have := HK1.out; omega
       case rel => exact ⟨(y115), (wrap64 (x14_1 + 1)), (by first | rfl | (simp; done) | (simp [*]; done)), H', ⟨by have := HK1.out; omega⟩, ⟨by (with_reducible repeat (first | apply r_a | apply r_n | apply r_d)); exact HO117.out⟩, ⟨by (with_reducible repeat (first | apply r_a | apply r_n | apply r_d)); exact HO_12.out⟩, ⟨by repeat (first | (with_reducible first | exact HB.out | apply b_a | apply b_n | apply b_d) | exact HB.out)⟩⟩
      ·rw [if_neg c9] at H
       exact absurd H (by simp)
     ·rw [if_neg c7] at H
      exact absurd H (by simp)
    ·rw [if_neg c6] at H
     exact absurd H (by simp)
   ·rw [if_neg c5] at H
    have c5b0 : decide (x14_1 < (t109.length : Int)) = false := decide_eq_false c5
    clear c5
    replace H := Option.bind_eq_some_iff.mp H
    obtain ⟨⟨t118, t119⟩, A120, H⟩ := H
    replace H : (if t119 = 0 then (if t118.toList = a0.toList then (some (x4_1, 0)) else (some (([] : List Int), 60))) else (some (([] : List Int), 60))) = some (r1, r2) := H
    have A12 := mk0 A120
    clear A120
    by_cases c13 : t119 = 0
    ·rw [if_pos c13] at H
     have c13b0 : (t119 == 0) = true := beq_iff_eq.mpr c13
     have c13b1 : (t119 != 0) = false := bne_eq_false_iff_eq.mpr c13
     clear c13
     by_cases c14 : t118.toList = a0.toList
     ·rw [if_pos c14] at H
      have c14b0 : (t118.toList == a0.toList) = true := beq_iff_eq.mpr c14
      have c14b1 : (t118.toList != a0.toList) = false := bne_eq_false_iff_eq.mpr c14
      clear c14
      simp only [Option.some.injEq, Prod.mk.injEq] at H
      obtain ⟨rfl, rfl⟩ := H
      obtain ⟨Ao15, co15, eo15⟩ := Kd.R_slice HO_4.out
      subst eo15
      go_wp2_with (first | ((with_reducible refine gate_callee (f := 28) rfl ?_); refine goesL_ (some 30) rfl rfl Tryd.func28 (by kernel_rfl) rfl #[.slice Ao15 x4_1.length co15] rfl (by (try simp only [List.map_toArray, List.map_cons, List.map_nil]); first | done | rfl | (simp only [List.length_drop, List.length_take]; rfl)) ?_; (with_reducible refine (classification_Format.calls k1 _ _ x4_1 t118 t119 _ ?side1 ?side2 ?side3 A12.out).mono ?_); (case side1 => repeat (first | exact (Kd.R_reads' HO_4.out).2.2 | (with_reducible refine Kd.C_alloc ?_ _) | (with_reducible refine Kd.C_drewN ?_ _) | (with_reducible refine Kd.C_drew ?_))); (case side2 => exact (Kd.R_reads' HO_4.out).2.1); (case side3 => first | exact HG.out | exact GT.below HG.out.gt (by repeat (first | (with_reducible first | exact HB.out | apply b_a | apply b_n | apply b_d) | exact HB.out))); rintro e w16 ⟨rfl, hb⟩; refine ⟨_, rfl, ?_⟩; have n0_ := mk0 (Kd.R_below (by (with_reducible repeat (first | apply r_a | apply r_n | apply r_d)); exact HO_4.out) hb); have n1_ := mk0 (Kd.R_below (by (with_reducible repeat (first | apply r_a | apply r_n | apply r_d)); exact HO_12.out) hb); have n2_ := mk0 (below_step (by repeat (first | (with_reducible first | exact HB.out | apply b_a | apply b_n | apply b_d) | exact HB.out)) hb); clear HO_4; clear HO_12; clear HB; have HO_4 := n0_; have HO_12 := n1_; have HB := n2_; clear n0_ n1_ n2_; (try clear hb); (try clear hb2); (try clear hk); (try clear hi)))
      go_ret2
      exact ⟨_, by first | rfl | (simp [errW_none, errW_some] <;> rfl) | (simp [*, errW_none, errW_some] <;> rfl), by (with_reducible repeat (first | apply r_a | apply r_n | apply r_d)); exact HO_4.out, by repeat (first | (with_reducible first | exact HB.out | apply b_a | apply b_n | apply b_d) | exact HB.out)⟩
     ·rw [if_neg c14] at H
      have c14b0 : (t118.toList == a0.toList) = false := beq_eq_false_iff_ne.mpr c14
      have c14b1 : (t118.toList != a0.toList) = true := bne_iff_ne.mpr c14
      simp only [Option.some.injEq, Prod.mk.injEq] at H
      obtain ⟨rfl, rfl⟩ := H
      obtain ⟨Ao17, co17, eo17⟩ := Kd.R_slice HO_4.out
      subst eo17
      go_wp2_with (first | ((with_reducible refine gate_callee (f := 28) rfl ?_); refine goesL_ (some 30) rfl rfl Tryd.func28 (by kernel_rfl) rfl #[.slice Ao17 x4_1.length co17] rfl (by (try simp only [List.map_toArray, List.map_cons, List.map_nil]); first | done | rfl | (simp only [List.length_drop, List.length_take]; rfl)) ?_; (with_reducible refine (classification_Format.calls k1 _ _ x4_1 t118 t119 _ ?side1 ?side2 ?side3 A12.out).mono ?_); (case side1 => repeat (first | exact (Kd.R_reads' HO_4.out).2.2 | (with_reducible refine Kd.C_alloc ?_ _) | (with_reducible refine Kd.C_drewN ?_ _) | (with_reducible refine Kd.C_drew ?_))); (case side2 => exact (Kd.R_reads' HO_4.out).2.1); (case side3 => first | exact HG.out | exact GT.below HG.out.gt (by repeat (first | (with_reducible first | exact HB.out | apply b_a | apply b_n | apply b_d) | exact HB.out))); rintro e w18 ⟨rfl, hb⟩; refine ⟨_, rfl, ?_⟩; have n0_ := mk0 (Kd.R_below (by (with_reducible repeat (first | apply r_a | apply r_n | apply r_d)); exact HO_4.out) hb); have n1_ := mk0 (Kd.R_below (by (with_reducible repeat (first | apply r_a | apply r_n | apply r_d)); exact HO_12.out) hb); have n2_ := mk0 (below_step (by repeat (first | (with_reducible first | exact HB.out | apply b_a | apply b_n | apply b_d) | exact HB.out)) hb); clear HO_4; clear HO_12; clear HB; have HO_4 := n0_; have HO_12 := n1_; have HB := n2_; clear n0_ n1_ n2_; (try clear hb); (try clear hb2); (try clear hk); (try clear hi)))
      go_ret2
      exact ⟨_, by first | rfl | (simp [errW_none, errW_some] <;> rfl) | (simp [*, errW_none, errW_some] <;> rfl), by first | exact Kd.R_nil _ _ _ _ _ | exact Kd.N_nil _ _ _ _ _ | exact Kd.V_nil _ _ _ _ _ | exact Kd.Q_nil _ _ _ _ _ | exact Kd.S_nil _ _ _ _ _, by repeat (first | (with_reducible first | exact HB.out | apply b_a | apply b_n | apply b_d) | exact HB.out)⟩
    ·rw [if_neg c13] at H
     have c13b0 : (t119 == 0) = false := beq_eq_false_iff_ne.mpr c13
     have c13b1 : (t119 != 0) = true := bne_iff_ne.mpr c13
     simp only [Option.some.injEq, Prod.mk.injEq] at H
     obtain ⟨rfl, rfl⟩ := H
     obtain ⟨Ao19, co19, eo19⟩ := Kd.R_slice HO_4.out
     subst eo19
     go_wp2_with (first | ((with_reducible refine gate_callee (f := 28) rfl ?_); refine goesL_ (some 30) rfl rfl Tryd.func28 (by kernel_rfl) rfl #[.slice Ao19 x4_1.length co19] rfl (by (try simp only [List.map_toArray, List.map_cons, List.map_nil]); first | done | rfl | (simp only [List.length_drop, List.length_take]; rfl)) ?_; (with_reducible refine (classification_Format.calls k1 _ _ x4_1 t118 t119 _ ?side1 ?side2 ?side3 A12.out).mono ?_); (case side1 => repeat (first | exact (Kd.R_reads' HO_4.out).2.2 | (with_reducible refine Kd.C_alloc ?_ _) | (with_reducible refine Kd.C_drewN ?_ _) | (with_reducible refine Kd.C_drew ?_))); (case side2 => exact (Kd.R_reads' HO_4.out).2.1); (case side3 => first | exact HG.out | exact GT.below HG.out.gt (by repeat (first | (with_reducible first | exact HB.out | apply b_a | apply b_n | apply b_d) | exact HB.out))); rintro e w20 ⟨rfl, hb⟩; refine ⟨_, rfl, ?_⟩; have n0_ := mk0 (Kd.R_below (by (with_reducible repeat (first | apply r_a | apply r_n | apply r_d)); exact HO_4.out) hb); have n1_ := mk0 (Kd.R_below (by (with_reducible repeat (first | apply r_a | apply r_n | apply r_d)); exact HO_12.out) hb); have n2_ := mk0 (below_step (by repeat (first | (with_reducible first | exact HB.out | apply b_a | apply b_n | apply b_d) | exact HB.out)) hb); clear HO_4; clear HO_12; clear HB; have HO_4 := n0_; have HO_12 := n1_; have HB := n2_; clear n0_ n1_ n2_; (try clear hb); (try clear hb2); (try clear hk); (try clear hi)))
     go_ret2
     exact ⟨_, by first | rfl | (simp [errW_none, errW_some] <;> rfl) | (simp [*, errW_none, errW_some] <;> rfl), by first | exact Kd.R_nil _ _ _ _ _ | exact Kd.N_nil _ _ _ _ _ | exact Kd.V_nil _ _ _ _ _ | exact Kd.Q_nil _ _ _ _ _ | exact Kd.S_nil _ _ _ _ _, by repeat (first | (with_reducible first | exact HB.out | apply b_a | apply b_n | apply b_d) | exact HB.out)⟩

/-! ### classification_is: function 62 -/
def classification_is.f (k : Nat) (a0 : ByteArray) : Option (Bool) := (classification_Parse.f k a0).bind fun bt120 => (some (bt120.2 == 0))
theorem classification_is.mono : ∀ a0 k, LeO (classification_is.f k a0) (classification_is.f (k + 1) a0) := by
 intro a0 k
 unfold classification_is.f
 repeat' first
   | (with_reducible exact classification_Parse.mono _ _)
   | (with_reducible exact LeO.refl _)
   | (with_reducible exact LeO.none _)
   | (with_reducible refine LeO.ite ?_ ?_)
   | (with_reducible refine LeO.bind ?_ (fun _ => ?_))
   | exact classification_Parse.mono _ _
   | exact LeO.none _
   | refine LeO.ite ?_ ?_
   | refine LeO.bind ?_ (fun _ => ?_)
set_option maxHeartbeats 8000000 in
set_option maxRecDepth 100000 in
theorem classification_is.calls (k : Nat) (a0 : ByteArray) (r : Bool) (w : World) (hG : GL w) (h : classification_is.f k a0 = some r) :
  Calls Tryd.prog 62 #[.string a0] w fun e w' => e = .returned (.bool r) ∧ Below w.heap.size w w' := by
 have HG := mk0 hG
 clear hG
 have HB := mk0 (Below.refl w.heap.size w)
 have H : ((classification_Parse.f k a0).bind fun bt120 => (some (bt120.2 == 0))) = some r := h
 clear h
 replace H := Option.bind_eq_some_iff.mp H
 obtain ⟨⟨t120, t121⟩, A20, H⟩ := H
 replace H : (some (t121 == 0)) = some r := H
 have A2 := mk0 A20
 clear A20
 obtain rfl := Option.some.inj H
 go_enter Tryd.func62, Tryd.ntmps62
 go_wp2_with (first | ((with_reducible refine gate_callee (f := 25) rfl ?_); refine goesL_ (some 7) rfl rfl Tryd.func25 (by kernel_rfl) rfl #[.string a0] rfl (by (try simp only [List.map_toArray, List.map_cons, List.map_nil]); first | done | rfl | (simp only [List.length_drop, List.length_take]; rfl)) ?_; (with_reducible refine (classification_Parse.calls k a0 t120 t121 _ ?side1 A2.out).mono ?_); (case side1 => first | exact HG.out | exact GL.below HG.out (by repeat (first | (with_reducible first | exact HB.out | apply b_a | apply b_n | apply b_d) | exact HB.out))); rintro e w3 ⟨v122, rfl, ho0, hb⟩; refine ⟨_, rfl, ?_⟩; have n0_ := mk0 (Kd.R_lower ho0 (below_size (by repeat (first | (with_reducible first | exact HB.out | apply b_a | apply b_n | apply b_d) | exact HB.out)))); have n1_ := mk0 (below_step (by repeat (first | (with_reducible first | exact HB.out | apply b_a | apply b_n | apply b_d) | exact HB.out)) hb); clear HB; have HO123 := n0_; have HB := n1_; clear n0_ n1_; (try clear hb); (try clear hb2); (try clear hk); (try clear hi); (try clear ho0)))
 go_ret
 exact ⟨by first | rfl | (simp [errW_none, errW_some] <;> rfl) | (simp [*, errW_none, errW_some] <;> rfl), by repeat (first | (with_reducible first | exact HB.out | apply b_a | apply b_n | apply b_d) | exact HB.out)⟩

/-! ### classification_class: function 59 -/
def classification_class.f (k : Nat) (a0 : ByteArray) : Option (Int) := if a0.toList = ([] : List UInt8) then (some 0) else ((classification_is.f k a0).bind fun t124 => (if t124 = true then (some 1) else (some 2)))
theorem classification_class.mono : ∀ a0 k, LeO (classification_class.f k a0) (classification_class.f (k + 1) a0) := by
 intro a0 k
 unfold classification_class.f
 repeat' first
   | (with_reducible exact classification_is.mono _ _)
   | (with_reducible exact LeO.refl _)
   | (with_reducible exact LeO.none _)
   | (with_reducible refine LeO.ite ?_ ?_)
   | (with_reducible refine LeO.bind ?_ (fun _ => ?_))
   | exact classification_is.mono _ _
   | exact LeO.none _
   | refine LeO.ite ?_ ?_
   | refine LeO.bind ?_ (fun _ => ?_)
set_option maxHeartbeats 8000000 in
set_option maxRecDepth 100000 in
theorem classification_class.calls (k : Nat) (a0 : ByteArray) (r : Int) (w : World) (hG : GL w) (h : classification_class.f k a0 = some r) :
  Calls Tryd.prog 59 #[.string a0] w fun e w' => e = .returned (.int .i64 r) ∧ Below w.heap.size w w' := by
 have HG := mk0 hG
 clear hG
 have HB := mk0 (Below.refl w.heap.size w)
 have H : (if a0.toList = ([] : List UInt8) then (some 0) else ((classification_is.f k a0).bind fun t124 => (if t124 = true then (some 1) else (some 2)))) = some r := h
 clear h
 by_cases c2 : a0.toList = ([] : List UInt8)
 ·rw [if_pos c2] at H
  have c2b0 : (a0.toList == ([] : List UInt8)) = true := beq_iff_eq.mpr c2
  have c2b1 : (a0.toList != ([] : List UInt8)) = false := bne_eq_false_iff_eq.mpr c2
  clear c2
  obtain rfl := Option.some.inj H
  go_enter Tryd.func59, Tryd.ntmps59
  go_wp2
  go_ret
  exact ⟨by first | rfl | (simp [errW_none, errW_some] <;> rfl) | (simp [*, errW_none, errW_some] <;> rfl), by repeat (first | (with_reducible first | exact HB.out | apply b_a | apply b_n | apply b_d) | exact HB.out)⟩
 ·rw [if_neg c2] at H
  have c2b0 : (a0.toList == ([] : List UInt8)) = false := beq_eq_false_iff_ne.mpr c2
  have c2b1 : (a0.toList != ([] : List UInt8)) = true := bne_iff_ne.mpr c2
  replace H := Option.bind_eq_some_iff.mp H
  obtain ⟨t124, A30, H⟩ := H
  replace H : (if t124 = true then (some 1) else (some 2)) = some r := H
  have A3 := mk0 A30
  clear A30
  by_cases c4 : t124 = true
  ·subst c4
   have H1 : (some 1) = some r := by rw [if_pos rfl] at H; exact H
   clear H
   have H := H1
   clear H1
   obtain rfl := Option.some.inj H
   go_enter Tryd.func59, Tryd.ntmps59
   go_wp2_with (first | ((with_reducible refine gate_callee (f := 62) rfl ?_); refine goesL_ (some 8) rfl rfl Tryd.func62 (by kernel_rfl) rfl #[.string a0] rfl (by (try simp only [List.map_toArray, List.map_cons, List.map_nil]); first | done | rfl | (simp only [List.length_drop, List.length_take]; rfl)) ?_; (with_reducible refine (classification_is.calls k a0 true _ ?side1 A3.out).mono ?_); (case side1 => first | exact HG.out | exact GL.below HG.out (by repeat (first | (with_reducible first | exact HB.out | apply b_a | apply b_n | apply b_d) | exact HB.out))); rintro e w5 ⟨rfl, hb⟩; refine ⟨_, rfl, ?_⟩; have n0_ := mk0 (below_step (by repeat (first | (with_reducible first | exact HB.out | apply b_a | apply b_n | apply b_d) | exact HB.out)) hb); clear HB; have HB := n0_; clear n0_; (try clear hb); (try clear hb2); (try clear hk); (try clear hi)))
   go_ret
   exact ⟨by first | rfl | (simp [errW_none, errW_some] <;> rfl) | (simp [*, errW_none, errW_some] <;> rfl), by repeat (first | (with_reducible first | exact HB.out | apply b_a | apply b_n | apply b_d) | exact HB.out)⟩
  ·replace c4 := Bool.eq_false_iff.mpr c4
   subst c4
   have H1 : (some 2) = some r := by rw [if_neg (show ¬ (false = true) by decide)] at H; exact H
   clear H
   have H := H1
   clear H1
   obtain rfl := Option.some.inj H
   go_enter Tryd.func59, Tryd.ntmps59
   go_wp2_with (first | ((with_reducible refine gate_callee (f := 62) rfl ?_); refine goesL_ (some 8) rfl rfl Tryd.func62 (by kernel_rfl) rfl #[.string a0] rfl (by (try simp only [List.map_toArray, List.map_cons, List.map_nil]); first | done | rfl | (simp only [List.length_drop, List.length_take]; rfl)) ?_; (with_reducible refine (classification_is.calls k a0 false _ ?side1 A3.out).mono ?_); (case side1 => first | exact HG.out | exact GL.below HG.out (by repeat (first | (with_reducible first | exact HB.out | apply b_a | apply b_n | apply b_d) | exact HB.out))); rintro e w6 ⟨rfl, hb⟩; refine ⟨_, rfl, ?_⟩; have n0_ := mk0 (below_step (by repeat (first | (with_reducible first | exact HB.out | apply b_a | apply b_n | apply b_d) | exact HB.out)) hb); clear HB; have HB := n0_; clear n0_; (try clear hb); (try clear hb2); (try clear hk); (try clear hi)))
   go_ret
   exact ⟨by first | rfl | (simp [errW_none, errW_some] <;> rfl) | (simp [*, errW_none, errW_some] <;> rfl), by repeat (first | (with_reducible first | exact HB.out | apply b_a | apply b_n | apply b_d) | exact HB.out)⟩

/-! ### classification_CompareIn: function 58 -/
def classification_CompareIn.f (k : Nat) (a0 : ByteArray) : Option (Int × List Int) := (classification_Parse.f k a0).bind fun bt125 => ((classification_class.f k a0).bind fun t129 => (some (t129, bt125.1)))
theorem classification_CompareIn.mono : ∀ a0 k, LeO (classification_CompareIn.f k a0) (classification_CompareIn.f (k + 1) a0) := by
 intro a0 k
 unfold classification_CompareIn.f
 repeat' first
   | (with_reducible exact classification_Parse.mono _ _)
   | (with_reducible exact classification_class.mono _ _)
   | (with_reducible exact LeO.refl _)
   | (with_reducible exact LeO.none _)
   | (with_reducible refine LeO.ite ?_ ?_)
   | (with_reducible refine LeO.bind ?_ (fun _ => ?_))
   | exact classification_Parse.mono _ _
   | exact classification_class.mono _ _
   | exact LeO.none _
   | refine LeO.ite ?_ ?_
   | refine LeO.bind ?_ (fun _ => ?_)
set_option maxHeartbeats 8000000 in
set_option maxRecDepth 100000 in
theorem classification_CompareIn.calls (k : Nat) (a0 : ByteArray) (r1 : Int) (r2 : List Int) (w : World) (hG : GL w) (h : classification_CompareIn.f k a0 = some (r1, r2)) :
  Calls Tryd.prog 58 #[.string a0] w fun e w' => ∃ v1_ : Value, e = .returned (.tuple #[.int .i64 r1, v1_]) ∧ Kd.R (Kd.int .i64) 3 w' w.heap.size (fun _ => True) v1_ r2 ∧ Below w.heap.size w w' := by
 have HG := mk0 hG
 clear hG
 have HB := mk0 (Below.refl w.heap.size w)
 have H : ((classification_Parse.f k a0).bind fun bt125 => ((classification_class.f k a0).bind fun t129 => (some (t129, bt125.1)))) = some (r1, r2) := h
 clear h
 replace H := Option.bind_eq_some_iff.mp H
 obtain ⟨⟨t125, t126⟩, A20, H⟩ := H
 replace H : ((classification_class.f k a0).bind fun t129 => (some (t129, t125))) = some (r1, r2) := H
 have A2 := mk0 A20
 clear A20
 replace H := Option.bind_eq_some_iff.mp H
 obtain ⟨t129, A30, H⟩ := H
 replace H : (some (t129, t125)) = some (r1, r2) := H
 have A3 := mk0 A30
 clear A30
 simp only [Option.some.injEq, Prod.mk.injEq] at H
 obtain ⟨rfl, rfl⟩ := H
 go_enter Tryd.func58, Tryd.ntmps58
 go_wp2_with (first | ((with_reducible refine gate_callee (f := 25) rfl ?_); refine goesL_ (some 8) rfl rfl Tryd.func25 (by kernel_rfl) rfl #[.string a0] rfl (by (try simp only [List.map_toArray, List.map_cons, List.map_nil]); first | done | rfl | (simp only [List.length_drop, List.length_take]; rfl)) ?_; (with_reducible refine (classification_Parse.calls k a0 t125 t126 _ ?side1 A2.out).mono ?_); (case side1 => first | exact HG.out | exact GL.below HG.out (by repeat (first | (with_reducible first | exact HB.out | apply b_a | apply b_n | apply b_d) | exact HB.out))); rintro e w4 ⟨v127, rfl, ho0, hb⟩; refine ⟨_, rfl, ?_⟩; have n0_ := mk0 (Kd.R_lower ho0 (below_size (by repeat (first | (with_reducible first | exact HB.out | apply b_a | apply b_n | apply b_d) | exact HB.out)))); have n1_ := mk0 (below_step (by repeat (first | (with_reducible first | exact HB.out | apply b_a | apply b_n | apply b_d) | exact HB.out)) hb); clear HB; have HO128 := n0_; have HB := n1_; clear n0_ n1_; (try clear hb); (try clear hb2); (try clear hk); (try clear hi); (try clear ho0)) | ((with_reducible refine gate_callee (f := 59) rfl ?_); refine goesL_ (some 12) rfl rfl Tryd.func59 (by kernel_rfl) rfl #[.string a0] rfl (by (try simp only [List.map_toArray, List.map_cons, List.map_nil]); first | done | rfl | (simp only [List.length_drop, List.length_take]; rfl)) ?_; (with_reducible refine (classification_class.calls k a0 t129 _ ?side1 A3.out).mono ?_); (case side1 => first | exact HG.out | exact GL.below HG.out (by repeat (first | (with_reducible first | exact HB.out | apply b_a | apply b_n | apply b_d) | exact HB.out))); rintro e w5 ⟨rfl, hb⟩; refine ⟨_, rfl, ?_⟩; have n0_ := mk0 (Kd.R_below (by (with_reducible repeat (first | apply r_a | apply r_n | apply r_d)); exact HO128.out) hb); have n1_ := mk0 (below_step (by repeat (first | (with_reducible first | exact HB.out | apply b_a | apply b_n | apply b_d) | exact HB.out)) hb); clear HO128; clear HB; have HO128 := n0_; have HB := n1_; clear n0_ n1_; (try clear hb); (try clear hb2); (try clear hk); (try clear hi)))
 go_ret2
 exact ⟨_, by first | rfl | (simp [errW_none, errW_some] <;> rfl) | (simp [*, errW_none, errW_some] <;> rfl), by (with_reducible repeat (first | apply r_a | apply r_n | apply r_d)); exact HO128.out, by repeat (first | (with_reducible first | exact HB.out | apply b_a | apply b_n | apply b_d) | exact HB.out)⟩

/-! ### cmp_isNaN_int: function 89 -/
def cmp_isNaN_int.f (a0 : Int) : Option (Bool) := some (a0 != a0)
set_option maxHeartbeats 8000000 in
set_option maxRecDepth 100000 in
theorem cmp_isNaN_int.calls (a0 : Int) (r : Bool) (w : World) (h : cmp_isNaN_int.f a0 = some r) :
  Calls Tryd.prog 89 #[.int .i64 a0] w fun e w' => e = .returned (.bool r) ∧ Drawn0 w w' := by
 have H : (some (a0 != a0)) = some r := h
 clear h
 obtain rfl := Option.some.inj H
 go_enter Tryd.func89, Tryd.ntmps89
 go_wp2
 go_ret
 exact ⟨by first | rfl | (simp; done) | (simp [*]; done), by repeat (first | exact Drawn0.refl _ | apply Drawn0.step)⟩

end Go.Proofs.YtpnoliognpmkmaaDoor.P
