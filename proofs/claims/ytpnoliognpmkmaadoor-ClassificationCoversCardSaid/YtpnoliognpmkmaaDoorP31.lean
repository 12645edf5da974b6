/- Lean functions with the same answers as the program's Go functions, and for each the proof that the call comes to these answers; written by a program of mine out of the translation, the functions marked 'by hand' by me. -/
import Derived.Test.YtpnoliognpmkmaaDoorP0
import Derived.Test.YtpnoliognpmkmaaDoorP17
import Derived.Test.YtpnoliognpmkmaaDoorP18
import Derived.Test.YtpnoliognpmkmaaDoorP22
import Derived.Test.YtpnoliognpmkmaaDoorP27
import Derived.Test.YtpnoliognpmkmaaDoorP29
namespace Go.Proofs.YtpnoliognpmkmaaDoor.P
open Go.RowKit Go.Proofs.YtpnoliognpmkmaaDoorW.PrintWords Go.Proofs.YtpnoliognpmkmaaDoorW.PrintLast Go.Proofs.YtpnoliognpmkmaaDoorW.PrintMore
attribute [local go_sem] max2_int min2_int max_two min_two max_three min_three max_four min_four   -- for this text's walks alone
set_option linter.unusedVariables false
set_option linter.unusedSimpArgs false

/-! ### classification_Cover: function 20 -/
mutual
def classification_Cover.l0 : Nat → ByteArray → List ByteArray → List ByteArray → Int → Int → ByteArray → List ByteArray → Option (Bool)
 | 0, _, _, _, _, _, _, _ => none
 | k + 1, x1, x2, x18, x19, x20, x607000, x607001 => if x20 < x19 then (if 0 ≤ x20 then (if x20 < (x18.length : Int) then ((slices_Contains_string_string.f k x607001 (rdOf ByteArray.empty x18 x20)).bind fun t609 => (if t609 = true then ((classification_Within.f k (rdOf ByteArray.empty x18 x20) x1).bind fun t610 => (if t610 = true then (classification_Cover.l0 k x1 x2 x18 x19 (wrap64 (x20 + 1)) x607000 x607001) else (some false))) else (some false))) else (none)) else (none)) else ((classification_Leaves.f k x607000 x607001 x1).bind fun t611 => (classification_Cover.l1 k x2 t611 (t611.length : Int) 0))
def classification_Cover.l1 : Nat → List ByteArray → List ByteArray → Int → Int → Option (Bool)
 | 0, _, _, _, _ => none
 | k + 1, x2, x38, x39, x40 => if x40 < x39 then (if 0 ≤ x40 then (if x40 < (x38.length : Int) then (classification_Cover.l2 k x2 (rdOf ByteArray.empty x38 x40) 0 x38 x39 x40 x2 (x2.length : Int) 0) else (none)) else (none)) else (some true)
def classification_Cover.l2 : Nat → List ByteArray → ByteArray → Int → List ByteArray → Int → Int → List ByteArray → Int → Int → Option (Bool)
 | 0, _, _, _, _, _, _, _, _, _ => none
 | k + 1, x2, x10, x11, x38, x39, x40, x44, x45, x46 => if x46 < x45 then (if 0 ≤ x46 then (if x46 < (x44.length : Int) then ((classification_Within.f k x10 (rdOf ByteArray.empty x44 x46)).bind fun t616 => (if t616 = true then (classification_Cover.l2 k x2 x10 (wrap64 (x11 + 1)) x38 x39 x40 x44 x45 (wrap64 (x46 + 1))) else (classification_Cover.l2 k x2 x10 x11 x38 x39 x40 x44 x45 (wrap64 (x46 + 1))))) else (none)) else (none)) else (if x11 = 1 then (classification_Cover.l1 k x2 x38 x39 (wrap64 (x40 + 1))) else (some false))
end
def classification_Cover.f (k : Nat) (a0_0 : ByteArray) (l0_1 : List ByteArray) (a1 : ByteArray) (l2 : List ByteArray) : Option (Bool) := (classification_has.f k a0_0 l0_1 a1).bind fun t607 => (if t607 = true then (classification_Cover.l0 k a1 l2 l2 (l2.length : Int) 0 a0_0 l0_1) else (some false))
theorem classification_Cover.mono_l : ∀ k, (∀ y0 y1 y2 y3 y4 y5 y6, LeO (classification_Cover.l0 k y0 y1 y2 y3 y4 y5 y6) (classification_Cover.l0 (k + 1) y0 y1 y2 y3 y4 y5 y6)) ∧ (∀ y0 y1 y2 y3, LeO (classification_Cover.l1 k y0 y1 y2 y3) (classification_Cover.l1 (k + 1) y0 y1 y2 y3)) ∧ (∀ y0 y1 y2 y3 y4 y5 y6 y7 y8, LeO (classification_Cover.l2 k y0 y1 y2 y3 y4 y5 y6 y7 y8) (classification_Cover.l2 (k + 1) y0 y1 y2 y3 y4 y5 y6 y7 y8))
 | 0 => ⟨fun _ _ _ _ _ _ _ r h => by simp [classification_Cover.l0] at h, fun _ _ _ _ r h => by simp [classification_Cover.l1] at h, fun _ _ _ _ _ _ _ _ _ r h => by simp [classification_Cover.l2] at h⟩
 | k + 1 => by
  obtain ⟨ih0, ih1, ih2⟩ := classification_Cover.mono_l k
  refine ⟨?_, ?_, ?_⟩
  ·intro y0 y1 y2 y3 y4 y5 y6
   unfold classification_Cover.l0
   repeat' first
   | (with_reducible exact ih0 _ _ _ _ _ _ _)
   | (with_reducible exact ih1 _ _ _ _)
   | (with_reducible exact ih2 _ _ _ _ _ _ _ _ _)
   | (with_reducible exact classification_Leaves.mono _ _ _ _)
   | (with_reducible exact classification_Within.mono _ _ _)
   | (with_reducible exact classification_has.mono _ _ _ _)
   | (with_reducible exact slices_Contains_string_string.mono _ _ _)
   | (with_reducible exact LeO.refl _)
   | (with_reducible exact LeO.none _)
   | (with_reducible refine LeO.ite ?_ ?_)
   | (with_reducible refine LeO.bind ?_ (fun _ => ?_))
   | exact ih0 _ _ _ _ _ _ _
   | exact ih1 _ _ _ _
   | exact ih2 _ _ _ _ _ _ _ _ _
   | exact classification_Leaves.mono _ _ _ _
   | exact classification_Within.mono _ _ _
   | exact classification_has.mono _ _ _ _
   | exact slices_Contains_string_string.mono _ _ _
   | exact LeO.none _
   | refine LeO.ite ?_ ?_
   | refine LeO.bind ?_ (fun _ => ?_)
  ·intro y0 y1 y2 y3
   unfold classification_Cover.l1
   repeat' first
   | (with_reducible exact ih0 _ _ _ _ _ _ _)
   | (with_reducible exact ih1 _ _ _ _)
   | (with_reducible exact ih2 _ _ _ _ _ _ _ _ _)
   | (with_reducible exact classification_Leaves.mono _ _ _ _)
   | (with_reducible exact classification_Within.mono _ _ _)
   | (with_reducible exact classification_has.mono _ _ _ _)
   | (with_reducible exact slices_Contains_string_string.mono _ _ _)
   | (with_reducible exact LeO.refl _)
   | (with_reducible exact LeO.none _)
   | (with_reducible refine LeO.ite ?_ ?_)
   | (with_reducible refine LeO.bind ?_ (fun _ => ?_))
   | exact ih0 _ _ _ _ _ _ _
   | exact ih1 _ _ _ _
   | exact ih2 _ _ _ _ _ _ _ _ _
   | exact classification_Leaves.mono _ _ _ _
   | exact classification_Within.mono _ _ _
   | exact classification_has.mono _ _ _ _
   | exact slices_Contains_string_string.mono _ _ _
   | exact LeO.none _
   | refine LeO.ite ?_ ?_
   | refine LeO.bind ?_ (fun _ => ?_)
  ·intro y0 y1 y2 y3 y4 y5 y6 y7 y8
   unfold classification_Cover.l2
   repeat' first
   | (with_reducible exact ih0 _ _ _ _ _ _ _)
   | (with_reducible exact ih1 _ _ _ _)
   | (with_reducible exact ih2 _ _ _ _ _ _ _ _ _)
   | (with_reducible exact classification_Leaves.mono _ _ _ _)
   | (with_reducible exact classification_Within.mono _ _ _)
   | (with_reducible exact classification_has.mono _ _ _ _)
   | (with_reducible exact slices_Contains_string_string.mono _ _ _)
   | (with_reducible exact LeO.refl _)
   | (with_reducible exact LeO.none _)
   | (with_reducible refine LeO.ite ?_ ?_)
   | (with_reducible refine LeO.bind ?_ (fun _ => ?_))
   | exact ih0 _ _ _ _ _ _ _
   | exact ih1 _ _ _ _
   | exact ih2 _ _ _ _ _ _ _ _ _
   | exact classification_Leaves.mono _ _ _ _
   | exact classification_Within.mono _ _ _
   | exact classification_has.mono _ _ _ _
   | exact slices_Contains_string_string.mono _ _ _
   | exact LeO.none _
   | refine LeO.ite ?_ ?_
   | refine LeO.bind ?_ (fun _ => ?_)
theorem classification_Cover.mono : ∀ a0 a1 a2 a3 k, LeO (classification_Cover.f k a0 a1 a2 a3) (classification_Cover.f (k + 1) a0 a1 a2 a3) := by
 intro a0 a1 a2 a3 k
 obtain ⟨ih0, ih1, ih2⟩ := classification_Cover.mono_l k
 unfold classification_Cover.f
 repeat' first
   | (with_reducible exact ih0 _ _ _ _ _ _ _)
   | (with_reducible exact ih1 _ _ _ _)
   | (with_reducible exact ih2 _ _ _ _ _ _ _ _ _)
   | (with_reducible exact classification_Leaves.mono _ _ _ _)
   | (with_reducible exact classification_Within.mono _ _ _)
   | (with_reducible exact classification_has.mono _ _ _ _)
   | (with_reducible exact slices_Contains_string_string.mono _ _ _)
   | (with_reducible exact LeO.refl _)
   | (with_reducible exact LeO.none _)
   | (with_reducible refine LeO.ite ?_ ?_)
   | (with_reducible refine LeO.bind ?_ (fun _ => ?_))
   | exact ih0 _ _ _ _ _ _ _
   | exact ih1 _ _ _ _
   | exact ih2 _ _ _ _ _ _ _ _ _
   | exact classification_Leaves.mono _ _ _ _
   | exact classification_Within.mono _ _ _
   | exact classification_has.mono _ _ _ _
   | exact slices_Contains_string_string.mono _ _ _
   | exact LeO.none _
   | refine LeO.ite ?_ ?_
   | refine LeO.bind ?_ (fun _ => ?_)
set_option maxHeartbeats 8000000 in
set_option maxRecDepth 100000 in
theorem classification_Cover.calls (k : Nat) (a0_0 : ByteArray) (A0_1 : Option Addr) (c0_1 : Nat) (l0_1 : List ByteArray) (a1 : ByteArray) (A2 : Option Addr) (c2 : Nat) (l2 : List ByteArray) (r : Bool) (w : World) (hr0_1 : Kd.C Kd.string w A0_1 l0_1.length l0_1) (hc0_1 : l0_1.length ≤ c0_1) (hr2 : Kd.C Kd.string w A2 l2.length l2) (hc2 : l2.length ≤ c2) (hG : GL w) (h : classification_Cover.f k a0_0 l0_1 a1 l2 = some r) :
  Calls Tryd.prog 20 #[.agg #[.string a0_0, .slice A0_1 l0_1.length c0_1], .string a1, .slice A2 l2.length c2] w fun e w' => e = .returned (.bool r) ∧ Below w.heap.size w w' := by
 have HG := mk0 hG
 clear hG
 have hu28 := Tryd.underlying28
 have HR0_1 := mk0 hr0_1
 have HC0_1 := mk0 hc0_1
 clear hr0_1 hc0_1
 have HR2 := mk0 hr2
 have HC2 := mk0 hc2
 clear hr2 hc2
 have HB := mk0 (Below.refl w.heap.size w)
 have H : ((classification_has.f k a0_0 l0_1 a1).bind fun t607 => (if t607 = true then (classification_Cover.l0 k a1 l2 l2 (l2.length : Int) 0 a0_0 l0_1) else (some false))) = some r := h
 clear h
 replace H := Option.bind_eq_some_iff.mp H
 obtain ⟨t607, A40, H⟩ := H
 replace H : (if t607 = true then (classification_Cover.l0 k a1 l2 l2 (l2.length : Int) 0 a0_0 l0_1) else (some false)) = some r := H
 have A4 := mk0 A40
 clear A40
 by_cases c5 : t607 = true
 ·subst c5
  have H1 : (classification_Cover.l0 k a1 l2 l2 (l2.length : Int) 0 a0_0 l0_1) = some r := by rw [if_pos rfl] at H; exact H
  clear H
  have H := H1
  clear H1
  have H' := mk0 H
  clear H
  go_enter Tryd.func20, Tryd.ntmps20
  go_wp2_with (first | ((with_reducible refine gate_dst (N := 3) rfl ?_); refine box_event ?hg (N := 3) ?hd (cs := #[.string a0_0, .slice A0_1 l0_1.length c0_1]) (t := 28) ?hr ?_; (case hd => rfl); (case hg => rfl); (case hr => first | (go_simp; done) | (go_simp; rfl)); intro gb606 hg w6 hbox hb; have n0_ := mk0 (below_step (by repeat (first | (with_reducible first | exact HB.out | apply b_a | apply b_n | apply b_d) | exact HB.out)) hb); have n1_ := mk0 (hbox); have n2_ := mk0 ((by rw [hg]; exact (below_size (by repeat (first | (with_reducible first | exact HB.out | apply b_a | apply b_n | apply b_d) | exact HB.out))) : w.heap.size ≤ gb606)); have n3_ := mk0 ((by rw [hg]; exact (below_size (by repeat (first | (with_reducible first | exact HB.out | apply b_a | apply b_n | apply b_d) | exact HB.out))) : w.heap.size ≤ gb606)); clear HB; have HB := n0_; have BK606 := n1_; have GW606 := n2_; have GE606 := n3_; clear n0_ n1_ n2_ n3_; clear hb hbox hg; have hcz7_0 : w6.cell? ⟨gb606, 0, none⟩ = some (.string a0_0) := (blk_cell BK606.out 0).trans rfl; have hcz7_1 : w6.cell? ⟨gb606, 1, none⟩ = some (.slice A0_1 l0_1.length c0_1) := (blk_cell BK606.out 1).trans rfl; have hfz7_0 := blk_frozen BK606.out 0; have hfz7_1 := blk_frozen BK606.out 1) | ((with_reducible refine gate_callee (f := 49) rfl ?_); refine goesL_ (some 16) rfl rfl Tryd.func49 (by kernel_rfl) rfl #[.agg #[.string a0_0, .slice A0_1 l0_1.length c0_1], .string a1] rfl (by (try simp only [List.map_toArray, List.map_cons, List.map_nil]); first | done | rfl | (simp only [List.length_drop, List.length_take]; rfl)) ?_; (with_reducible refine (classification_has.calls k a0_0 _ _ l0_1 a1 true _ ?side1 ?side2 ?side3 A4.out).mono ?_); (case side1 => repeat (first | exact (Kd.C_below HR0_1.out HB.out) | (with_reducible refine Kd.C_alloc ?_ _) | (with_reducible refine Kd.C_drewN ?_ _) | (with_reducible refine Kd.C_drew ?_))); (case side2 => exact HC0_1.out); (case side3 => first | exact HG.out | exact GL.below HG.out (by repeat (first | (with_reducible first | exact HB.out | apply b_a | apply b_n | apply b_d | refine below_set ?_ GE606.out) | exact HB.out))); rintro e w8 ⟨rfl, hb⟩; refine ⟨_, rfl, ?_⟩; have n0_ := mk0 (blk_below (g := gb606) (o := .cells #[.string a0_0, .slice A0_1 l0_1.length c0_1] 28 (0, 0)) (by (with_reducible repeat (first | refine blk_drewN ?_ _ | refine blk_drew ?_ | refine blk_alloc ?_ _)); exact BK606.out) hb); have n1_ := mk0 (below_step (by repeat (first | (with_reducible first | exact HB.out | apply b_a | apply b_n | apply b_d | refine below_set ?_ GE606.out) | exact HB.out)) hb); clear BK606; clear HB; have BK606 := n0_; have HB := n1_; clear n0_ n1_; (try clear hb); (try clear hb2); (try clear hk); (try clear hi)))
  go_loopg [20] k (fun kq v20 w' => ∃ (x20_1 : Int), v20 = .int .i64 x20_1 ∧ Aside0 (classification_Cover.l0 kq a1 l2 l2 (l2.length : Int) x20_1 a0_0 l0_1 = some r) ∧ Aside0 (kq ≤ k) ∧ Aside0 (w'.heap[gb606]? = some (.cells #[.string a0_0, (.slice A0_1 l0_1.length c0_1)] 28 (0, 0))) ∧ Aside0 (Below w.heap.size w w'))
  case atStart => exact ⟨(0), (by first | rfl | (simp; done) | (simp [*]; done)), H', ⟨Nat.le_refl _⟩, ⟨by (with_reducible repeat (first | refine blk_drewN ?_ _ | refine blk_drew ?_ | refine blk_alloc ?_ _)); exact BK606.out⟩, ⟨by repeat (first | (with_reducible first | exact HB.out | apply b_a | apply b_n | apply b_d | refine below_set ?_ GE606.out) | exact HB.out)⟩⟩
  case round =>
   clear H'
   try clear c2
   try clear p2
   try clear c4
   try clear c5
   try clear hcz7_0
   try clear hcz7_1
   try clear hfz7_0
   try clear hfz7_1
   obtain ⟨x20_1, rfl, HA, HK1, BK606, HB⟩ := hrel
   cases gk with
   | zero => exact absurd HA.out (by simp [classification_Cover.l0])
   | succ k1 =>
    have H := HA.out
    clear HA
    simp only [classification_Cover.l0] at H
    by_cases c9 : x20_1 < (l2.length : Int)
    ·rw [if_pos c9] at H
     have c9b0 : decide (x20_1 < (l2.length : Int)) = true := decide_eq_true c9
     clear c9
     by_cases c10 : 0 ≤ x20_1
     ·rw [if_pos c10] at H
      have c10b0 : decide (0 ≤ x20_1) = true := decide_eq_true c10
      clear c10
      by_cases c11 : x20_1 < (l2.length : Int)
      ·rw [if_pos c11] at H
       have c11b0 : decide (x20_1 < (l2.length : Int)) = true := decide_eq_true c11
       clear c11
       replace H := Option.bind_eq_some_iff.mp H
       obtain ⟨t609, A120, H⟩ := H
       replace H : (if t609 = true then ((classification_Within.f k1 (rdOf ByteArray.empty l2 x20_1) a1).bind fun t610 => (if t610 = true then (classification_Cover.l0 k1 a1 l2 l2 (l2.length : Int) (wrap64 (x20_1 + 1)) a0_0 l0_1) else (some false))) else (some false)) = some r := H
       have A12 := mk0 A120
       clear A120
       by_cases c13 : t609 = true
       ·subst c13
        have H1 : ((classification_Within.f k1 (rdOf ByteArray.empty l2 x20_1) a1).bind fun t610 => (if t610 = true then (classification_Cover.l0 k1 a1 l2 l2 (l2.length : Int) (wrap64 (x20_1 + 1)) a0_0 l0_1) else (some false))) = some r := by rw [if_pos rfl] at H; exact H
        clear H
        have H := H1
        clear H1
        replace H := Option.bind_eq_some_iff.mp H
        obtain ⟨t610, A140, H⟩ := H
        replace H : (if t610 = true then (classification_Cover.l0 k1 a1 l2 l2 (l2.length : Int) (wrap64 (x20_1 + 1)) a0_0 l0_1) else (some false)) = some r := H
        have A14 := mk0 A140
        clear A140
        by_cases c15 : t610 = true
        ·subst c15
         have H1 : (classification_Cover.l0 k1 a1 l2 l2 (l2.length : Int) (wrap64 (x20_1 + 1)) a0_0 l0_1) = some r := by rw [if_pos rfl] at H; exact H
         clear H
         have H := H1
         clear H1
         have H' := mk0 H
         clear H
         have p608 : 0 ≤ (x20_1 : Int) := of_decide_eq_true (by first | (with_reducible assumption) | assumption)
         have q608 : x20_1 < (l2.length : Int) := of_decide_eq_true (by first | (with_reducible assumption) | assumption)
         obtain ⟨ad608, e608, hx608_0⟩ := Kd.at_string HR2.out x20_1 p608 q608
         cases e608
         replace hx608_0 := (HB.out.cell (World.block_lt_of_cell? w _ hx608_0)).trans hx608_0
         replace p608 := eq_true p608
         replace q608 := eq_true q608
         have hcz16_0 : wr.cell? ⟨gb606, 0, none⟩ = some (.string a0_0) := (blk_cell BK606.out 0).trans rfl
         have hcz16_1 : wr.cell? ⟨gb606, 1, none⟩ = some (.slice A0_1 l0_1.length c0_1) := (blk_cell BK606.out 1).trans rfl
         have hfz16_0 := blk_frozen BK606.out 0
         have hfz16_1 := blk_frozen BK606.out 1
         go_wp2_with (first | ((with_reducible refine gate_callee (f := 50) rfl ?_); refine goesL_ (some 27) rfl rfl Tryd.func50 (by kernel_rfl) rfl #[.slice A0_1 l0_1.length c0_1, .string (rdOf ByteArray.empty l2 x20_1)] rfl (by (try simp only [List.map_toArray, List.map_cons, List.map_nil]); first | done | rfl | (simp only [List.length_drop, List.length_take]; rfl)) ?_; (with_reducible refine (slices_Contains_string_string.calls k1 _ _ l0_1 (rdOf ByteArray.empty l2 x20_1) true _ ?side1 ?side2 A12.out).mono ?_); (case side1 => repeat (first | exact (Kd.C_below HR0_1.out HB.out) | (with_reducible refine Kd.C_alloc ?_ _) | (with_reducible refine Kd.C_drewN ?_ _) | (with_reducible refine Kd.C_drew ?_))); (case side2 => exact HC0_1.out); rintro e w' ⟨rfl, ⟨nd, rfl⟩⟩; refine ⟨_, rfl, ?_⟩) | (go_at_call 42; (with_reducible refine (classification_Within.calls k1 (rdOf ByteArray.empty l2 x20_1) a1 true _ ?side1 A14.out).mono ?_); (case side1 => first | exact HG.out | exact GL.below HG.out (by repeat (first | (with_reducible first | exact HB.out | apply b_a | apply b_n | apply b_d | refine below_set ?_ GE606.out) | exact HB.out))); rintro e w17 ⟨rfl, hb⟩; have n0_ := mk0 (blk_below (g := gb606) (o := .cells #[.string a0_0, .slice A0_1 l0_1.length c0_1] 28 (0, 0)) (by (with_reducible repeat (first | refine blk_drewN ?_ _ | refine blk_drew ?_ | refine blk_alloc ?_ _)); exact BK606.out) hb); have n1_ := mk0 (below_step (by repeat (first | (with_reducible first | exact HB.out | apply b_a | apply b_n | apply b_d | refine below_set ?_ GE606.out) | exact HB.out)) hb); clear BK606; clear HB; have BK606 := n0_; have HB := n1_; clear n0_ n1_; (try clear hb); (try clear hb2); (try clear hk); (try clear hi)))
         go_roundg k1
         case measure => have := HK1.out; omega
         case rel => exact ⟨(wrap64 (x20_1 + 1)), (by first | rfl | (simp; done) | (simp [*]; done)), H', ⟨by have := HK1.out; omega⟩, ⟨by (with_reducible repeat (first | refine blk_drewN ?_ _ | refine blk_drew ?_ | refine blk_alloc ?_ _)); exact BK606.out⟩, ⟨by repeat (first | (with_reducible first | exact HB.out | apply b_a | apply b_n | apply b_d | refine below_set ?_ GE606.out) | exact HB.out)⟩⟩
        ·replace c15 := Bool.eq_false_iff.mpr c15
         subst c15
         have H1 : (some false) = some r := by rw [if_neg (show ¬ (false = true) by decide)] at H; exact H
         clear H
         have H := H1
         clear H1
         obtain rfl := Option.some.inj H
         have p608 : 0 ≤ (x20_1 : Int) := of_decide_eq_true (by first | (with_reducible assumption) | assumption)
         have q608 : x20_1 < (l2.length : Int) := of_decide_eq_true (by first | (with_reducible assumption) | assumption)
         obtain ⟨ad608, e608, hx608_0⟩ := Kd.at_string HR2.out x20_1 p608 q608
         cases e608
         replace hx608_0 := (HB.out.cell (World.block_lt_of_cell? w _ hx608_0)).trans hx608_0
         replace p608 := eq_true p608
         replace q608 := eq_true q608
         have hcz18_0 : wr.cell? ⟨gb606, 0, none⟩ = some (.string a0_0) := (blk_cell BK606.out 0).trans rfl
         have hcz18_1 : wr.cell? ⟨gb606, 1, none⟩ = some (.slice A0_1 l0_1.length c0_1) := (blk_cell BK606.out 1).trans rfl
         have hfz18_0 := blk_frozen BK606.out 0
         have hfz18_1 := blk_frozen BK606.out 1
         go_wp2_with (first | ((with_reducible refine gate_callee (f := 50) rfl ?_); refine goesL_ (some 27) rfl rfl Tryd.func50 (by kernel_rfl) rfl #[.slice A0_1 l0_1.length c0_1, .string (rdOf ByteArray.empty l2 x20_1)] rfl (by (try simp only [List.map_toArray, List.map_cons, List.map_nil]); first | done | rfl | (simp only [List.length_drop, List.length_take]; rfl)) ?_; (with_reducible refine (slices_Contains_string_string.calls k1 _ _ l0_1 (rdOf ByteArray.empty l2 x20_1) true _ ?side1 ?side2 A12.out).mono ?_); (case side1 => repeat (first | exact (Kd.C_below HR0_1.out HB.out) | (with_reducible refine Kd.C_alloc ?_ _) | (with_reducible refine Kd.C_drewN ?_ _) | (with_reducible refine Kd.C_drew ?_))); (case side2 => exact HC0_1.out); rintro e w' ⟨rfl, ⟨nd, rfl⟩⟩; refine ⟨_, rfl, ?_⟩) | (go_at_call 42; (with_reducible refine (classification_Within.calls k1 (rdOf ByteArray.empty l2 x20_1) a1 false _ ?side1 A14.out).mono ?_); (case side1 => first | exact HG.out | exact GL.below HG.out (by repeat (first | (with_reducible first | exact HB.out | apply b_a | apply b_n | apply b_d | refine below_set ?_ GE606.out) | exact HB.out))); rintro e w19 ⟨rfl, hb⟩; have n0_ := mk0 (blk_below (g := gb606) (o := .cells #[.string a0_0, .slice A0_1 l0_1.length c0_1] 28 (0, 0)) (by (with_reducible repeat (first | refine blk_drewN ?_ _ | refine blk_drew ?_ | refine blk_alloc ?_ _)); exact BK606.out) hb); have n1_ := mk0 (below_step (by repeat (first | (with_reducible first | exact HB.out | apply b_a | apply b_n | apply b_d | refine below_set ?_ GE606.out) | exact HB.out)) hb); clear BK606; clear HB; have BK606 := n0_; have HB := n1_; clear n0_ n1_; (try clear hb); (try clear hb2); (try clear hk); (try clear hi)))
         go_ret
         exact ⟨by first | rfl | (simp [errW_none, errW_some] <;> rfl) | (simp [*, errW_none, errW_some] <;> rfl), by repeat (first | (with_reducible first | exact HB.out | apply b_a | apply b_n | apply b_d | refine below_set ?_ GE606.out) | exact HB.out)⟩
       ·replace c13 := Bool.eq_false_iff.mpr c13
        subst c13
        have H1 : (some false) = some r := by rw [if_neg (show ¬ (false = true) by decide)] at H; exact H
        clear H
        have H := H1
        clear H1
        obtain rfl := Option.some.inj H
        have p608 : 0 ≤ (x20_1 : Int) := of_decide_eq_true (by first | (with_reducible assumption) | assumption)
        have q608 : x20_1 < (l2.length : Int) := of_decide_eq_true (by first | (with_reducible assumption) | assumption)
        obtain ⟨ad608, e608, hx608_0⟩ := Kd.at_string HR2.out x20_1 p608 q608
        cases e608
        replace hx608_0 := (HB.out.cell (World.block_lt_of_cell? w _ hx608_0)).trans hx608_0
        replace p608 := eq_true p608
        replace q608 := eq_true q608
        have hcz20_0 : wr.cell? ⟨gb606, 0, none⟩ = some (.string a0_0) := (blk_cell BK606.out 0).trans rfl
        have hcz20_1 : wr.cell? ⟨gb606, 1, none⟩ = some (.slice A0_1 l0_1.length c0_1) := (blk_cell BK606.out 1).trans rfl
        have hfz20_0 := blk_frozen BK606.out 0
        have hfz20_1 := blk_frozen BK606.out 1
        go_wp2_with (first | ((with_reducible refine gate_callee (f := 50) rfl ?_); refine goesL_ (some 27) rfl rfl Tryd.func50 (by kernel_rfl) rfl #[.slice A0_1 l0_1.length c0_1, .string (rdOf ByteArray.empty l2 x20_1)] rfl (by (try simp only [List.map_toArray, List.map_cons, List.map_nil]); first | done | rfl | (simp only [List.length_drop, List.length_take]; rfl)) ?_; (with_reducible refine (slices_Contains_string_string.calls k1 _ _ l0_1 (rdOf ByteArray.empty l2 x20_1) false _ ?side1 ?side2 A12.out).mono ?_); (case side1 => repeat (first | exact (Kd.C_below HR0_1.out HB.out) | (with_reducible refine Kd.C_alloc ?_ _) | (with_reducible refine Kd.C_drewN ?_ _) | (with_reducible refine Kd.C_drew ?_))); (case side2 => exact HC0_1.out); rintro e w' ⟨rfl, ⟨nd, rfl⟩⟩; refine ⟨_, rfl, ?_⟩))
        go_ret
        exact ⟨by first | rfl | (simp [errW_none, errW_some] <;> rfl) | (simp [*, errW_none, errW_some] <;> rfl), by repeat (first | (with_reducible first | exact HB.out | apply b_a | apply b_n | apply b_d | refine below_set ?_ GE606.out) | exact HB.out)⟩
      ·rw [if_neg c11] at H
       exact absurd H (by simp)
     ·rw [if_neg c10] at H
      exact absurd H (by simp)
    ·rw [if_neg c9] at H
     have c9b0 : decide (x20_1 < (l2.length : Int)) = false := decide_eq_false c9
     clear c9
     replace H := Option.bind_eq_some_iff.mp H
     obtain ⟨t611, A210, H⟩ := H
     replace H : (classification_Cover.l1 k1 l2 t611 (t611.length : Int) 0) = some r := H
     have A21 := mk0 A210
     clear A210
     have H' := mk0 H
     clear H
     have hcz22_0 : wr.cell? ⟨gb606, 0, none⟩ = some (.string a0_0) := (blk_cell BK606.out 0).trans rfl
     have hcz22_1 : wr.cell? ⟨gb606, 1, none⟩ = some (.slice A0_1 l0_1.length c0_1) := (blk_cell BK606.out 1).trans rfl
     have hfz22_0 := blk_frozen BK606.out 0
     have hfz22_1 := blk_frozen BK606.out 1
     go_wp2_with (first | ((with_reducible refine gate_callee (f := 15) rfl ?_); refine goesL_ (some 38) rfl rfl Tryd.func15 (by kernel_rfl) rfl #[.agg #[.string a0_0, .slice A0_1 l0_1.length c0_1], .string a1] rfl (by (try simp only [List.map_toArray, List.map_cons, List.map_nil]); first | done | rfl | (simp only [List.length_drop, List.length_take]; rfl)) ?_; (with_reducible refine (classification_Leaves.calls k1 a0_0 _ _ l0_1 a1 t611 _ ?side1 ?side2 ?side3 A21.out).mono ?_); (case side1 => repeat (first | exact (Kd.C_below HR0_1.out HB.out) | (with_reducible refine Kd.C_alloc ?_ _) | (with_reducible refine Kd.C_drewN ?_ _) | (with_reducible refine Kd.C_drew ?_))); (case side2 => exact HC0_1.out); (case side3 => first | exact HG.out | exact GL.below HG.out (by repeat (first | (with_reducible first | exact HB.out | apply b_a | apply b_n | apply b_d | refine below_set ?_ GE606.out) | exact HB.out))); rintro e w23 ⟨v612, rfl, ho0, hb⟩; refine ⟨_, rfl, ?_⟩; have n0_ := mk0 (Kd.R_lower ho0 (below_size (by repeat (first | (with_reducible first | exact HB.out | apply b_a | apply b_n | apply b_d | refine below_set ?_ GE606.out) | exact HB.out)))); have n1_ := mk0 (blk_below (g := gb606) (o := .cells #[.string a0_0, .slice A0_1 l0_1.length c0_1] 28 (0, 0)) (by (with_reducible repeat (first | refine blk_drewN ?_ _ | refine blk_drew ?_ | refine blk_alloc ?_ _)); exact BK606.out) hb); have n2_ := mk0 (below_step (by repeat (first | (with_reducible first | exact HB.out | apply b_a | apply b_n | apply b_d | refine below_set ?_ GE606.out) | exact HB.out)) hb); clear BK606; clear HB; have HO613 := n0_; have BK606 := n1_; have HB := n2_; clear n0_ n1_ n2_; (try clear hb); (try clear hb2); (try clear hk); (try clear hi); (try clear ho0); obtain ⟨Ao24, co24, eo24⟩ := Kd.R_slice HO613.out; subst eo24))
     go_loopg [40] k1 (fun kq v40 w' => ∃ (x40_2 : Int), v40 = .int .i64 x40_2 ∧ Aside0 (classification_Cover.l1 kq l2 t611 (t611.length : Int) x40_2 = some r) ∧ Aside0 (kq ≤ k1) ∧ Aside0 (Kd.R Kd.string 9 w' w.heap.size (fun _ => True) (.slice Ao24 t611.length co24) t611) ∧ Aside0 (w'.heap[gb606]? = some (.cells #[.string a0_0, (.slice A0_1 l0_1.length c0_1)] 28 (0, 0))) ∧ Aside0 (Below w.heap.size w w'))
     case atStart => exact ⟨(0), (by first | rfl | (simp; done) | (simp [*]; done)), H', ⟨Nat.le_refl _⟩, ⟨by (with_reducible repeat (first | apply r_a | apply r_n | apply r_d)); exact HO613.out⟩, ⟨by (with_reducible repeat (first | refine blk_drewN ?_ _ | refine blk_drew ?_ | refine blk_alloc ?_ _)); exact BK606.out⟩, ⟨by repeat (first | (with_reducible first | exact HB.out | apply b_a | apply b_n | apply b_d | refine below_set ?_ GE606.out) | exact HB.out)⟩⟩
     case round =>
      clear H'
      try clear c1
      try clear c2
      try clear p2
      try clear c4
      try clear c5
      try clear p6
      try clear q6
      try clear hx6
      try clear c9
      try clear c9b0
      try clear c10
      try clear c10b0
      try clear c11
      try clear c11b0
      try clear c13
      try clear c15
      try clear c20
      try clear hcz16_0
      try clear hcz16_1
      try clear hcz18_0
      try clear hcz18_1
      try clear hcz20_0
      try clear hcz20_1
      try clear hcz22_0
      try clear hcz22_1
      try clear hcz7_0
      try clear hcz7_1
      try clear hfz16_0
      try clear hfz16_1
      try clear hfz18_0
      try clear hfz18_1
      try clear hfz20_0
      try clear hfz20_1
      try clear hfz22_0
      try clear hfz22_1
      try clear hfz7_0
      try clear hfz7_1
      try clear hx608_0
      try clear p2
      try clear p608
      try clear q608
      obtain ⟨x40_2, rfl, HA, HK2, HO_38, BK606, HB⟩ := hrel
      cases gk with
      | zero => exact absurd HA.out (by simp [classification_Cover.l1])
      | succ k2 =>
       have H := HA.out
       clear HA
       simp only [classification_Cover.l1] at H
       by_cases c25 : x40_2 < (t611.length : Int)
       ·rw [if_pos c25] at H
        have c25b0 : decide (x40_2 < (t611.length : Int)) = true := decide_eq_true c25
        clear c25
        by_cases c26 : 0 ≤ x40_2
        ·rw [if_pos c26] at H
         have c26b0 : decide (0 ≤ x40_2) = true := decide_eq_true c26
         clear c26
         by_cases c27 : x40_2 < (t611.length : Int)
         ·rw [if_pos c27] at H
          have c27b0 : decide (x40_2 < (t611.length : Int)) = true := decide_eq_true c27
          clear c27
          have H' := mk0 H
          clear H
          have p614 : 0 ≤ (x40_2 : Int) := of_decide_eq_true (by first | (with_reducible assumption) | assumption)
          have q614 : x40_2 < (t611.length : Int) := of_decide_eq_true (by first | (with_reducible assumption) | assumption)
          obtain ⟨ad614, e614, hx614_0⟩ := Kd.at_string (Kd.R_reads' HO_38.out).2.2 x40_2 p614 q614
          cases e614
          replace p614 := eq_true p614
          replace q614 := eq_true q614
          go_wp2
          go_loopg [11, 46] k2 (fun kq v11 v46 w' => ∃ (x11_3 : Int) (x46_3 : Int), v11 = .int .i64 x11_3 ∧ v46 = .int .i64 x46_3 ∧ Aside0 (classification_Cover.l2 kq l2 (rdOf ByteArray.empty t611 x40_2) x11_3 t611 (t611.length : Int) x40_2 l2 (l2.length : Int) x46_3 = some r) ∧ Aside0 (kq ≤ k2) ∧ Aside0 (Kd.R Kd.string 9 w' w.heap.size (fun _ => True) (.slice (some ad614) t611.length co24) t611) ∧ Aside0 (w'.heap[gb606]? = some (.cells #[.string a0_0, (.slice A0_1 l0_1.length c0_1)] 28 (0, 0))) ∧ Aside0 (Below w.heap.size w w'))
          case atStart => exact ⟨(0), (0), (by first | rfl | (simp; done) | (simp [*]; done)), (by first | rfl | (simp; done) | (simp [*]; done)), H', ⟨Nat.le_refl _⟩, ⟨by (with_reducible repeat (first | apply r_a | apply r_n | apply r_d)); exact HO_38.out⟩, ⟨by (with_reducible repeat (first | refine blk_drewN ?_ _ | refine blk_drew ?_ | refine blk_alloc ?_ _)); exact BK606.out⟩, ⟨by repeat (first | (with_reducible first | exact HB.out | apply b_a | apply b_n | apply b_d | refine below_set ?_ GE606.out) | exact HB.out)⟩⟩
          case round =>
           clear H'
           try clear c1
           try clear c2
           try clear p2
           try clear c4
           try clear c5
           try clear p6
           try clear q6
           try clear hx6
           try clear c9
           try clear c9b0
           try clear c10
           try clear c10b0
           try clear c11
           try clear c11b0
           try clear c13
           try clear c15
           try clear c20
           try clear c25
           try clear c25b0
           try clear c26
           try clear c26b0
           try clear c27
           try clear c27b0
           try clear hcz16_0
           try clear hcz16_1
           try clear hcz18_0
           try clear hcz18_1
           try clear hcz20_0
           try clear hcz20_1
           try clear hcz22_0
           try clear hcz22_1
           try clear hcz7_0
           try clear hcz7_1
           try clear hfz16_0
           try clear hfz16_1
           try clear hfz18_0
           try clear hfz18_1
           try clear hfz20_0
           try clear hfz20_1
           try clear hfz22_0
           try clear hfz22_1
           try clear hfz7_0
           try clear hfz7_1
           try clear hx608_0
           try clear hx614_0
           try clear p2
           try clear p6
           try clear p608
           try clear p614
           try clear q6
           try clear q608
           try clear q614
           obtain ⟨x11_3, x46_3, rfl, rfl, HA, HK3, HO_38, BK606, HB⟩ := hrel
           cases gk with
           | zero => exact absurd HA.out (by simp [classification_Cover.l2])
           | succ k3 =>
            have H := HA.out
            clear HA
            simp only [classification_Cover.l2] at H
            by_cases c28 : x46_3 < (l2.length : Int)
            ·rw [if_pos c28] at H
             have c28b0 : decide (x46_3 < (l2.length : Int)) = true := decide_eq_true c28
             clear c28
             by_cases c29 : 0 ≤ x46_3
             ·rw [if_pos c29] at H
              have c29b0 : decide (0 ≤ x46_3) = true := decide_eq_true c29
              clear c29
              by_cases c30 : x46_3 < (l2.length : Int)
              ·rw [if_pos c30] at H
               have c30b0 : decide (x46_3 < (l2.length : Int)) = true := decide_eq_true c30
               clear c30
               replace H := Option.bind_eq_some_iff.mp H
               obtain ⟨t616, A310, H⟩ := H
               replace H : (if t616 = true then (classification_Cover.l2 k3 l2 (rdOf ByteArray.empty t611 x40_2) (wrap64 (x11_3 + 1)) t611 (t611.length : Int) x40_2 l2 (l2.length : Int) (wrap64 (x46_3 + 1))) else (classification_Cover.l2 k3 l2 (rdOf ByteArray.empty t611 x40_2) x11_3 t611 (t611.length : Int) x40_2 l2 (l2.length : Int) (wrap64 (x46_3 + 1)))) = some r := H
               have A31 := mk0 A310
               clear A310
               by_cases c32 : t616 = true
               ·subst c32
                have H1 : (classification_Cover.l2 k3 l2 (rdOf ByteArray.empty t611 x40_2) (wrap64 (x11_3 + 1)) t611 (t611.length : Int) x40_2 l2 (l2.length : Int) (wrap64 (x46_3 + 1))) = some r := by rw [if_pos rfl] at H; exact H
                clear H
                have H := H1
                clear H1
                have H' := mk0 H
                clear H
                have p615 : 0 ≤ (x46_3 : Int) := of_decide_eq_true (by first | (with_reducible assumption) | assumption)
                have q615 : x46_3 < (l2.length : Int) := of_decide_eq_true (by first | (with_reducible assumption) | assumption)
                obtain ⟨ad615, e615, hx615_0⟩ := Kd.at_string HR2.out x46_3 p615 q615
                cases e615
                replace hx615_0 := (HB.out.cell (World.block_lt_of_cell? w _ hx615_0)).trans hx615_0
                replace p615 := eq_true p615
                replace q615 := eq_true q615
                go_wp2_with (first | ((with_reducible refine gate_callee (f := 42) rfl ?_); refine goesL_ (some 52) rfl rfl Tryd.func42 (by kernel_rfl) rfl #[.string (rdOf ByteArray.empty t611 x40_2), .string (rdOf ByteArray.empty l2 x46_3)] rfl (by (try simp only [List.map_toArray, List.map_cons, List.map_nil]); first | done | rfl | (simp only [List.length_drop, List.length_take]; rfl)) ?_; (with_reducible refine (classification_Within.calls k3 (rdOf ByteArray.empty t611 x40_2) (rdOf ByteArray.empty l2 x46_3) true _ ?side1 A31.out).mono ?_); (case side1 => first | exact HG.out | exact GL.below HG.out (by repeat (first | (with_reducible first | exact HB.out | apply b_a | apply b_n | apply b_d | refine below_set ?_ GE606.out) | exact HB.out))); rintro e w33 ⟨rfl, hb⟩; refine ⟨_, rfl, ?_⟩; have n0_ := mk0 (Kd.R_below (by (with_reducible repeat (first | apply r_a | apply r_n | apply r_d)); exact HO_38.out) hb); have n1_ := mk0 (blk_below (g := gb606) (o := .cells #[.string a0_0, .slice A0_1 l0_1.length c0_1] 28 (0, 0)) (by (with_reducible repeat (first | refine blk_drewN ?_ _ | refine blk_drew ?_ | refine blk_alloc ?_ _)); exact BK606.out) hb); have n2_ := mk0 (below_step (by repeat (first | (with_reducible first | exact HB.out | apply b_a | apply b_n | apply b_d | refine below_set ?_ GE606.out) | exact HB.out)) hb); clear HO_38; clear BK606; clear HB; have HO_38 := n0_; have BK606 := n1_; have HB := n2_; clear n0_ n1_ n2_; (try clear hb); (try clear hb2); (try clear hk); (try clear hi)))
                go_roundg k3
                case measure => have := HK1.out; have := HK2.out; have := HK3.out; omega
                case rel => exact ⟨(wrap64 (x11_3 + 1)), (wrap64 (x46_3 + 1)), (by first | rfl | (simp; done) | (simp [*]; done)), (by first | rfl | (simp; done) | (simp [*]; done)), H', ⟨by have := HK1.out; have := HK2.out; have := HK3.out; omega⟩, ⟨by (with_reducible repeat (first | apply r_a | apply r_n | apply r_d)); exact HO_38.out⟩, ⟨by (with_reducible repeat (first | refine blk_drewN ?_ _ | refine blk_drew ?_ | refine blk_alloc ?_ _)); exact BK606.out⟩, ⟨by repeat (first | (with_reducible first | exact HB.out | apply b_a | apply b_n | apply b_d | refine below_set ?_ GE606.out) | exact HB.out)⟩⟩
               ·replace c32 := Bool.eq_false_iff.mpr c32
                subst c32
                have H1 : (classification_Cover.l2 k3 l2 (rdOf ByteArray.empty t611 x40_2) x11_3 t611 (t611.length : Int) x40_2 l2 (l2.length : Int) (wrap64 (x46_3 + 1))) = some r := by rw [if_neg (show ¬ (false = true) by decide)] at H; exact H
                clear H
                have H := H1
                clear H1
                have H' := mk0 H
                clear H
                have p615 : 0 ≤ (x46_3 : Int) := of_decide_eq_true (by first | (with_reducible assumption) | assumption)
                have q615 : x46_3 < (l2.length : Int) := of_decide_eq_true (by first | (with_reducible assumption) | assumption)
                obtain ⟨ad615, e615, hx615_0⟩ := Kd.at_string HR2.out x46_3 p615 q615
                cases e615
                replace hx615_0 := (HB.out.cell (World.block_lt_of_cell? w _ hx615_0)).trans hx615_0
                replace p615 := eq_true p615
                replace q615 := eq_true q615
                go_wp2_with (first | ((with_reducible refine gate_callee (f := 42) rfl ?_); refine goesL_ (some 52) rfl rfl Tryd.func42 (by kernel_rfl) rfl #[.string (rdOf ByteArray.empty t611 x40_2), .string (rdOf ByteArray.empty l2 x46_3)] rfl (by (try simp only [List.map_toArray, List.map_cons, List.map_nil]); first | done | rfl | (simp only [List.length_drop, List.length_take]; rfl)) ?_; (with_reducible refine (classification_Within.calls k3 (rdOf ByteArray.empty t611 x40_2) (rdOf ByteArray.empty l2 x46_3) false _ ?side1 A31.out).mono ?_); (case side1 => first | exact HG.out | exact GL.below HG.out (by repeat (first | (with_reducible first | exact HB.out | apply b_a | apply b_n | apply b_d | refine below_set ?_ GE606.out) | exact HB.out))); rintro e w34 ⟨rfl, hb⟩; refine ⟨_, rfl, ?_⟩; have n0_ := mk0 (Kd.R_below (by (with_reducible repeat (first | apply r_a | apply r_n | apply r_d)); exact HO_38.out) hb); have n1_ := mk0 (blk_below (g := gb606) (o := .cells #[.string a0_0, .slice A0_1 l0_1.length c0_1] 28 (0, 0)) (by (with_reducible repeat (first | refine blk_drewN ?_ _ | refine blk_drew ?_ | refine blk_alloc ?_ _)); exact BK606.out) hb); have n2_ := mk0 (below_step (by repeat (first | (with_reducible first | exact HB.out | apply b_a | apply b_n | apply b_d | refine below_set ?_ GE606.out) | exact HB.out)) hb); clear HO_38; clear BK606; clear HB; have HO_38 := n0_; have BK606 := n1_; have HB := n2_; clear n0_ n1_ n2_; (try clear hb); (try clear hb2); (try clear hk); (try clear hi)))
                go_roundg k3
                case measure => have := HK1.out; have := HK2.out; have := HK3.out; omega
                case rel => exact ⟨(x11_3), (wrap64 (x46_3 + 1)), (by first | rfl | (simp; done) | (simp [*]; done)), (by first | rfl | (simp; done) | (simp [*]; done)), H', ⟨by have := HK1.out; have := HK2.out; have := HK3.out; omega⟩, ⟨by (with_reducible repeat (first | apply r_a | apply r_n | apply r_d)); exact HO_38.out⟩, ⟨by (with_reducible repeat (first | refine blk_drewN ?_ _ | refine blk_drew ?_ | refine blk_alloc ?_ _)); exact BK606.out⟩, ⟨by repeat (first | (with_reducible first | exact HB.out | apply b_a | apply b_n | apply b_d | refine below_set ?_ GE606.out) | exact HB.out)⟩⟩
              ·rw [if_neg c30] at H
               exact absurd H (by simp)
             ·rw [if_neg c29] at H
              exact absurd H (by simp)
            ·rw [if_neg c28] at H
             have c28b0 : decide (x46_3 < (l2.length : Int)) = false := decide_eq_false c28
             clear c28
             by_cases c35 : x11_3 = 1
             ·rw [if_pos c35] at H
              have c35b0 : (x11_3 == 1) = true := beq_iff_eq.mpr c35
              have c35b1 : (x11_3 != 1) = false := bne_eq_false_iff_eq.mpr c35
              clear c35
              have H' := mk0 H
              clear H
              go_wp2
              go_roundg k3
              case measure => have := HK1.out; have := HK2.out; have := HK3.out; omega
              case rel => exact ⟨(wrap64 (x40_2 + 1)), (by first | rfl | (simp; done) | (simp [*]; done)), H', ⟨by have := HK1.out; have := HK2.out; have := HK3.out; omega⟩, ⟨by (with_reducible repeat (first | apply r_a | apply r_n | apply r_d)); exact HO_38.out⟩, ⟨by (with_reducible repeat (first | refine blk_drewN ?_ _ | refine blk_drew ?_ | refine blk_alloc ?_ _)); exact BK606.out⟩, ⟨by repeat (first | (with_reducible first | exact HB.out | apply b_a | apply b_n | apply b_d | refine below_set ?_ GE606.out) | exact HB.out)⟩⟩
             ·rw [if_neg c35] at H
              have c35b0 : (x11_3 == 1) = false := beq_eq_false_iff_ne.mpr c35
              have c35b1 : (x11_3 != 1) = true := bne_iff_ne.mpr c35
              obtain rfl := Option.some.inj H
              go_wp2
              go_ret
              exact ⟨by first | rfl | (simp [errW_none, errW_some] <;> rfl) | (simp [*, errW_none, errW_some] <;> rfl), by repeat (first | (with_reducible first | exact HB.out | apply b_a | apply b_n | apply b_d | refine below_set ?_ GE606.out) | exact HB.out)⟩
         ·rw [if_neg c27] at H
          exact absurd H (by simp)
        ·rw [if_neg c26] at H
         exact absurd H (by simp)
       ·rw [if_neg c25] at H
        have c25b0 : decide (x40_2 < (t611.length : Int)) = false := decide_eq_false c25
        clear c25
        obtain rfl := Option.some.inj H
        go_wp2
        go_ret
        exact ⟨by first | rfl | (simp [errW_none, errW_some] <;> rfl) | (simp [*, errW_none, errW_some] <;> rfl), by repeat (first | (with_reducible first | exact HB.out | apply b_a | apply b_n | apply b_d | refine below_set ?_ GE606.out) | exact HB.out)⟩
 ·replace c5 := Bool.eq_false_iff.mpr c5
  subst c5
  have H1 : (some false) = some r := by rw [if_neg (show ¬ (false = true) by decide)] at H; exact H
  clear H
  have H := H1
  clear H1
  obtain rfl := Option.some.inj H
  go_enter Tryd.func20, Tryd.ntmps20
  go_wp2_with (first | ((with_reducible refine gate_dst (N := 3) rfl ?_); refine box_event ?hg (N := 3) ?hd (cs := #[.string a0_0, .slice A0_1 l0_1.length c0_1]) (t := 28) ?hr ?_; (case hd => rfl); (case hg => rfl); (case hr => first | (go_simp; done) | (go_simp; rfl)); intro gb606 hg w36 hbox hb; have n0_ := mk0 (below_step (by repeat (first | (with_reducible first | exact HB.out | apply b_a | apply b_n | apply b_d) | exact HB.out)) hb); have n1_ := mk0 (hbox); have n2_ := mk0 ((by rw [hg]; exact (below_size (by repeat (first | (with_reducible first | exact HB.out | apply b_a | apply b_n | apply b_d) | exact HB.out))) : w.heap.size ≤ gb606)); have n3_ := mk0 ((by rw [hg]; exact (below_size (by repeat (first | (with_reducible first | exact HB.out | apply b_a | apply b_n | apply b_d) | exact HB.out))) : w.heap.size ≤ gb606)); clear HB; have HB := n0_; have BK606 := n1_; have GW606 := n2_; have GE606 := n3_; clear n0_ n1_ n2_ n3_; clear hb hbox hg; have hcz37_0 : w36.cell? ⟨gb606, 0, none⟩ = some (.string a0_0) := (blk_cell BK606.out 0).trans rfl; have hcz37_1 : w36.cell? ⟨gb606, 1, none⟩ = some (.slice A0_1 l0_1.length c0_1) := (blk_cell BK606.out 1).trans rfl; have hfz37_0 := blk_frozen BK606.out 0; have hfz37_1 := blk_frozen BK606.out 1) | ((with_reducible refine gate_callee (f := 49) rfl ?_); refine goesL_ (some 16) rfl rfl Tryd.func49 (by kernel_rfl) rfl #[.agg #[.string a0_0, .slice A0_1 l0_1.length c0_1], .string a1] rfl (by (try simp only [List.map_toArray, List.map_cons, List.map_nil]); first | done | rfl | (simp only [List.length_drop, List.length_take]; rfl)) ?_; (with_reducible refine (classification_has.calls k a0_0 _ _ l0_1 a1 false _ ?side1 ?side2 ?side3 A4.out).mono ?_); (case side1 => repeat (first | exact (Kd.C_below HR0_1.out HB.out) | (with_reducible refine Kd.C_alloc ?_ _) | (with_reducible refine Kd.C_drewN ?_ _) | (with_reducible refine Kd.C_drew ?_))); (case side2 => exact HC0_1.out); (case side3 => first | exact HG.out | exact GL.below HG.out (by repeat (first | (with_reducible first | exact HB.out | apply b_a | apply b_n | apply b_d | refine below_set ?_ GE606.out) | exact HB.out))); rintro e w38 ⟨rfl, hb⟩; refine ⟨_, rfl, ?_⟩; have n0_ := mk0 (blk_below (g := gb606) (o := .cells #[.string a0_0, .slice A0_1 l0_1.length c0_1] 28 (0, 0)) (by (with_reducible repeat (first | refine blk_drewN ?_ _ | refine blk_drew ?_ | refine blk_alloc ?_ _)); exact BK606.out) hb); have n1_ := mk0 (below_step (by repeat (first | (with_reducible first | exact HB.out | apply b_a | apply b_n | apply b_d | refine below_set ?_ GE606.out) | exact HB.out)) hb); clear BK606; clear HB; have BK606 := n0_; have HB := n1_; clear n0_ n1_; (try clear hb); (try clear hb2); (try clear hk); (try clear hi)))
  go_ret
  exact ⟨by first | rfl | (simp [errW_none, errW_some] <;> rfl) | (simp [*, errW_none, errW_some] <;> rfl), by repeat (first | (with_reducible first | exact HB.out | apply b_a | apply b_n | apply b_d | refine below_set ?_ GE606.out) | exact HB.out)⟩

/-! ### priceofficeref06_known: function 51 -/
def priceofficeref06_known.f (k : Nat) (a0_0 : ByteArray) (l0_1 : List ByteArray) (a1 : ByteArray) : Option (Bool) := (priceofficeref06_Validate.f k a0_0 l0_1).bind fun t618 => (if t618 = 0 then (if a1.toList = ([] : List UInt8) then (some true) else ((priceofficeref06_has.f k l0_1 a1).bind fun t619 => (some t619))) else (some false))
theorem priceofficeref06_known.mono : ∀ a0 a1 a2 k, LeO (priceofficeref06_known.f k a0 a1 a2) (priceofficeref06_known.f (k + 1) a0 a1 a2) := by
 intro a0 a1 a2 k
 unfold priceofficeref06_known.f
 repeat' first
   | (with_reducible exact priceofficeref06_Validate.mono _ _ _)
   | (with_reducible exact priceofficeref06_has.mono _ _ _)
   | (with_reducible exact LeO.refl _)
   | (with_reducible exact LeO.none _)
   | (with_reducible refine LeO.ite ?_ ?_)
   | (with_reducible refine LeO.bind ?_ (fun _ => ?_))
   | exact priceofficeref06_Validate.mono _ _ _
   | exact priceofficeref06_has.mono _ _ _
   | exact LeO.none _
   | refine LeO.ite ?_ ?_
   | refine LeO.bind ?_ (fun _ => ?_)
set_option maxHeartbeats 8000000 in
set_option maxRecDepth 100000 in
theorem priceofficeref06_known.calls (k : Nat) (a0_0 : ByteArray) (A0_1 : Option Addr) (c0_1 : Nat) (l0_1 : List ByteArray) (a1 : ByteArray) (r : Bool) (w : World) (hr0_1 : Kd.C Kd.string w A0_1 l0_1.length l0_1) (hc0_1 : l0_1.length ≤ c0_1) (h : priceofficeref06_known.f k a0_0 l0_1 a1 = some r) :
  Calls Tryd.prog 51 #[.agg #[.string a0_0, .slice A0_1 l0_1.length c0_1], .string a1] w fun e w' => e = .returned (.bool r) ∧ Below w.heap.size w w' := by
 have hu28 := Tryd.underlying28
 have HR0_1 := mk0 hr0_1
 have HC0_1 := mk0 hc0_1
 clear hr0_1 hc0_1
 have HB := mk0 (Below.refl w.heap.size w)
 have H : ((priceofficeref06_Validate.f k a0_0 l0_1).bind fun t618 => (if t618 = 0 then (if a1.toList = ([] : List UInt8) then (some true) else ((priceofficeref06_has.f k l0_1 a1).bind fun t619 => (some t619))) else (some false))) = some r := h
 clear h
 replace H := Option.bind_eq_some_iff.mp H
 obtain ⟨t618, A30, H⟩ := H
 replace H : (if t618 = 0 then (if a1.toList = ([] : List UInt8) then (some true) else ((priceofficeref06_has.f k l0_1 a1).bind fun t619 => (some t619))) else (some false)) = some r := H
 have A3 := mk0 A30
 clear A30
 by_cases c4 : t618 = 0
 ·rw [if_pos c4] at H
  have c4b0 : (t618 == 0) = true := beq_iff_eq.mpr c4
  have c4b1 : (t618 != 0) = false := bne_eq_false_iff_eq.mpr c4
  clear c4
  by_cases c5 : a1.toList = ([] : List UInt8)
  ·rw [if_pos c5] at H
   have c5b0 : (a1.toList == ([] : List UInt8)) = true := beq_iff_eq.mpr c5
   have c5b1 : (a1.toList != ([] : List UInt8)) = false := bne_eq_false_iff_eq.mpr c5
   clear c5
   obtain rfl := Option.some.inj H
   go_enter Tryd.func51, Tryd.ntmps51
   go_wp2_with (first | ((with_reducible refine gate_dst (N := 2) rfl ?_); refine box_event ?hg (N := 2) ?hd (cs := #[.string a0_0, .slice A0_1 l0_1.length c0_1]) (t := 28) ?hr ?_; (case hd => rfl); (case hg => rfl); (case hr => first | (go_simp; done) | (go_simp; rfl)); intro gb617 hg w6 hbox hb; have n0_ := mk0 (below_step (by repeat (first | (with_reducible first | exact HB.out | apply b_a | apply b_n | apply b_d) | exact HB.out)) hb); have n1_ := mk0 (hbox); have n2_ := mk0 ((by rw [hg]; exact (below_size (by repeat (first | (with_reducible first | exact HB.out | apply b_a | apply b_n | apply b_d) | exact HB.out))) : w.heap.size ≤ gb617)); have n3_ := mk0 ((by rw [hg]; exact (below_size (by repeat (first | (with_reducible first | exact HB.out | apply b_a | apply b_n | apply b_d) | exact HB.out))) : w.heap.size ≤ gb617)); clear HB; have HB := n0_; have BK617 := n1_; have GW617 := n2_; have GE617 := n3_; clear n0_ n1_ n2_ n3_; clear hb hbox hg; have hcz7_0 : w6.cell? ⟨gb617, 0, none⟩ = some (.string a0_0) := (blk_cell BK617.out 0).trans rfl; have hcz7_1 : w6.cell? ⟨gb617, 1, none⟩ = some (.slice A0_1 l0_1.length c0_1) := (blk_cell BK617.out 1).trans rfl; have hfz7_0 := blk_frozen BK617.out 0; have hfz7_1 := blk_frozen BK617.out 1) | ((with_reducible refine gate_callee (f := 39) rfl ?_); refine goesL_ (some 6) rfl rfl Tryd.func39 (by kernel_rfl) rfl #[.agg #[.string a0_0, .slice A0_1 l0_1.length c0_1]] rfl (by (try simp only [List.map_toArray, List.map_cons, List.map_nil]); first | done | rfl | (simp only [List.length_drop, List.length_take]; rfl)) ?_; (with_reducible refine (priceofficeref06_Validate.calls k a0_0 _ _ l0_1 t618 _ ?side1 ?side2 A3.out).mono ?_); (case side1 => repeat (first | exact (Kd.C_below HR0_1.out HB.out) | (with_reducible refine Kd.C_alloc ?_ _) | (with_reducible refine Kd.C_drewN ?_ _) | (with_reducible refine Kd.C_drew ?_))); (case side2 => exact HC0_1.out); rintro e w8 ⟨rfl, hb⟩; refine ⟨_, rfl, ?_⟩; have n0_ := mk0 (blk_below (g := gb617) (o := .cells #[.string a0_0, .slice A0_1 l0_1.length c0_1] 28 (0, 0)) (by (with_reducible repeat (first | refine blk_drewN ?_ _ | refine blk_drew ?_ | refine blk_alloc ?_ _)); exact BK617.out) hb); have n1_ := mk0 (below_step (by repeat (first | (with_reducible first | exact HB.out | apply b_a | apply b_n | apply b_d | refine below_set ?_ GE617.out) | exact HB.out)) hb); clear BK617; clear HB; have BK617 := n0_; have HB := n1_; clear n0_ n1_; (try clear hb); (try clear hb2); (try clear hk); (try clear hi)))
   go_ret
   exact ⟨by first | rfl | (simp [errW_none, errW_some] <;> rfl) | (simp [*, errW_none, errW_some] <;> rfl), by repeat (first | (with_reducible first | exact HB.out | apply b_a | apply b_n | apply b_d | refine below_set ?_ GE617.out) | exact HB.out)⟩
  ·rw [if_neg c5] at H
   have c5b0 : (a1.toList == ([] : List UInt8)) = false := beq_eq_false_iff_ne.mpr c5
   have c5b1 : (a1.toList != ([] : List UInt8)) = true := bne_iff_ne.mpr c5
   replace H := Option.bind_eq_some_iff.mp H
   obtain ⟨t619, A90, H⟩ := H
   replace H : (some t619) = some r := H
   have A9 := mk0 A90
   clear A90
   obtain rfl := Option.some.inj H
   go_enter Tryd.func51, Tryd.ntmps51
   go_wp2_with (first | ((with_reducible refine gate_dst (N := 2) rfl ?_); refine box_event ?hg (N := 2) ?hd (cs := #[.string a0_0, .slice A0_1 l0_1.length c0_1]) (t := 28) ?hr ?_; (case hd => rfl); (case hg => rfl); (case hr => first | (go_simp; done) | (go_simp; rfl)); intro gb617 hg w10 hbox hb; have n0_ := mk0 (below_step (by repeat (first | (with_reducible first | exact HB.out | apply b_a | apply b_n | apply b_d) | exact HB.out)) hb); have n1_ := mk0 (hbox); have n2_ := mk0 ((by rw [hg]; exact (below_size (by repeat (first | (with_reducible first | exact HB.out | apply b_a | apply b_n | apply b_d) | exact HB.out))) : w.heap.size ≤ gb617)); have n3_ := mk0 ((by rw [hg]; exact (below_size (by repeat (first | (with_reducible first | exact HB.out | apply b_a | apply b_n | apply b_d) | exact HB.out))) : w.heap.size ≤ gb617)); clear HB; have HB := n0_; have BK617 := n1_; have GW617 := n2_; have GE617 := n3_; clear n0_ n1_ n2_ n3_; clear hb hbox hg; have hcz11_0 : w10.cell? ⟨gb617, 0, none⟩ = some (.string a0_0) := (blk_cell BK617.out 0).trans rfl; have hcz11_1 : w10.cell? ⟨gb617, 1, none⟩ = some (.slice A0_1 l0_1.length c0_1) := (blk_cell BK617.out 1).trans rfl; have hfz11_0 := blk_frozen BK617.out 0; have hfz11_1 := blk_frozen BK617.out 1) | ((with_reducible refine gate_callee (f := 39) rfl ?_); refine goesL_ (some 6) rfl rfl Tryd.func39 (by kernel_rfl) rfl #[.agg #[.string a0_0, .slice A0_1 l0_1.length c0_1]] rfl (by (try simp only [List.map_toArray, List.map_cons, List.map_nil]); first | done | rfl | (simp only [List.length_drop, List.length_take]; rfl)) ?_; (with_reducible refine (priceofficeref06_Validate.calls k a0_0 _ _ l0_1 t618 _ ?side1 ?side2 A3.out).mono ?_); (case side1 => repeat (first | exact (Kd.C_below HR0_1.out HB.out) | (with_reducible refine Kd.C_alloc ?_ _) | (with_reducible refine Kd.C_drewN ?_ _) | (with_reducible refine Kd.C_drew ?_))); (case side2 => exact HC0_1.out); rintro e w12 ⟨rfl, hb⟩; refine ⟨_, rfl, ?_⟩; have n0_ := mk0 (blk_below (g := gb617) (o := .cells #[.string a0_0, .slice A0_1 l0_1.length c0_1] 28 (0, 0)) (by (with_reducible repeat (first | refine blk_drewN ?_ _ | refine blk_drew ?_ | refine blk_alloc ?_ _)); exact BK617.out) hb); have n1_ := mk0 (below_step (by repeat (first | (with_reducible first | exact HB.out | apply b_a | apply b_n | apply b_d | refine below_set ?_ GE617.out) | exact HB.out)) hb); clear BK617; clear HB; have BK617 := n0_; have HB := n1_; clear n0_ n1_; (try clear hb); (try clear hb2); (try clear hk); (try clear hi); have hcz13_0 : w12.cell? ⟨gb617, 0, none⟩ = some (.string a0_0) := (blk_cell BK617.out 0).trans rfl; have hcz13_1 : w12.cell? ⟨gb617, 1, none⟩ = some (.slice A0_1 l0_1.length c0_1) := (blk_cell BK617.out 1).trans rfl; have hfz13_0 := blk_frozen BK617.out 0; have hfz13_1 := blk_frozen BK617.out 1) | (go_at_call 52; (with_reducible refine (priceofficeref06_has.calls k _ _ l0_1 a1 t619 _ ?side1 ?side2 A9.out).mono ?_); (case side1 => repeat (first | exact (Kd.C_below HR0_1.out HB.out) | (with_reducible refine Kd.C_alloc ?_ _) | (with_reducible refine Kd.C_drewN ?_ _) | (with_reducible refine Kd.C_drew ?_))); (case side2 => exact HC0_1.out); rintro e w' ⟨rfl, ⟨nd, rfl⟩⟩))
   go_ret
   exact ⟨by first | rfl | (simp [errW_none, errW_some] <;> rfl) | (simp [*, errW_none, errW_some] <;> rfl), by repeat (first | (with_reducible first | exact HB.out | apply b_a | apply b_n | apply b_d | refine below_set ?_ GE617.out) | exact HB.out)⟩
 ·rw [if_neg c4] at H
  have c4b0 : (t618 == 0) = false := beq_eq_false_iff_ne.mpr c4
  have c4b1 : (t618 != 0) = true := bne_iff_ne.mpr c4
  obtain rfl := Option.some.inj H
  go_enter Tryd.func51, Tryd.ntmps51
  go_wp2_with (first | ((with_reducible refine gate_dst (N := 2) rfl ?_); refine box_event ?hg (N := 2) ?hd (cs := #[.string a0_0, .slice A0_1 l0_1.length c0_1]) (t := 28) ?hr ?_; (case hd => rfl); (case hg => rfl); (case hr => first | (go_simp; done) | (go_simp; rfl)); intro gb617 hg w14 hbox hb; have n0_ := mk0 (below_step (by repeat (first | (with_reducible first | exact HB.out | apply b_a | apply b_n | apply b_d) | exact HB.out)) hb); have n1_ := mk0 (hbox); have n2_ := mk0 ((by rw [hg]; exact (below_size (by repeat (first | (with_reducible first | exact HB.out | apply b_a | apply b_n | apply b_d) | exact HB.out))) : w.heap.size ≤ gb617)); have n3_ := mk0 ((by rw [hg]; exact (below_size (by repeat (first | (with_reducible first | exact HB.out | apply b_a | apply b_n | apply b_d) | exact HB.out))) : w.heap.size ≤ gb617)); clear HB; have HB := n0_; have BK617 := n1_; have GW617 := n2_; have GE617 := n3_; clear n0_ n1_ n2_ n3_; clear hb hbox hg; have hcz15_0 : w14.cell? ⟨gb617, 0, none⟩ = some (.string a0_0) := (blk_cell BK617.out 0).trans rfl; have hcz15_1 : w14.cell? ⟨gb617, 1, none⟩ = some (.slice A0_1 l0_1.length c0_1) := (blk_cell BK617.out 1).trans rfl; have hfz15_0 := blk_frozen BK617.out 0; have hfz15_1 := blk_frozen BK617.out 1) | ((with_reducible refine gate_callee (f := 39) rfl ?_); refine goesL_ (some 6) rfl rfl Tryd.func39 (by kernel_rfl) rfl #[.agg #[.string a0_0, .slice A0_1 l0_1.length c0_1]] rfl (by (try simp only [List.map_toArray, List.map_cons, List.map_nil]); first | done | rfl | (simp only [List.length_drop, List.length_take]; rfl)) ?_; (with_reducible refine (priceofficeref06_Validate.calls k a0_0 _ _ l0_1 t618 _ ?side1 ?side2 A3.out).mono ?_); (case side1 => repeat (first | exact (Kd.C_below HR0_1.out HB.out) | (with_reducible refine Kd.C_alloc ?_ _) | (with_reducible refine Kd.C_drewN ?_ _) | (with_reducible refine Kd.C_drew ?_))); (case side2 => exact HC0_1.out); rintro e w16 ⟨rfl, hb⟩; refine ⟨_, rfl, ?_⟩; have n0_ := mk0 (blk_below (g := gb617) (o := .cells #[.string a0_0, .slice A0_1 l0_1.length c0_1] 28 (0, 0)) (by (with_reducible repeat (first | refine blk_drewN ?_ _ | refine blk_drew ?_ | refine blk_alloc ?_ _)); exact BK617.out) hb); have n1_ := mk0 (below_step (by repeat (first | (with_reducible first | exact HB.out | apply b_a | apply b_n | apply b_d | refine below_set ?_ GE617.out) | exact HB.out)) hb); clear BK617; clear HB; have BK617 := n0_; have HB := n1_; clear n0_ n1_; (try clear hb); (try clear hb2); (try clear hk); (try clear hi)))
  go_ret
  exact ⟨by first | rfl | (simp [errW_none, errW_some] <;> rfl) | (simp [*, errW_none, errW_some] <;> rfl), by repeat (first | (with_reducible first | exact HB.out | apply b_a | apply b_n | apply b_d | refine below_set ?_ GE617.out) | exact HB.out)⟩

end Go.Proofs.YtpnoliognpmkmaaDoor.P
