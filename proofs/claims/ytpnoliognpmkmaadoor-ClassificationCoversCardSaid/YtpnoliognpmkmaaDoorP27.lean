/- Lean functions with the same answers as the program's Go functions, and for each the proof that the call comes to these answers; written by a program of mine out of the translation, the functions marked 'by hand' by me. -/
import Derived.Test.YtpnoliognpmkmaaDoorP0
import Derived.Test.YtpnoliognpmkmaaDoorP17
namespace Go.Proofs.YtpnoliognpmkmaaDoor.P
open Go.RowKit Go.Proofs.YtpnoliognpmkmaaDoorW.PrintWords Go.Proofs.YtpnoliognpmkmaaDoorW.PrintLast Go.Proofs.YtpnoliognpmkmaaDoorW.PrintMore
attribute [local go_sem] max2_int min2_int max_two min_two max_three min_three max_four min_four   -- for this text's walks alone
set_option linter.unusedVariables false
set_option linter.unusedSimpArgs false

/-! ### classification_has: function 49 -/
def classification_has.f (k : Nat) (a0_0 : ByteArray) (l0_1 : List ByteArray) (a1 : ByteArray) : Option (Bool) := (classification_Validate.f k a0_0 l0_1).bind fun t565 => (if t565 = 0 then (if a1.toList = ([] : List UInt8) then (some true) else ((slices_Contains_string_string.f k l0_1 a1).bind fun t566 => (some t566))) else (some false))
theorem classification_has.mono : ∀ a0 a1 a2 k, LeO (classification_has.f k a0 a1 a2) (classification_has.f (k + 1) a0 a1 a2) := by
 intro a0 a1 a2 k
 unfold classification_has.f
 repeat' first
   | (with_reducible exact classification_Validate.mono _ _ _)
   | (with_reducible exact slices_Contains_string_string.mono _ _ _)
   | (with_reducible exact LeO.refl _)
   | (with_reducible exact LeO.none _)
   | (with_reducible refine LeO.ite ?_ ?_)
   | (with_reducible refine LeO.bind ?_ (fun _ => ?_))
   | exact classification_Validate.mono _ _ _
   | exact slices_Contains_string_string.mono _ _ _
   | exact LeO.none _
   | refine LeO.ite ?_ ?_
   | refine LeO.bind ?_ (fun _ => ?_)
set_option maxHeartbeats 8000000 in
set_option maxRecDepth 100000 in
theorem classification_has.calls (k : Nat) (a0_0 : ByteArray) (A0_1 : Option Addr) (c0_1 : Nat) (l0_1 : List ByteArray) (a1 : ByteArray) (r : Bool) (w : World) (hr0_1 : Kd.C Kd.string w A0_1 l0_1.length l0_1) (hc0_1 : l0_1.length ≤ c0_1) (hG : GL w) (h : classification_has.f k a0_0 l0_1 a1 = some r) :
  Calls Tryd.prog 49 #[.agg #[.string a0_0, .slice A0_1 l0_1.length c0_1], .string a1] w fun e w' => e = .returned (.bool r) ∧ Below w.heap.size w w' := by
 have HG := mk0 hG
 clear hG
 have hu28 := Tryd.underlying28
 have HR0_1 := mk0 hr0_1
 have HC0_1 := mk0 hc0_1
 clear hr0_1 hc0_1
 have HB := mk0 (Below.refl w.heap.size w)
 have H : ((classification_Validate.f k a0_0 l0_1).bind fun t565 => (if t565 = 0 then (if a1.toList = ([] : List UInt8) then (some true) else ((slices_Contains_string_string.f k l0_1 a1).bind fun t566 => (some t566))) else (some false))) = some r := h
 clear h
 replace H := Option.bind_eq_some_iff.mp H
 obtain ⟨t565, A30, H⟩ := H
 replace H : (if t565 = 0 then (if a1.toList = ([] : List UInt8) then (some true) else ((slices_Contains_string_string.f k l0_1 a1).bind fun t566 => (some t566))) else (some false)) = some r := H
 have A3 := mk0 A30
 clear A30
 by_cases c4 : t565 = 0
 ·rw [if_pos c4] at H
  have c4b0 : (t565 == 0) = true := beq_iff_eq.mpr c4
  have c4b1 : (t565 != 0) = false := bne_eq_false_iff_eq.mpr c4
  clear c4
  by_cases c5 : a1.toList = ([] : List UInt8)
  ·rw [if_pos c5] at H
   have c5b0 : (a1.toList == ([] : List UInt8)) = true := beq_iff_eq.mpr c5
   have c5b1 : (a1.toList != ([] : List UInt8)) = false := bne_eq_false_iff_eq.mpr c5
   clear c5
   obtain rfl := Option.some.inj H
   go_enter Tryd.func49, Tryd.ntmps49
   go_wp2_with (first | ((with_reducible refine gate_dst (N := 2) rfl ?_); refine box_event ?hg (N := 2) ?hd (cs := #[.string a0_0, .slice A0_1 l0_1.length c0_1]) (t := 28) ?hr ?_; (case hd => rfl); (case hg => rfl); (case hr => first | (go_simp; done) | (go_simp; rfl)); intro gb564 hg w6 hbox hb; have n0_ := mk0 (below_step (by repeat (first | (with_reducible first | exact HB.out | apply b_a | apply b_n | apply b_d) | exact HB.out)) hb); have n1_ := mk0 (hbox); have n2_ := mk0 ((by rw [hg]; exact (below_size (by repeat (first | (with_reducible first | exact HB.out | apply b_a | apply b_n | apply b_d) | exact HB.out))) : w.heap.size ≤ gb564)); have n3_ := mk0 ((by rw [hg]; exact (below_size (by repeat (first | (with_reducible first | exact HB.out | apply b_a | apply b_n | apply b_d) | exact HB.out))) : w.heap.size ≤ gb564)); clear HB; have HB := n0_; have BK564 := n1_; have GW564 := n2_; have GE564 := n3_; clear n0_ n1_ n2_ n3_; clear hb hbox hg; have hcz7_0 : w6.cell? ⟨gb564, 0, none⟩ = some (.string a0_0) := (blk_cell BK564.out 0).trans rfl; have hcz7_1 : w6.cell? ⟨gb564, 1, none⟩ = some (.slice A0_1 l0_1.length c0_1) := (blk_cell BK564.out 1).trans rfl; have hfz7_0 := blk_frozen BK564.out 0; have hfz7_1 := blk_frozen BK564.out 1) | ((with_reducible refine gate_callee (f := 38) rfl ?_); refine goesL_ (some 6) rfl rfl Tryd.func38 (by kernel_rfl) rfl #[.agg #[.string a0_0, .slice A0_1 l0_1.length c0_1]] rfl (by (try simp only [List.map_toArray, List.map_cons, List.map_nil]); first | done | rfl | (simp only [List.length_drop, List.length_take]; rfl)) ?_; (with_reducible refine (classification_Validate.calls k a0_0 _ _ l0_1 t565 _ ?side1 ?side2 ?side3 A3.out).mono ?_); (case side1 => repeat (first | exact (Kd.C_below HR0_1.out HB.out) | (with_reducible refine Kd.C_alloc ?_ _) | (with_reducible refine Kd.C_drewN ?_ _) | (with_reducible refine Kd.C_drew ?_))); (case side2 => exact HC0_1.out); (case side3 => first | exact HG.out | exact GL.below HG.out (by repeat (first | (with_reducible first | exact HB.out | apply b_a | apply b_n | apply b_d | refine below_set ?_ GE564.out) | exact HB.out))); rintro e w8 ⟨rfl, hb⟩; refine ⟨_, rfl, ?_⟩; have n0_ := mk0 (blk_below (g := gb564) (o := .cells #[.string a0_0, .slice A0_1 l0_1.length c0_1] 28 (0, 0)) (by (with_reducible repeat (first | refine blk_drewN ?_ _ | refine blk_drew ?_ | refine blk_alloc ?_ _)); exact BK564.out) hb); have n1_ := mk0 (below_step (by repeat (first | (with_reducible first | exact HB.out | apply b_a | apply b_n | apply b_d | refine below_set ?_ GE564.out) | exact HB.out)) hb); clear BK564; clear HB; have BK564 := n0_; have HB := n1_; clear n0_ n1_; (try clear hb); (try clear hb2); (try clear hk); (try clear hi)))
   go_ret
   exact ⟨by first | rfl | (simp [errW_none, errW_some] <;> rfl) | (simp [*, errW_none, errW_some] <;> rfl), by repeat (first | (with_reducible first | exact HB.out | apply b_a | apply b_n | apply b_d | refine below_set ?_ GE564.out) | exact HB.out)⟩
  ·rw [if_neg c5] at H
   have c5b0 : (a1.toList == ([] : List UInt8)) = false := beq_eq_false_iff_ne.mpr c5
   have c5b1 : (a1.toList != ([] : List UInt8)) = true := bne_iff_ne.mpr c5
   replace H := Option.bind_eq_some_iff.mp H
   obtain ⟨t566, A90, H⟩ := H
   replace H : (some t566) = some r := H
   have A9 := mk0 A90
   clear A90
   obtain rfl := Option.some.inj H
   go_enter Tryd.func49, Tryd.ntmps49
   go_wp2_with (first | ((with_reducible refine gate_dst (N := 2) rfl ?_); refine box_event ?hg (N := 2) ?hd (cs := #[.string a0_0, .slice A0_1 l0_1.length c0_1]) (t := 28) ?hr ?_; (case hd => rfl); (case hg => rfl); (case hr => first | (go_simp; done) | (go_simp; rfl)); intro gb564 hg w10 hbox hb; have n0_ := mk0 (below_step (by repeat (first | (with_reducible first | exact HB.out | apply b_a | apply b_n | apply b_d) | exact HB.out)) hb); have n1_ := mk0 (hbox); have n2_ := mk0 ((by rw [hg]; exact (below_size (by repeat (first | (with_reducible first | exact HB.out | apply b_a | apply b_n | apply b_d) | exact HB.out))) : w.heap.size ≤ gb564)); have n3_ := mk0 ((by rw [hg]; exact (below_size (by repeat (first | (with_reducible first | exact HB.out | apply b_a | apply b_n | apply b_d) | exact HB.out))) : w.heap.size ≤ gb564)); clear HB; have HB := n0_; have BK564 := n1_; have GW564 := n2_; have GE564 := n3_; clear n0_ n1_ n2_ n3_; clear hb hbox hg; have hcz11_0 : w10.cell? ⟨gb564, 0, none⟩ = some (.string a0_0) := (blk_cell BK564.out 0).trans rfl; have hcz11_1 : w10.cell? ⟨gb564, 1, none⟩ = some (.slice A0_1 l0_1.length c0_1) := (blk_cell BK564.out 1).trans rfl; have hfz11_0 := blk_frozen BK564.out 0; have hfz11_1 := blk_frozen BK564.out 1) | ((with_reducible refine gate_callee (f := 38) rfl ?_); refine goesL_ (some 6) rfl rfl Tryd.func38 (by kernel_rfl) rfl #[.agg #[.string a0_0, .slice A0_1 l0_1.length c0_1]] rfl (by (try simp only [List.map_toArray, List.map_cons, List.map_nil]); first | done | rfl | (simp only [List.length_drop, List.length_take]; rfl)) ?_; (with_reducible refine (classification_Validate.calls k a0_0 _ _ l0_1 t565 _ ?side1 ?side2 ?side3 A3.out).mono ?_); (case side1 => repeat (first | exact (Kd.C_below HR0_1.out HB.out) | (with_reducible refine Kd.C_alloc ?_ _) | (with_reducible refine Kd.C_drewN ?_ _) | (with_reducible refine Kd.C_drew ?_))); (case side2 => exact HC0_1.out); (case side3 => first | exact HG.out | exact GL.below HG.out (by repeat (first | (with_reducible first | exact HB.out | apply b_a | apply b_n | apply b_d | refine below_set ?_ GE564.out) | exact HB.out))); rintro e w12 ⟨rfl, hb⟩; refine ⟨_, rfl, ?_⟩; have n0_ := mk0 (blk_below (g := gb564) (o := .cells #[.string a0_0, .slice A0_1 l0_1.length c0_1] 28 (0, 0)) (by (with_reducible repeat (first | refine blk_drewN ?_ _ | refine blk_drew ?_ | refine blk_alloc ?_ _)); exact BK564.out) hb); have n1_ := mk0 (below_step (by repeat (first | (with_reducible first | exact HB.out | apply b_a | apply b_n | apply b_d | refine below_set ?_ GE564.out) | exact HB.out)) hb); clear BK564; clear HB; have BK564 := n0_; have HB := n1_; clear n0_ n1_; (try clear hb); (try clear hb2); (try clear hk); (try clear hi); have hcz13_0 : w12.cell? ⟨gb564, 0, none⟩ = some (.string a0_0) := (blk_cell BK564.out 0).trans rfl; have hcz13_1 : w12.cell? ⟨gb564, 1, none⟩ = some (.slice A0_1 l0_1.length c0_1) := (blk_cell BK564.out 1).trans rfl; have hfz13_0 := blk_frozen BK564.out 0; have hfz13_1 := blk_frozen BK564.out 1) | (go_at_call 50; (with_reducible refine (slices_Contains_string_string.calls k _ _ l0_1 a1 t566 _ ?side1 ?side2 A9.out).mono ?_); (case side1 => repeat (first | exact (Kd.C_below HR0_1.out HB.out) | (with_reducible refine Kd.C_alloc ?_ _) | (with_reducible refine Kd.C_drewN ?_ _) | (with_reducible refine Kd.C_drew ?_))); (case side2 => exact HC0_1.out); rintro e w' ⟨rfl, ⟨nd, rfl⟩⟩))
   go_ret
   exact ⟨by first | rfl | (simp [errW_none, errW_some] <;> rfl) | (simp [*, errW_none, errW_some] <;> rfl), by repeat (first | (with_reducible first | exact HB.out | apply b_a | apply b_n | apply b_d | refine below_set ?_ GE564.out) | exact HB.out)⟩
 ·rw [if_neg c4] at H
  have c4b0 : (t565 == 0) = false := beq_eq_false_iff_ne.mpr c4
  have c4b1 : (t565 != 0) = true := bne_iff_ne.mpr c4
  obtain rfl := Option.some.inj H
  go_enter Tryd.func49, Tryd.ntmps49
  go_wp2_with (first | ((with_reducible refine gate_dst (N := 2) rfl ?_); refine box_event ?hg (N := 2) ?hd (cs := #[.string a0_0, .slice A0_1 l0_1.length c0_1]) (t := 28) ?hr ?_; (case hd => rfl); (case hg => rfl); (case hr => first | (go_simp; done) | (go_simp; rfl)); intro gb564 hg w14 hbox hb; have n0_ := mk0 (below_step (by repeat (first | (with_reducible first | exact HB.out | apply b_a | apply b_n | apply b_d) | exact HB.out)) hb); have n1_ := mk0 (hbox); have n2_ := mk0 ((by rw [hg]; exact (below_size (by repeat (first | (with_reducible first | exact HB.out | apply b_a | apply b_n | apply b_d) | exact HB.out))) : w.heap.size ≤ gb564)); have n3_ := mk0 ((by rw [hg]; exact (below_size (by repeat (first | (with_reducible first | exact HB.out | apply b_a | apply b_n | apply b_d) | exact HB.out))) : w.heap.size ≤ gb564)); clear HB; have HB := n0_; have BK564 := n1_; have GW564 := n2_; have GE564 := n3_; clear n0_ n1_ n2_ n3_; clear hb hbox hg; have hcz15_0 : w14.cell? ⟨gb564, 0, none⟩ = some (.string a0_0) := (blk_cell BK564.out 0).trans rfl; have hcz15_1 : w14.cell? ⟨gb564, 1, none⟩ = some (.slice A0_1 l0_1.length c0_1) := (blk_cell BK564.out 1).trans rfl; have hfz15_0 := blk_frozen BK564.out 0; have hfz15_1 := blk_frozen BK564.out 1) | ((with_reducible refine gate_callee (f := 38) rfl ?_); refine goesL_ (some 6) rfl rfl Tryd.func38 (by kernel_rfl) rfl #[.agg #[.string a0_0, .slice A0_1 l0_1.length c0_1]] rfl (by (try simp only [List.map_toArray, List.map_cons, List.map_nil]); first | done | rfl | (simp only [List.length_drop, List.length_take]; rfl)) ?_; (with_reducible refine (classification_Validate.calls k a0_0 _ _ l0_1 t565 _ ?side1 ?side2 ?side3 A3.out).mono ?_); (case side1 => repeat (first | exact (Kd.C_below HR0_1.out HB.out) | (with_reducible refine Kd.C_alloc ?_ _) | (with_reducible refine Kd.C_drewN ?_ _) | (with_reducible refine Kd.C_drew ?_))); (case side2 => exact HC0_1.out); (case side3 => first | exact HG.out | exact GL.below HG.out (by repeat (first | (with_reducible first | exact HB.out | apply b_a | apply b_n | apply b_d | refine below_set ?_ GE564.out) | exact HB.out))); rintro e w16 ⟨rfl, hb⟩; refine ⟨_, rfl, ?_⟩; have n0_ := mk0 (blk_below (g := gb564) (o := .cells #[.string a0_0, .slice A0_1 l0_1.length c0_1] 28 (0, 0)) (by (with_reducible repeat (first | refine blk_drewN ?_ _ | refine blk_drew ?_ | refine blk_alloc ?_ _)); exact BK564.out) hb); have n1_ := mk0 (below_step (by repeat (first | (with_reducible first | exact HB.out | apply b_a | apply b_n | apply b_d | refine below_set ?_ GE564.out) | exact HB.out)) hb); clear BK564; clear HB; have BK564 := n0_; have HB := n1_; clear n0_ n1_; (try clear hb); (try clear hb2); (try clear hk); (try clear hi)))
  go_ret
  exact ⟨by first | rfl | (simp [errW_none, errW_some] <;> rfl) | (simp [*, errW_none, errW_some] <;> rfl), by repeat (first | (with_reducible first | exact HB.out | apply b_a | apply b_n | apply b_d | refine below_set ?_ GE564.out) | exact HB.out)⟩

/-! ### classification_chosen: function 46 -/
def classification_chosen.l0 (p : ByteArray → Option Bool) : Nat → List ByteArray → List ByteArray → Int → Int → Option (List ByteArray)
 | 0, _, _, _, _ => none
 | k + 1, x7, x15, x16, x17 => if x17 < x16 then (if 0 ≤ x17 then (if x17 < (x15.length : Int) then ((p (rdOf ByteArray.empty x15 x17)).bind fun t570 => (if t570 = true then (if x7.length < 8796093022208 then (classification_chosen.l0 p k (x7 ++ [rdOf ByteArray.empty x15 x17]) x15 x16 (wrap64 (x17 + 1))) else (none)) else (classification_chosen.l0 p k x7 x15 x16 (wrap64 (x17 + 1))))) else (none)) else (none)) else (some x7)
def classification_chosen.f (p : ByteArray → Option Bool) (k : Nat) (a0_0 : ByteArray) (l0_1 : List ByteArray) (a1 : ByteArray) : Option (List ByteArray) := (classification_has.f k a0_0 l0_1 a1).bind fun t568 => (if t568 = true then (classification_chosen.l0 p k ([] : List ByteArray) l0_1 (l0_1.length : Int) 0) else (some ([] : List ByteArray)))
theorem classification_chosen.mono_l {p p' : ByteArray → Option Bool} (hpp : ∀ x, LeO (p x) (p' x)) : ∀ k, (∀ y0 y1 y2 y3, LeO (classification_chosen.l0 p k y0 y1 y2 y3) (classification_chosen.l0 p' (k + 1) y0 y1 y2 y3))
 | 0 => fun _ _ _ _ r h => by simp [classification_chosen.l0] at h
 | k + 1 => by
  have ih0 := classification_chosen.mono_l hpp k
  ·intro y0 y1 y2 y3
   unfold classification_chosen.l0
   repeat' first
   | (with_reducible exact ih0 _ _ _ _)
   | (with_reducible exact hpp _)
   | (with_reducible exact LeO.refl _)
   | (with_reducible exact LeO.none _)
   | (with_reducible refine LeO.ite ?_ ?_)
   | (with_reducible refine LeO.bind ?_ (fun _ => ?_))
   | exact ih0 _ _ _ _
   | exact LeO.none _
   | refine LeO.ite ?_ ?_
   | refine LeO.bind ?_ (fun _ => ?_)
theorem classification_chosen.mono {p p' : ByteArray → Option Bool} (hpp : ∀ x, LeO (p x) (p' x)) : ∀ a0 a1 a2 k, LeO (classification_chosen.f p k a0 a1 a2) (classification_chosen.f p' (k + 1) a0 a1 a2) := by
 intro a0 a1 a2 k
 have ih0 := classification_chosen.mono_l hpp k
 unfold classification_chosen.f
 repeat' first
   | (with_reducible exact ih0 _ _ _ _)
   | (with_reducible exact classification_has.mono _ _ _ _)
   | (with_reducible exact LeO.refl _)
   | (with_reducible exact LeO.none _)
   | (with_reducible refine LeO.ite ?_ ?_)
   | (with_reducible refine LeO.bind ?_ (fun _ => ?_))
   | exact ih0 _ _ _ _
   | exact classification_has.mono _ _ _ _
   | exact LeO.none _
   | refine LeO.ite ?_ ?_
   | refine LeO.bind ?_ (fun _ => ?_)
set_option maxHeartbeats 8000000 in
set_option maxRecDepth 100000 in
theorem classification_chosen.calls (p : ByteArray → Option Bool) (fc : FuncId) (fn : Func) (lb : Array Value) (hfc : Tryd.prog.funcs[fc]? = some fn) (hname : (fn.name == "runtime.NumGoroutine") = false) (hbody : fn.body.isSome = true) (k : Nat) (a0_0 : ByteArray) (A0_1 : Option Addr) (c0_1 : Nat) (l0_1 : List ByteArray) (a1 : ByteArray) (r : List ByteArray) (w : World)
  (hp : ∀ x b W, Below w.heap.size w W → p x = some b → Calls Tryd.prog fc (#[.string x] ++ lb) W fun e W' => e = .returned (.bool b) ∧ Below W.heap.size W W') (hr0_1 : Kd.C Kd.string w A0_1 l0_1.length l0_1) (hc0_1 : l0_1.length ≤ c0_1) (hG : GL w) (h : classification_chosen.f p k a0_0 l0_1 a1 = some r) :
  Calls Tryd.prog 46 #[.agg #[.string a0_0, .slice A0_1 l0_1.length c0_1], .string a1, .func (.func fc) #[] lb] w fun e w' => ∃ v0_ : Value, e = .returned (v0_) ∧ Kd.R Kd.string 9 w' w.heap.size (fun _ => True) v0_ r ∧ Below w.heap.size w w' := by
 have HG := mk0 hG
 clear hG
 have HP := mk0 hp
 have HFC := mk0 hfc
 have HNM := mk0 hname
 have HBD := mk0 hbody
 clear hp hfc hname hbody
 have hu28 := Tryd.underlying28
 have HR0_1 := mk0 hr0_1
 have HC0_1 := mk0 hc0_1
 clear hr0_1 hc0_1
 have HB := mk0 (Below.refl w.heap.size w)
 have H : ((classification_has.f k a0_0 l0_1 a1).bind fun t568 => (if t568 = true then (classification_chosen.l0 p k ([] : List ByteArray) l0_1 (l0_1.length : Int) 0) else (some ([] : List ByteArray)))) = some r := h
 clear h
 replace H := Option.bind_eq_some_iff.mp H
 obtain ⟨t568, A40, H⟩ := H
 replace H : (if t568 = true then (classification_chosen.l0 p k ([] : List ByteArray) l0_1 (l0_1.length : Int) 0) else (some ([] : List ByteArray))) = some r := H
 have A4 := mk0 A40
 clear A40
 by_cases c5 : t568 = true
 ·subst c5
  have H1 : (classification_chosen.l0 p k ([] : List ByteArray) l0_1 (l0_1.length : Int) 0) = some r := by rw [if_pos rfl] at H; exact H
  clear H
  have H := H1
  clear H1
  have H' := mk0 H
  clear H
  go_enter Tryd.func46, Tryd.ntmps46
  go_wp2_with (first | ((with_reducible refine gate_dst (N := 3) rfl ?_); refine box_event ?hg (N := 3) ?hd (cs := #[.string a0_0, .slice A0_1 l0_1.length c0_1]) (t := 28) ?hr ?_; (case hd => rfl); (case hg => rfl); (case hr => first | (go_simp; done) | (go_simp; rfl)); intro gb567 hg w6 hbox hb; have n0_ := mk0 (below_step (by repeat (first | (with_reducible first | exact HB.out | apply b_a | apply b_n | apply b_d) | exact HB.out)) hb); have n1_ := mk0 (hbox); have n2_ := mk0 ((by rw [hg]; exact (below_size (by repeat (first | (with_reducible first | exact HB.out | apply b_a | apply b_n | apply b_d) | exact HB.out))) : w.heap.size ≤ gb567)); have n3_ := mk0 ((by rw [hg]; exact (below_size (by repeat (first | (with_reducible first | exact HB.out | apply b_a | apply b_n | apply b_d) | exact HB.out))) : w.heap.size ≤ gb567)); clear HB; have HB := n0_; have BK567 := n1_; have GW567 := n2_; have GE567 := n3_; clear n0_ n1_ n2_ n3_; clear hb hbox hg; have hcz7_0 : w6.cell? ⟨gb567, 0, none⟩ = some (.string a0_0) := (blk_cell BK567.out 0).trans rfl; have hcz7_1 : w6.cell? ⟨gb567, 1, none⟩ = some (.slice A0_1 l0_1.length c0_1) := (blk_cell BK567.out 1).trans rfl; have hfz7_0 := blk_frozen BK567.out 0; have hfz7_1 := blk_frozen BK567.out 1) | ((with_reducible refine gate_callee (f := 49) rfl ?_); refine goesL_ (some 12) rfl rfl Tryd.func49 (by kernel_rfl) rfl #[.agg #[.string a0_0, .slice A0_1 l0_1.length c0_1], .string a1] rfl (by (try simp only [List.map_toArray, List.map_cons, List.map_nil]); first | done | rfl | (simp only [List.length_drop, List.length_take]; rfl)) ?_; (with_reducible refine (classification_has.calls k a0_0 _ _ l0_1 a1 true _ ?side1 ?side2 ?side3 A4.out).mono ?_); (case side1 => repeat (first | exact (Kd.C_below HR0_1.out HB.out) | (with_reducible refine Kd.C_alloc ?_ _) | (with_reducible refine Kd.C_drewN ?_ _) | (with_reducible refine Kd.C_drew ?_))); (case side2 => exact HC0_1.out); (case side3 => first | exact HG.out | exact GL.below HG.out (by repeat (first | (with_reducible first | exact HB.out | apply b_a | apply b_n | apply b_d | refine below_set ?_ GE567.out) | exact HB.out))); rintro e w8 ⟨rfl, hb⟩; refine ⟨_, rfl, ?_⟩; have n0_ := mk0 (blk_below (g := gb567) (o := .cells #[.string a0_0, .slice A0_1 l0_1.length c0_1] 28 (0, 0)) (by (with_reducible repeat (first | refine blk_drewN ?_ _ | refine blk_drew ?_ | refine blk_alloc ?_ _)); exact BK567.out) hb); have n1_ := mk0 (below_step (by repeat (first | (with_reducible first | exact HB.out | apply b_a | apply b_n | apply b_d | refine below_set ?_ GE567.out) | exact HB.out)) hb); clear BK567; clear HB; have BK567 := n0_; have HB := n1_; clear n0_ n1_; (try clear hb); (try clear hb2); (try clear hk); (try clear hi); have hcz9_0 : w8.cell? ⟨gb567, 0, none⟩ = some (.string a0_0) := (blk_cell BK567.out 0).trans rfl; have hcz9_1 : w8.cell? ⟨gb567, 1, none⟩ = some (.slice A0_1 l0_1.length c0_1) := (blk_cell BK567.out 1).trans rfl; have hfz9_0 := blk_frozen BK567.out 0; have hfz9_1 := blk_frozen BK567.out 1))
  go_loopg [7, 17] k (fun kq v7 v17 w' => ∃ (x7_1 : List ByteArray) (x17_1 : Int), v17 = .int .i64 x17_1 ∧ Aside0 (classification_chosen.l0 p kq x7_1 l0_1 (l0_1.length : Int) x17_1 = some r) ∧ Aside0 (kq ≤ k) ∧ Aside0 (Kd.R Kd.string 9 w' w.heap.size (fun _ => True) v7 x7_1) ∧ Aside0 (w'.heap[gb567]? = some (.cells #[.string a0_0, (.slice A0_1 l0_1.length c0_1)] 28 (0, 0))) ∧ Aside0 (Below w.heap.size w w'))
  case atStart => exact ⟨(([] : List ByteArray)), (0), (by first | rfl | (simp; done) | (simp [*]; done)), H', ⟨Nat.le_refl _⟩, ⟨by first | exact Kd.R_nil _ _ _ _ _ | exact Kd.N_nil _ _ _ _ _ | exact Kd.V_nil _ _ _ _ _ | exact Kd.Q_nil _ _ _ _ _ | exact Kd.S_nil _ _ _ _ _⟩, ⟨by (with_reducible repeat (first | refine blk_drewN ?_ _ | refine blk_drew ?_ | refine blk_alloc ?_ _)); exact BK567.out⟩, ⟨by repeat (first | (with_reducible first | exact HB.out | apply b_a | apply b_n | apply b_d | refine below_set ?_ GE567.out) | exact HB.out)⟩⟩
  case round =>
   clear H'
   try clear p2
   try clear c4
   try clear c5
   try clear hcz7_0
   try clear hcz7_1
   try clear hcz9_0
   try clear hcz9_1
   try clear hfz7_0
   try clear hfz7_1
   try clear hfz9_0
   try clear hfz9_1
   obtain ⟨x7_1, x17_1, rfl, HA, HK1, HO_7, BK567, HB⟩ := hrel
   cases gk with
   | zero => exact absurd HA.out (by simp [classification_chosen.l0])
   | succ k1 =>
    have H := HA.out
    clear HA
    simp only [classification_chosen.l0] at H
    by_cases c10 : x17_1 < (l0_1.length : Int)
    ·rw [if_pos c10] at H
     have c10b0 : decide (x17_1 < (l0_1.length : Int)) = true := decide_eq_true c10
     clear c10
     by_cases c11 : 0 ≤ x17_1
     ·rw [if_pos c11] at H
      have c11b0 : decide (0 ≤ x17_1) = true := decide_eq_true c11
      clear c11
      by_cases c12 : x17_1 < (l0_1.length : Int)
      ·rw [if_pos c12] at H
       have c12b0 : decide (x17_1 < (l0_1.length : Int)) = true := decide_eq_true c12
       clear c12
       replace H := Option.bind_eq_some_iff.mp H
       obtain ⟨t570, A130, H⟩ := H
       replace H : (if t570 = true then (if x7_1.length < 8796093022208 then (classification_chosen.l0 p k1 (x7_1 ++ [rdOf ByteArray.empty l0_1 x17_1]) l0_1 (l0_1.length : Int) (wrap64 (x17_1 + 1))) else (none)) else (classification_chosen.l0 p k1 x7_1 l0_1 (l0_1.length : Int) (wrap64 (x17_1 + 1)))) = some r := H
       have A13 := mk0 A130
       clear A130
       by_cases c14 : t570 = true
       ·subst c14
        have H1 : (if x7_1.length < 8796093022208 then (classification_chosen.l0 p k1 (x7_1 ++ [rdOf ByteArray.empty l0_1 x17_1]) l0_1 (l0_1.length : Int) (wrap64 (x17_1 + 1))) else (none)) = some r := by rw [if_pos rfl] at H; exact H
        clear H
        have H := H1
        clear H1
        by_cases c15 : x7_1.length < 8796093022208
        ·rw [if_pos c15] at H
         have LMc15 := mk0 c15
         clear c15
         obtain ⟨y571, hy571⟩ : ∃ y_ : List ByteArray, y_ = (x7_1 ++ [rdOf ByteArray.empty l0_1 x17_1]) := ⟨_, rfl⟩
         replace H : (classification_chosen.l0 p k1 y571 l0_1 (l0_1.length : Int) (wrap64 (x17_1 + 1))) = some r := by first | (rw [hy571]; with_reducible exact H) | (have H2_ := (Option.bind_some _ _).symm.trans H; rw [hy571]; with_reducible exact H2_) | (have H2_ := (Option.bind_some _ _).symm.trans H; with_reducible exact H2_) | with_reducible exact H | (rw [hy571]; exact H) | exact H
         have Ny571 := mk0 hy571
         clear hy571
         have H' := mk0 H
         clear H
         have p569 : 0 ≤ (x17_1 : Int) := of_decide_eq_true (by first | (with_reducible assumption) | assumption)
         have q569 : x17_1 < (l0_1.length : Int) := of_decide_eq_true (by first | (with_reducible assumption) | assumption)
         obtain ⟨ad569, e569, hx569_0⟩ := Kd.at_string HR0_1.out x17_1 p569 q569
         cases e569
         replace hx569_0 := (HB.out.cell (World.block_lt_of_cell? w _ hx569_0)).trans hx569_0
         replace p569 := eq_true p569
         replace q569 := eq_true q569
         go_wp2_with (first | ((with_reducible refine gate_calleeT rfl ?_); refine goesLC_ (some 23) rfl rfl HFC.out HNM.out HBD.out #[.string (rdOf ByteArray.empty l0_1 x17_1)] lb rfl rfl (by (try simp only [List.map_toArray, List.map_cons, List.map_nil]); first | done | rfl) ?_; (with_reducible refine (HP.out (rdOf ByteArray.empty l0_1 x17_1) true _ ?side0 A13.out).mono ?_); (case side0 => exact (by repeat (first | (with_reducible first | exact HB.out | apply b_a | apply b_n | apply b_d | refine below_set ?_ GE567.out) | exact HB.out))); rintro e w16 ⟨rfl, hb⟩; refine ⟨_, rfl, ?_⟩; have n0_ := mk0 (Kd.R_below (by (with_reducible repeat (first | apply r_a | apply r_n | apply r_d)); exact HO_7.out) hb); have n1_ := mk0 (blk_below (g := gb567) (o := .cells #[.string a0_0, .slice (some ad569) l0_1.length c0_1] 28 (0, 0)) (by (with_reducible repeat (first | refine blk_drewN ?_ _ | refine blk_drew ?_ | refine blk_alloc ?_ _)); exact BK567.out) hb); have n2_ := mk0 (below_step (by repeat (first | (with_reducible first | exact HB.out | apply b_a | apply b_n | apply b_d | refine below_set ?_ GE567.out) | exact HB.out)) hb); clear HO_7; clear BK567; clear HB; have HO_7 := n0_; have BK567 := n1_; have HB := n2_; clear n0_ n1_ n2_; (try clear hb); (try clear hb2); (try clear hk); (try clear hi)) | ((with_reducible refine gate_builtin (b := .append) (xs := #[.tmp 24, .tmp 26]) rfl ?_); at_builtin; refine Kd.R_append Kd.string (w0 := w) w.heap.size rfl (.tmp 24) (.tmp 26) 26 9 (.string ⟨#[]⟩) 16 rfl Tryd.underlying26 info9 rfl (by decide) (by omega) u7 x7_1 (rdOf ByteArray.empty l0_1 x17_1) [.string (rdOf ByteArray.empty l0_1 x17_1)] (fun _ => True) (fun _ => False) rfl rfl ?aP (fun _ hk => hk.elim) ?aF ?aO ?aB ?aS ?aL ?_; (case aP => exact rfl); (case aB => exact (by repeat (first | (with_reducible first | exact HB.out | apply b_a | apply b_n | apply b_d | refine below_set ?_ GE567.out) | exact HB.out))); (case aF => exact (fun _ _ => trivial)); (case aO => exact (by (with_reducible repeat (first | apply r_a | apply r_n | apply r_d)); exact HO_7.out)); (case aS => exact (below_size (by repeat (first | (with_reducible first | exact HB.out | apply b_a | apply b_n | apply b_d | refine below_set ?_ GE567.out) | exact HB.out)))); (case aL => have := LMc15.out; omega); intro v572 w17 ho hb hg hat; rw [← Ny571.out] at ho; have n0_ := mk0 (blk_grown (g := gb567) (o := .cells #[.string a0_0, .slice (some ad569) l0_1.length c0_1] 28 (0, 0)) (by (with_reducible repeat (first | refine blk_drewN ?_ _ | refine blk_drew ?_ | refine blk_alloc ?_ _)); exact BK567.out) hg (Kd.R_ne HO_7.out BK567.out (by decide))); have n1_ := mk0 (hb); have n2_ := mk0 (ho); clear BK567; clear HB; clear HO_7; have BK567 := n0_; have HB := n1_; have HO573 := n2_; clear n0_ n1_ n2_; clear ho hb hg hat))
         go_roundg k1
         case measure => have := HK1.out; omega
         case rel => exact ⟨(y571), (wrap64 (x17_1 + 1)), (by first | rfl | (simp; done) | (simp [*]; done)), H', ⟨by have := HK1.out; omega⟩, ⟨by (with_reducible repeat (first | apply r_a | apply r_n | apply r_d)); exact HO573.out⟩, ⟨by (with_reducible repeat (first | refine blk_drewN ?_ _ | refine blk_drew ?_ | refine blk_alloc ?_ _)); exact BK567.out⟩, ⟨by repeat (first | (with_reducible first | exact HB.out | apply b_a | apply b_n | apply b_d | refine below_set ?_ GE567.out) | exact HB.out)⟩⟩
        ·rw [if_neg c15] at H
         exact absurd H (by simp)
       ·replace c14 := Bool.eq_false_iff.mpr c14
        subst c14
        have H1 : (classification_chosen.l0 p k1 x7_1 l0_1 (l0_1.length : Int) (wrap64 (x17_1 + 1))) = some r := by rw [if_neg (show ¬ (false = true) by decide)] at H; exact H
        clear H
        have H := H1
        clear H1
        have H' := mk0 H
        clear H
        have p569 : 0 ≤ (x17_1 : Int) := of_decide_eq_true (by first | (with_reducible assumption) | assumption)
        have q569 : x17_1 < (l0_1.length : Int) := of_decide_eq_true (by first | (with_reducible assumption) | assumption)
        obtain ⟨ad569, e569, hx569_0⟩ := Kd.at_string HR0_1.out x17_1 p569 q569
        cases e569
        replace hx569_0 := (HB.out.cell (World.block_lt_of_cell? w _ hx569_0)).trans hx569_0
        replace p569 := eq_true p569
        replace q569 := eq_true q569
        go_wp2_with (first | ((with_reducible refine gate_calleeT rfl ?_); refine goesLC_ (some 23) rfl rfl HFC.out HNM.out HBD.out #[.string (rdOf ByteArray.empty l0_1 x17_1)] lb rfl rfl (by (try simp only [List.map_toArray, List.map_cons, List.map_nil]); first | done | rfl) ?_; (with_reducible refine (HP.out (rdOf ByteArray.empty l0_1 x17_1) false _ ?side0 A13.out).mono ?_); (case side0 => exact (by repeat (first | (with_reducible first | exact HB.out | apply b_a | apply b_n | apply b_d | refine below_set ?_ GE567.out) | exact HB.out))); rintro e w18 ⟨rfl, hb⟩; refine ⟨_, rfl, ?_⟩; have n0_ := mk0 (Kd.R_below (by (with_reducible repeat (first | apply r_a | apply r_n | apply r_d)); exact HO_7.out) hb); have n1_ := mk0 (blk_below (g := gb567) (o := .cells #[.string a0_0, .slice (some ad569) l0_1.length c0_1] 28 (0, 0)) (by (with_reducible repeat (first | refine blk_drewN ?_ _ | refine blk_drew ?_ | refine blk_alloc ?_ _)); exact BK567.out) hb); have n2_ := mk0 (below_step (by repeat (first | (with_reducible first | exact HB.out | apply b_a | apply b_n | apply b_d | refine below_set ?_ GE567.out) | exact HB.out)) hb); clear HO_7; clear BK567; clear HB; have HO_7 := n0_; have BK567 := n1_; have HB := n2_; clear n0_ n1_ n2_; (try clear hb); (try clear hb2); (try clear hk); (try clear hi)))
        go_roundg k1
        case measure => have := HK1.out; omega
        case rel => exact ⟨(x7_1), (wrap64 (x17_1 + 1)), (by first | rfl | (simp; done) | (simp [*]; done)), H', ⟨by have := HK1.out; omega⟩, ⟨by (with_reducible repeat (first | apply r_a | apply r_n | apply r_d)); exact HO_7.out⟩, ⟨by (with_reducible repeat (first | refine blk_drewN ?_ _ | refine blk_drew ?_ | refine blk_alloc ?_ _)); exact BK567.out⟩, ⟨by repeat (first | (with_reducible first | exact HB.out | apply b_a | apply b_n | apply b_d | refine below_set ?_ GE567.out) | exact HB.out)⟩⟩
      ·rw [if_neg c12] at H
       exact absurd H (by simp)
     ·rw [if_neg c11] at H
      exact absurd H (by simp)
    ·rw [if_neg c10] at H
     have c10b0 : decide (x17_1 < (l0_1.length : Int)) = false := decide_eq_false c10
     clear c10
     obtain rfl := Option.some.inj H
     go_wp2
     go_ret
     exact ⟨_, by first | rfl | (simp [errW_none, errW_some] <;> rfl) | (simp [*, errW_none, errW_some] <;> rfl), by (with_reducible repeat (first | apply r_a | apply r_n | apply r_d)); exact HO_7.out, by repeat (first | (with_reducible first | exact HB.out | apply b_a | apply b_n | apply b_d | refine below_set ?_ GE567.out) | exact HB.out)⟩
 ·replace c5 := Bool.eq_false_iff.mpr c5
  subst c5
  have H1 : (some ([] : List ByteArray)) = some r := by rw [if_neg (show ¬ (false = true) by decide)] at H; exact H
  clear H
  have H := H1
  clear H1
  obtain rfl := Option.some.inj H
  go_enter Tryd.func46, Tryd.ntmps46
  go_wp2_with (first | ((with_reducible refine gate_dst (N := 3) rfl ?_); refine box_event ?hg (N := 3) ?hd (cs := #[.string a0_0, .slice A0_1 l0_1.length c0_1]) (t := 28) ?hr ?_; (case hd => rfl); (case hg => rfl); (case hr => first | (go_simp; done) | (go_simp; rfl)); intro gb567 hg w19 hbox hb; have n0_ := mk0 (below_step (by repeat (first | (with_reducible first | exact HB.out | apply b_a | apply b_n | apply b_d) | exact HB.out)) hb); have n1_ := mk0 (hbox); have n2_ := mk0 ((by rw [hg]; exact (below_size (by repeat (first | (with_reducible first | exact HB.out | apply b_a | apply b_n | apply b_d) | exact HB.out))) : w.heap.size ≤ gb567)); have n3_ := mk0 ((by rw [hg]; exact (below_size (by repeat (first | (with_reducible first | exact HB.out | apply b_a | apply b_n | apply b_d) | exact HB.out))) : w.heap.size ≤ gb567)); clear HB; have HB := n0_; have BK567 := n1_; have GW567 := n2_; have GE567 := n3_; clear n0_ n1_ n2_ n3_; clear hb hbox hg; have hcz20_0 : w19.cell? ⟨gb567, 0, none⟩ = some (.string a0_0) := (blk_cell BK567.out 0).trans rfl; have hcz20_1 : w19.cell? ⟨gb567, 1, none⟩ = some (.slice A0_1 l0_1.length c0_1) := (blk_cell BK567.out 1).trans rfl; have hfz20_0 := blk_frozen BK567.out 0; have hfz20_1 := blk_frozen BK567.out 1) | ((with_reducible refine gate_callee (f := 49) rfl ?_); refine goesL_ (some 12) rfl rfl Tryd.func49 (by kernel_rfl) rfl #[.agg #[.string a0_0, .slice A0_1 l0_1.length c0_1], .string a1] rfl (by (try simp only [List.map_toArray, List.map_cons, List.map_nil]); first | done | rfl | (simp only [List.length_drop, List.length_take]; rfl)) ?_; (with_reducible refine (classification_has.calls k a0_0 _ _ l0_1 a1 false _ ?side1 ?side2 ?side3 A4.out).mono ?_); (case side1 => repeat (first | exact (Kd.C_below HR0_1.out HB.out) | (with_reducible refine Kd.C_alloc ?_ _) | (with_reducible refine Kd.C_drewN ?_ _) | (with_reducible refine Kd.C_drew ?_))); (case side2 => exact HC0_1.out); (case side3 => first | exact HG.out | exact GL.below HG.out (by repeat (first | (with_reducible first | exact HB.out | apply b_a | apply b_n | apply b_d | refine below_set ?_ GE567.out) | exact HB.out))); rintro e w21 ⟨rfl, hb⟩; refine ⟨_, rfl, ?_⟩; have n0_ := mk0 (blk_below (g := gb567) (o := .cells #[.string a0_0, .slice A0_1 l0_1.length c0_1] 28 (0, 0)) (by (with_reducible repeat (first | refine blk_drewN ?_ _ | refine blk_drew ?_ | refine blk_alloc ?_ _)); exact BK567.out) hb); have n1_ := mk0 (below_step (by repeat (first | (with_reducible first | exact HB.out | apply b_a | apply b_n | apply b_d | refine below_set ?_ GE567.out) | exact HB.out)) hb); clear BK567; clear HB; have BK567 := n0_; have HB := n1_; clear n0_ n1_; (try clear hb); (try clear hb2); (try clear hk); (try clear hi)))
  go_ret
  exact ⟨_, by first | rfl | (simp [errW_none, errW_some] <;> rfl) | (simp [*, errW_none, errW_some] <;> rfl), by first | exact Kd.R_nil _ _ _ _ _ | exact Kd.N_nil _ _ _ _ _ | exact Kd.V_nil _ _ _ _ _ | exact Kd.Q_nil _ _ _ _ _ | exact Kd.S_nil _ _ _ _ _, by repeat (first | (with_reducible first | exact HB.out | apply b_a | apply b_n | apply b_d | refine below_set ?_ GE567.out) | exact HB.out)⟩

end Go.Proofs.YtpnoliognpmkmaaDoor.P
