/- Lean functions with the same answers as the program's Go functions, and for each the proof that the call comes to these answers; written by a program of mine out of the translation, the functions marked 'by hand' by me. -/
import Derived.Test.YtpnoliognpmkmaaDoorP0
import Derived.Test.YtpnoliognpmkmaaDoorP3
import Derived.Test.YtpnoliognpmkmaaDoorP4
import Derived.Test.YtpnoliognpmkmaaDoorP13
import Derived.Test.YtpnoliognpmkmaaDoorP16
import Derived.Test.YtpnoliognpmkmaaDoorP17
import Derived.Test.YtpnoliognpmkmaaDoorP18
namespace Go.Proofs.YtpnoliognpmkmaaDoor.P
open Go.RowKit Go.Proofs.YtpnoliognpmkmaaDoorW.PrintWords Go.Proofs.YtpnoliognpmkmaaDoorW.PrintLast Go.Proofs.YtpnoliognpmkmaaDoorW.PrintMore
attribute [local go_sem] max2_int min2_int max_two min_two max_three min_three max_four min_four   -- for this text's walks alone
set_option linter.unusedVariables false
set_option linter.unusedSimpArgs false

/-! ### priceofficelaw06_ClassificationValid: function 9 -/
def priceofficelaw06_ClassificationValid.f (k : Nat) (a0_0 : ByteArray) (l0_1 : List ByteArray) (l1 : List Int) : Option (Bool) := (priceofficelaw06_spoiled.f k l1 0).bind fun bt472 => ((priceofficelaw06_raw.f k a0_0 l0_1).bind fun bt478 => ((classification_Validate.f k bt478.1 bt478.2).bind fun t482 => ((priceofficeref06_Validate.f k bt478.1 bt478.2).bind fun t483 => (if t482 = t483 then ((classification_Validate.f k bt472.1 bt472.2.1).bind fun t484 => ((priceofficeref06_Validate.f k bt472.1 bt472.2.1).bind fun t485 => (if t484 = t485 then ((priceofficelaw06_awake.f k).bind fun t486 => (some t486)) else (some false)))) else (some false)))))
theorem priceofficelaw06_ClassificationValid.mono : ∀ a0 a1 a2 k, LeO (priceofficelaw06_ClassificationValid.f k a0 a1 a2) (priceofficelaw06_ClassificationValid.f (k + 1) a0 a1 a2) := by
  intro a0 a1 a2 k
  unfold priceofficelaw06_ClassificationValid.f
  repeat' first
      | (with_reducible exact classification_Validate.mono _ _ _)
      | (with_reducible exact priceofficelaw06_awake.mono _)
      | (with_reducible exact priceofficelaw06_raw.mono _ _ _)
      | (with_reducible exact priceofficelaw06_spoiled.mono _ _ _)
      | (with_reducible exact priceofficeref06_Validate.mono _ _ _)
      | (with_reducible exact LeO.refl _)
      | (with_reducible exact LeO.none _)
      | (with_reducible refine LeO.ite ?_ ?_)
      | (with_reducible refine LeO.bind ?_ (fun _ => ?_))
      | exact classification_Validate.mono _ _ _
      | exact priceofficelaw06_awake.mono _
      | exact priceofficelaw06_raw.mono _ _ _
      | exact priceofficelaw06_spoiled.mono _ _ _
      | exact priceofficeref06_Validate.mono _ _ _
      | exact LeO.none _
      | refine LeO.ite ?_ ?_
      | refine LeO.bind ?_ (fun _ => ?_)
def priceofficelaw06_ClassificationValid.T3 : Bool × List (List Nat × List Nat) := (true, [([], []), ([0], [0]), ([], []), ([2, 1], [2]), ([1, 3], [1, 3]), ([4, 3], [4]), ([5], [5]), ([6, 5, 5], [5, 6]), ([5], [5]), ([8, 7, 5], [5, 8]), ([7, 9, 5], [5, 7, 9]), ([5, 10], [5, 10]), ([11, 9], [11]), ([12, 12], [12]), ([12, 13], [12, 13]), ([14, 13, 0, 1, 2, 3, 4, 5, 6, 7, 8, 9, 10, 11, 12, 13, 14], [14])])
def priceofficelaw06_ClassificationValid.B3 : List Nat := [0, 1, 0, 7, 15, 31, 63, 127, 63, 511, 1023, 2047, 4095, 8191, 16383, 32767]
theorem priceofficelaw06_ClassificationValid.tab3 : rtab .any (opsOf Tryd.f9 3) = priceofficelaw06_ClassificationValid.T3 := by kernel_rfl
theorem priceofficelaw06_ClassificationValid.bits3 : waitsOk priceofficelaw06_ClassificationValid.T3.2 priceofficelaw06_ClassificationValid.B3 = true := by kernel_rfl
set_option maxHeartbeats 8000000 in
set_option maxRecDepth 100000 in
theorem priceofficelaw06_ClassificationValid.calls (k : Nat) (a0_0 : ByteArray) (A0_1 : Option Addr) (c0_1 : Nat) (l0_1 : List ByteArray) (A1 : Option Addr) (c1 : Nat) (l1 : List Int) (r : Bool) (w : World) (hr0_1 : Kd.C Kd.string w A0_1 l0_1.length l0_1) (hc0_1 : l0_1.length ≤ c0_1) (hr1 : Kd.C (Kd.int .i64) w A1 l1.length l1) (hc1 : l1.length ≤ c1) (hG : GL w) (h : priceofficelaw06_ClassificationValid.f k a0_0 l0_1 l1 = some r) :
    Calls Tryd.prog 9 #[.agg #[.string a0_0, .slice A0_1 l0_1.length c0_1], .slice A1 l1.length c1] w fun e w' => e = .returned (.bool r) ∧ Below w.heap.size w w' := by
  have HG := Aside0.mk hG
  clear hG
  have hu28 := Tryd.underlying28
  have hu25 := Tryd.underlying25
  have HR0_1 := Aside0.mk hr0_1
  have HC0_1 := Aside0.mk hc0_1
  clear hr0_1 hc0_1
  have HR1 := Aside0.mk hr1
  have HC1 := Aside0.mk hc1
  clear hr1 hc1
  have HB := Aside0.mk (Below.refl w.heap.size w)
  have H : ((priceofficelaw06_spoiled.f k l1 0).bind fun bt472 => ((priceofficelaw06_raw.f k a0_0 l0_1).bind fun bt478 => ((classification_Validate.f k bt478.1 bt478.2).bind fun t482 => ((priceofficeref06_Validate.f k bt478.1 bt478.2).bind fun t483 => (if t482 = t483 then ((classification_Validate.f k bt472.1 bt472.2.1).bind fun t484 => ((priceofficeref06_Validate.f k bt472.1 bt472.2.1).bind fun t485 => (if t484 = t485 then ((priceofficelaw06_awake.f k).bind fun t486 => (some t486)) else (some false)))) else (some false)))))) = some r := h
  clear h
  replace H := Option.bind_eq_some_iff.mp H
  obtain ⟨⟨t472, t473, t476⟩, A30, H⟩ := H
  replace H : ((priceofficelaw06_raw.f k a0_0 l0_1).bind fun bt478 => ((classification_Validate.f k bt478.1 bt478.2).bind fun t482 => ((priceofficeref06_Validate.f k bt478.1 bt478.2).bind fun t483 => (if t482 = t483 then ((classification_Validate.f k t472 t473).bind fun t484 => ((priceofficeref06_Validate.f k t472 t473).bind fun t485 => (if t484 = t485 then ((priceofficelaw06_awake.f k).bind fun t486 => (some t486)) else (some false)))) else (some false))))) = some r := H
  have A3 := Aside0.mk A30
  clear A30
  replace H := Option.bind_eq_some_iff.mp H
  obtain ⟨⟨t478, t479⟩, A40, H⟩ := H
  replace H : ((classification_Validate.f k t478 t479).bind fun t482 => ((priceofficeref06_Validate.f k t478 t479).bind fun t483 => (if t482 = t483 then ((classification_Validate.f k t472 t473).bind fun t484 => ((priceofficeref06_Validate.f k t472 t473).bind fun t485 => (if t484 = t485 then ((priceofficelaw06_awake.f k).bind fun t486 => (some t486)) else (some false)))) else (some false)))) = some r := H
  have A4 := Aside0.mk A40
  clear A40
  replace H := Option.bind_eq_some_iff.mp H
  obtain ⟨t482, A50, H⟩ := H
  replace H : ((priceofficeref06_Validate.f k t478 t479).bind fun t483 => (if t482 = t483 then ((classification_Validate.f k t472 t473).bind fun t484 => ((priceofficeref06_Validate.f k t472 t473).bind fun t485 => (if t484 = t485 then ((priceofficelaw06_awake.f k).bind fun t486 => (some t486)) else (some false)))) else (some false))) = some r := H
  have A5 := Aside0.mk A50
  clear A50
  replace H := Option.bind_eq_some_iff.mp H
  obtain ⟨t483, A60, H⟩ := H
  replace H : (if t482 = t483 then ((classification_Validate.f k t472 t473).bind fun t484 => ((priceofficeref06_Validate.f k t472 t473).bind fun t485 => (if t484 = t485 then ((priceofficelaw06_awake.f k).bind fun t486 => (some t486)) else (some false)))) else (some false)) = some r := H
  have A6 := Aside0.mk A60
  clear A60
  by_cases c7 : t482 = t483
  · rw [if_pos c7] at H
    have c7b0 : (t482 == t483) = true := beq_iff_eq.mpr c7
    have c7b1 : (t482 != t483) = false := bne_eq_false_iff_eq.mpr c7
    clear c7
    replace H := Option.bind_eq_some_iff.mp H
    obtain ⟨t484, A80, H⟩ := H
    replace H : ((priceofficeref06_Validate.f k t472 t473).bind fun t485 => (if t484 = t485 then ((priceofficelaw06_awake.f k).bind fun t486 => (some t486)) else (some false))) = some r := H
    have A8 := Aside0.mk A80
    clear A80
    replace H := Option.bind_eq_some_iff.mp H
    obtain ⟨t485, A90, H⟩ := H
    replace H : (if t484 = t485 then ((priceofficelaw06_awake.f k).bind fun t486 => (some t486)) else (some false)) = some r := H
    have A9 := Aside0.mk A90
    clear A90
    by_cases c10 : t484 = t485
    · rw [if_pos c10] at H
      have c10b0 : (t484 == t485) = true := beq_iff_eq.mpr c10
      have c10b1 : (t484 != t485) = false := bne_eq_false_iff_eq.mpr c10
      clear c10
      replace H := Option.bind_eq_some_iff.mp H
      obtain ⟨t486, A110, H⟩ := H
      replace H : (some t486) = some r := H
      have A11 := Aside0.mk A110
      clear A110
      obtain rfl := Option.some.inj H
      go_enter Tryd.func9, Tryd.ntmps9
      try go_wp2_with (first | ((with_reducible refine gate_dst (N := 2) rfl ?_); refine box_event ?hg (N := 2) ?hd (cs := #[.string a0_0, .slice A0_1 l0_1.length c0_1]) (t := 28) ?hr ?_; (case hd => rfl); (case hg => rfl); (case hr => first | (go_simp; done) | (go_simp; rfl)); intro gb470 hg w12 hbox hb; have n0_ := Aside0.mk (below_step (by repeat (first | (with_reducible first | exact HB.out | apply below_alloc | apply pw_below_drewN | apply below_drew1) | exact HB.out)) hb); have n1_ := Aside0.mk (hbox); have n2_ := Aside0.mk ((by rw [hg]; exact (below_size (by repeat (first | (with_reducible first | exact HB.out | apply below_alloc | apply pw_below_drewN | apply below_drew1) | exact HB.out))) : w.heap.size ≤ gb470)); have n3_ := Aside0.mk ((by rw [hg]; exact (below_size (by repeat (first | (with_reducible first | exact HB.out | apply below_alloc | apply pw_below_drewN | apply below_drew1) | exact HB.out))) : w.heap.size ≤ gb470)); clear HB; have HB := n0_; have BK470 := n1_; have GW470 := n2_; have GE470 := n3_; clear n0_ n1_ n2_ n3_; clear hb hbox hg) | ((with_reducible refine gate_dst (N := 8) rfl ?_); refine box_event ?hg (N := 8) ?hd (cs := #[.slice A1 l1.length c1, .int .i64 0]) (t := 25) ?hr ?_; (case hd => rfl); (case hg => rfl); (case hr => first | (go_simp; done) | (go_simp; rfl)); intro gb471 hg w13 hbox hb; have n0_ := Aside0.mk (blk_below (g := gb470) (o := .cells #[.string a0_0, .slice A0_1 l0_1.length c0_1] 28 (0, 0)) (by (with_reducible repeat (first | refine blk_drewN ?_ _ | refine blk_drew ?_ | refine blk_alloc ?_ _)); exact BK470.out) hb); have n1_ := Aside0.mk (below_step (by repeat (first | (with_reducible first | exact HB.out | apply below_alloc | apply pw_below_drewN | apply below_drew1 | refine below_set ?_ GE470.out) | exact HB.out)) hb); have n2_ := Aside0.mk (hbox); have n3_ := Aside0.mk ((by rw [hg]; exact (below_size (by repeat (first | (with_reducible first | exact HB.out | apply below_alloc | apply pw_below_drewN | apply below_drew1 | refine below_set ?_ GE470.out) | exact HB.out))) : w.heap.size ≤ gb471)); have n4_ := Aside0.mk ((by rw [hg]; exact (below_size (by repeat (first | (with_reducible first | exact HB.out | apply below_alloc | apply pw_below_drewN | apply below_drew1 | refine below_set ?_ GE470.out) | exact HB.out))) : w.heap.size ≤ gb471)); have n5_ := Aside0.mk ((by rw [hg]; exact Nat.ne_of_lt (blk_lt (g := gb470) (o := .cells #[.string a0_0, .slice A0_1 l0_1.length c0_1] 28 (0, 0)) (by (with_reducible repeat (first | refine blk_drewN ?_ _ | refine blk_drew ?_ | refine blk_alloc ?_ _)); exact BK470.out)) : gb470 ≠ gb471)); have n6_ := Aside0.mk ((by rw [hg]; exact Nat.ne_of_gt (blk_lt (g := gb470) (o := .cells #[.string a0_0, .slice A0_1 l0_1.length c0_1] 28 (0, 0)) (by (with_reducible repeat (first | refine blk_drewN ?_ _ | refine blk_drew ?_ | refine blk_alloc ?_ _)); exact BK470.out)) : gb471 ≠ gb470)); have n7_ := Aside0.mk ((show IsS25 w w13 gb471 l1 0 from ⟨_, _, hbox, (by rw [hg]; exact (below_size (by repeat (first | (with_reducible first | exact HB.out | apply below_alloc | apply pw_below_drewN | apply below_drew1 | refine below_set ?_ GE470.out) | exact HB.out))) : w.heap.size ≤ gb471), HR1.out⟩)); clear BK470; clear HB; have BK470 := n0_; have HB := n1_; have BK471 := n2_; have GW471 := n3_; have GE471 := n4_; have NB470_471 := n5_; have NB471_470 := n6_; have HI471 := n7_; clear n0_ n1_ n2_ n3_ n4_ n5_ n6_ n7_; clear hb hbox hg) | ((with_reducible refine gate_callee (f := 37) rfl ?_); refine goesL_ (some 9) rfl rfl Tryd.func37 (by kernel_rfl) rfl #[.pointer (some ⟨gb471, 0, none⟩)] rfl (by (try simp only [List.map_toArray, List.map_cons, List.map_nil]); first | done | rfl | (simp only [List.length_drop, List.length_take]; rfl)) ?_; (with_reducible refine (priceofficelaw06_spoiled.calls k gb471 l1 0 t472 t473 t476 w _ ?side1 ?side2 A3.out).mono ?_); (case side1 => repeat (first | (with_reducible first | exact HI471.out | apply IsS25.alloc | apply IsS25.drewN | apply IsS25.drew | apply IsS25.set_1 | refine IsS25.far ?_ NB471_470.out _) | exact HI471.out)); (case side2 => repeat (first | (with_reducible first | exact HB.out | apply below_alloc | apply pw_below_drewN | apply below_drew1 | refine below_set ?_ (IsS25.ge HI471.out) | refine below_set ?_ GE470.out) | exact HB.out)); rintro e w14 ⟨v474, rfl, ho0, hi, hb, hk⟩; refine ⟨_, rfl, ?_⟩; have n0_ := Aside0.mk (KeepBut.blk hk (g' := gb470) (o := .cells #[.string a0_0, .slice A0_1 l0_1.length c0_1] 28 (0, 0)) (by (with_reducible repeat (first | refine blk_drewN ?_ _ | refine blk_drew ?_ | refine blk_alloc ?_ _)); exact BK470.out) NB470_471.out (by simp)); have n1_ := Aside0.mk (Kd.R_lower ho0 (below_size (by repeat (first | (with_reducible first | exact HB.out | apply below_alloc | apply pw_below_drewN | apply below_drew1 | refine below_set ?_ (IsS25.ge HI471.out) | refine below_set ?_ GE470.out) | exact HB.out)))); have n2_ := Aside0.mk (hb); have n3_ := Aside0.mk (hi); clear BK470; clear HB; clear HI471; have BK470 := n0_; have HO475 := n1_; have HB := n2_; have HI471 := n3_; clear n0_ n1_ n2_ n3_; (try clear hb); (try clear hb2); (try clear hk); (try clear hi); (try clear ho0)) | ((with_reducible refine gate_dst (N := 5) rfl ?_); refine box_event ?hg (N := 5) ?hd (cs := #[.string (⟨#[]⟩ : ByteArray), .slice none 0 0]) (t := 28) ?hr ?_; (case hd => rfl); (case hg => rfl); (case hr => first | (go_simp; done) | (go_simp; rfl)); intro gb477 hg w15 hbox hb; have n0_ := Aside0.mk (Kd.R_below (by (with_reducible repeat (first | apply Kd.R_alloc | apply Kd.R_drewN | apply Kd.R_drew)); exact HO475.out) hb); have n1_ := Aside0.mk (blk_below (g := gb470) (o := .cells #[.string a0_0, .slice A0_1 l0_1.length c0_1] 28 (0, 0)) (by (with_reducible repeat (first | refine blk_drewN ?_ _ | refine blk_drew ?_ | refine blk_alloc ?_ _)); exact BK470.out) hb); have n2_ := Aside0.mk (IsS25.below (by repeat (first | (with_reducible first | exact HI471.out | apply IsS25.alloc | apply IsS25.drewN | apply IsS25.drew | apply IsS25.set_1 | refine IsS25.far ?_ NB471_470.out _) | exact HI471.out)) hb); have n3_ := Aside0.mk (below_step (by repeat (first | (with_reducible first | exact HB.out | apply below_alloc | apply pw_below_drewN | apply below_drew1 | refine below_set ?_ (IsS25.ge HI471.out) | refine below_set ?_ GE470.out) | exact HB.out)) hb); have n4_ := Aside0.mk (hbox); have n5_ := Aside0.mk ((by rw [hg]; exact (below_size (by repeat (first | (with_reducible first | exact HB.out | apply below_alloc | apply pw_below_drewN | apply below_drew1 | refine below_set ?_ (IsS25.ge HI471.out) | refine below_set ?_ GE470.out) | exact HB.out))) : w.heap.size ≤ gb477)); have n6_ := Aside0.mk ((by rw [hg]; exact (below_size (by repeat (first | (with_reducible first | exact HB.out | apply below_alloc | apply pw_below_drewN | apply below_drew1 | refine below_set ?_ (IsS25.ge HI471.out) | refine below_set ?_ GE470.out) | exact HB.out))) : w.heap.size ≤ gb477)); have n7_ := Aside0.mk ((by rw [hg]; exact Nat.ne_of_lt (blk_lt (g := gb470) (o := .cells #[.string a0_0, .slice A0_1 l0_1.length c0_1] 28 (0, 0)) (by (with_reducible repeat (first | refine blk_drewN ?_ _ | refine blk_drew ?_ | refine blk_alloc ?_ _)); exact BK470.out)) : gb470 ≠ gb477)); have n8_ := Aside0.mk ((by rw [hg]; exact Nat.ne_of_gt (blk_lt (g := gb470) (o := .cells #[.string a0_0, .slice A0_1 l0_1.length c0_1] 28 (0, 0)) (by (with_reducible repeat (first | refine blk_drewN ?_ _ | refine blk_drew ?_ | refine blk_alloc ?_ _)); exact BK470.out)) : gb477 ≠ gb470)); have n9_ := Aside0.mk ((by rw [hg]; exact Nat.ne_of_lt (IsS25.lt (show IsS25 w _ gb471 l1 t476 from by repeat (first | (with_reducible first | exact HI471.out | apply IsS25.alloc | apply IsS25.drewN | apply IsS25.drew | apply IsS25.set_1 | refine IsS25.far ?_ NB471_470.out _) | exact HI471.out))) : gb471 ≠ gb477)); have n10_ := Aside0.mk ((by rw [hg]; exact Nat.ne_of_gt (IsS25.lt (show IsS25 w _ gb471 l1 t476 from by repeat (first | (with_reducible first | exact HI471.out | apply IsS25.alloc | apply IsS25.drewN | apply IsS25.drew | apply IsS25.set_1 | refine IsS25.far ?_ NB471_470.out _) | exact HI471.out))) : gb477 ≠ gb471)); clear HO475; clear BK470; clear HI471; clear HB; have HO475 := n0_; have BK470 := n1_; have HI471 := n2_; have HB := n3_; have BK477 := n4_; have GW477 := n5_; have GE477 := n6_; have NB470_477 := n7_; have NB477_470 := n8_; have NB471_477 := n9_; have NB477_471 := n10_; clear n0_ n1_ n2_ n3_ n4_ n5_ n6_ n7_ n8_ n9_ n10_; clear hb hbox hg; have hnb16 := NB477_470.out; have hnc16 := NB470_477.out; have hnb17 := NB477_471.out; have hnc17 := NB471_477.out; have hcz18_0 : w15.cell? ⟨gb477, 0, none⟩ = some (.string (⟨#[]⟩ : ByteArray)) := (blk_cell BK477.out 0).trans rfl; have hcz18_1 : w15.cell? ⟨gb477, 1, none⟩ = some (.slice none 0 0) := (blk_cell BK477.out 1).trans rfl; have hfz18_0 := blk_frozen BK477.out 0; have hfz18_1 := blk_frozen BK477.out 1; obtain ⟨Ao19, co19, eo19⟩ := Kd.R_slice HO475.out; subst eo19; have hnb20 := NB470_471.out; have hnc20 := NB471_470.out; have hcz21_0 : w15.cell? ⟨gb470, 0, none⟩ = some (.string a0_0) := (blk_cell BK470.out 0).trans rfl; have hcz21_1 : w15.cell? ⟨gb470, 1, none⟩ = some (.slice A0_1 l0_1.length c0_1) := (blk_cell BK470.out 1).trans rfl; have hfz21_0 := blk_frozen BK470.out 0; have hfz21_1 := blk_frozen BK470.out 1) | ((with_reducible refine gate_callee (f := 19) rfl ?_); refine goesL_ (some 11) rfl rfl Tryd.func19 (by kernel_rfl) rfl #[.agg #[.string a0_0, .slice A0_1 l0_1.length c0_1]] rfl (by (try simp only [List.map_toArray, List.map_cons, List.map_nil]); first | done | rfl | (simp only [List.length_drop, List.length_take]; rfl)) ?_; (with_reducible refine (priceofficelaw06_raw.calls k a0_0 _ _ l0_1 t478 t479 _ ?side1 ?side2 A4.out).mono ?_); (case side1 => exact Kd.C_below HR0_1.out (by repeat (first | (with_reducible first | exact HB.out | apply below_alloc | apply pw_below_drewN | apply below_drew1 | refine below_set ?_ (IsS25.ge HI471.out) | refine below_set ?_ GE470.out | refine below_set ?_ GE477.out) | exact HB.out))); (case side2 => exact HC0_1.out); rintro e w22 ⟨v480, rfl, ho0, hb⟩; refine ⟨_, rfl, ?_⟩; have n0_ := Aside0.mk (Kd.R_elder' (by (with_reducible repeat (first | apply Kd.R_alloc | apply Kd.R_drewN | apply Kd.R_drew)); exact (Kd.R_mono (Kd.R_far (p := ⟨gb477, 1, none⟩) (Kd.R_far (p := ⟨gb477, 0, none⟩) (Kd.R_types HO475.out BK477.out (by decide)) (fun _ hk => hk.2) (.string t472)) (fun _ hk => hk.2) (.slice Ao19 t473.length co19)) (fun _ h_ => h_.1))) (Kd.R_base ho0) hb); have n1_ := Aside0.mk (Kd.R_lower (Kd.R_new' ho0 (Kd.R_lt (by (with_reducible repeat (first | apply Kd.R_alloc | apply Kd.R_drewN | apply Kd.R_drew)); exact (Kd.R_mono (Kd.R_far (p := ⟨gb477, 1, none⟩) (Kd.R_far (p := ⟨gb477, 0, none⟩) (Kd.R_types HO475.out BK477.out (by decide)) (fun _ hk => hk.2) (.string t472)) (fun _ hk => hk.2) (.slice Ao19 t473.length co19)) (fun _ h_ => h_.1))))) (below_size (by repeat (first | (with_reducible first | exact HB.out | apply below_alloc | apply pw_below_drewN | apply below_drew1 | refine below_set ?_ (IsS25.ge HI471.out) | refine below_set ?_ GE470.out | refine below_set ?_ GE477.out) | exact HB.out)))); have n2_ := Aside0.mk (blk_below (g := gb470) (o := .cells #[.string a0_0, .slice A0_1 l0_1.length c0_1] 28 (0, 0)) (by (with_reducible repeat (first | refine blk_drewN ?_ _ | refine blk_drew ?_ | refine blk_alloc ?_ _)); refine blk_far ?_ NB470_477.out _; (with_reducible repeat (first | refine blk_drewN ?_ _ | refine blk_drew ?_ | refine blk_alloc ?_ _)); refine blk_far ?_ NB470_477.out _; (with_reducible repeat (first | refine blk_drewN ?_ _ | refine blk_drew ?_ | refine blk_alloc ?_ _)); exact BK470.out) hb); have n3_ := Aside0.mk (IsS25.below (show IsS25 w ((w15.setCell ⟨gb477, 0, none⟩ (.string t472)).setCell ⟨gb477, 1, none⟩ (.slice Ao19 t473.length co19)) gb471 l1 t476 from by repeat (first | (with_reducible first | exact HI471.out | apply IsS25.alloc | apply IsS25.drewN | apply IsS25.drew | apply IsS25.set_1 | refine IsS25.far ?_ NB471_470.out _ | refine IsS25.far ?_ NB471_477.out _) | exact HI471.out)) hb); have n4_ := Aside0.mk (blk_below (g := gb477) (o := .cells #[.string t472, .slice Ao19 t473.length co19] 28 (0, 0)) (by (with_reducible repeat (first | refine blk_drewN ?_ _ | refine blk_drew ?_ | refine blk_alloc ?_ _)); refine blk_put (cs := #[.string t472, .slice none 0 0]) ?_ 1 _ rfl; (with_reducible repeat (first | refine blk_drewN ?_ _ | refine blk_drew ?_ | refine blk_alloc ?_ _)); refine blk_put (cs := #[.string (⟨#[]⟩ : ByteArray), .slice none 0 0]) ?_ 0 _ rfl; (with_reducible repeat (first | refine blk_drewN ?_ _ | refine blk_drew ?_ | refine blk_alloc ?_ _)); exact BK477.out) hb); have n5_ := Aside0.mk (below_step (by repeat (first | (with_reducible first | exact HB.out | apply below_alloc | apply pw_below_drewN | apply below_drew1 | refine below_set ?_ (IsS25.ge HI471.out) | refine below_set ?_ GE470.out | refine below_set ?_ GE477.out) | exact HB.out)) hb); clear HO475; clear BK470; clear HI471; clear BK477; clear HB; have HO475 := n0_; have HO481 := n1_; have BK470 := n2_; have HI471 := n3_; have BK477 := n4_; have HB := n5_; clear n0_ n1_ n2_ n3_ n4_ n5_; (try clear hb); (try clear hb2); (try clear hk); (try clear hi); (try clear ho0); have hcz23_0 : w22.cell? ⟨gb470, 0, none⟩ = some (.string a0_0) := (blk_cell BK470.out 0).trans rfl; have hcz23_1 : w22.cell? ⟨gb470, 1, none⟩ = some (.slice A0_1 l0_1.length c0_1) := (blk_cell BK470.out 1).trans rfl; have hfz23_0 := blk_frozen BK470.out 0; have hfz23_1 := blk_frozen BK470.out 1; obtain ⟨Ao24, co24, eo24⟩ := Kd.R_slice HO481.out; subst eo24))
      have n0_ : Aside0 (Kd.R Kd.string 9 ((w22.setCell ⟨gb470, 0, none⟩ (.string t478)).setCell ⟨gb470, 1, none⟩ (.slice Ao24 t479.length co24)) w.heap.size (fun k_ => some k_ ≠ (.slice Ao24 t479.length co24 : Value).ownBlock) (.slice Ao19 t473.length co19) t473) := ⟨by (with_reducible repeat (first | apply Kd.R_alloc | apply Kd.R_drewN | apply Kd.R_drew)); exact Kd.R_mono (Kd.R_far (p := ⟨gb470, 1, none⟩) (Kd.R_far (p := ⟨gb470, 0, none⟩) (Kd.R_types HO475.out BK470.out (by decide)) (fun _ hk => hk.2) (.string t478)) (fun _ hk => hk.2) (.slice Ao24 t479.length co24)) (fun _ hk => hk.1.2)⟩
      have n1_ : Aside0 (Kd.R Kd.string 9 ((w22.setCell ⟨gb470, 0, none⟩ (.string t478)).setCell ⟨gb470, 1, none⟩ (.slice Ao24 t479.length co24)) w.heap.size (fun k_ => some k_ ≠ (.slice Ao19 t473.length co19 : Value).ownBlock) (.slice Ao24 t479.length co24) t479) := ⟨by (with_reducible repeat (first | apply Kd.R_alloc | apply Kd.R_drewN | apply Kd.R_drew)); exact Kd.R_mono (Kd.R_far (p := ⟨gb470, 1, none⟩) (Kd.R_far (p := ⟨gb470, 0, none⟩) (Kd.R_types HO481.out BK470.out (by decide)) (fun _ hk => hk.2) (.string t478)) (fun _ hk => hk.2) (.slice Ao24 t479.length co24)) (fun _ hk => hk.1.2)⟩
      have n2_ : Aside0 (((w22.setCell ⟨gb470, 0, none⟩ (.string t478)).setCell ⟨gb470, 1, none⟩ (.slice Ao24 t479.length co24)).heap[gb470]? = some (.cells #[.string t478, .slice Ao24 t479.length co24] 28 (0, 0))) := ⟨by (with_reducible repeat (first | refine blk_drewN ?_ _ | refine blk_drew ?_ | refine blk_alloc ?_ _)); refine blk_put (cs := #[.string t478, .slice A0_1 l0_1.length c0_1]) ?_ 1 _ rfl; (with_reducible repeat (first | refine blk_drewN ?_ _ | refine blk_drew ?_ | refine blk_alloc ?_ _)); refine blk_put (cs := #[.string a0_0, .slice A0_1 l0_1.length c0_1]) ?_ 0 _ rfl; (with_reducible repeat (first | refine blk_drewN ?_ _ | refine blk_drew ?_ | refine blk_alloc ?_ _)); exact BK470.out⟩
      have n3_ : Aside0 (((w22.setCell ⟨gb470, 0, none⟩ (.string t478)).setCell ⟨gb470, 1, none⟩ (.slice Ao24 t479.length co24)).heap[gb477]? = some (.cells #[.string t472, .slice Ao19 t473.length co19] 28 (0, 0))) := ⟨by (with_reducible repeat (first | refine blk_drewN ?_ _ | refine blk_drew ?_ | refine blk_alloc ?_ _)); refine blk_far ?_ NB477_470.out _; (with_reducible repeat (first | refine blk_drewN ?_ _ | refine blk_drew ?_ | refine blk_alloc ?_ _)); refine blk_far ?_ NB477_470.out _; (with_reducible repeat (first | refine blk_drewN ?_ _ | refine blk_drew ?_ | refine blk_alloc ?_ _)); exact BK477.out⟩
      have n4_ : Aside0 (IsS25 w ((w22.setCell ⟨gb470, 0, none⟩ (.string t478)).setCell ⟨gb470, 1, none⟩ (.slice Ao24 t479.length co24)) gb471 l1 t476) := ⟨by repeat (first | (with_reducible first | exact HI471.out | apply IsS25.alloc | apply IsS25.drewN | apply IsS25.drew | apply IsS25.set_1 | refine IsS25.far ?_ NB471_470.out _ | refine IsS25.far ?_ NB471_477.out _) | exact HI471.out)⟩
      have n5_ : Aside0 (Below w.heap.size w ((w22.setCell ⟨gb470, 0, none⟩ (.string t478)).setCell ⟨gb470, 1, none⟩ (.slice Ao24 t479.length co24))) := ⟨by repeat (first | (with_reducible first | exact HB.out | apply below_alloc | apply pw_below_drewN | apply below_drew1 | refine below_set ?_ (IsS25.ge HI471.out) | refine below_set ?_ GE470.out | refine below_set ?_ GE477.out) | exact HB.out)⟩
      (try clear HO475)
      (try clear HO481)
      (try clear BK470)
      (try clear BK477)
      (try clear HI471)
      (try clear HB)
      generalize ((w22.setCell ⟨gb470, 0, none⟩ (.string t478)).setCell ⟨gb470, 1, none⟩ (.slice Ao24 t479.length co24)) = w25 at n0_ n1_ n2_ n3_ n4_ n5_ ⊢
      have HO475 := n0_
      have HO481 := n1_
      have BK470 := n2_
      have BK477 := n3_
      have HI471 := n4_
      have HB := n5_
      clear n0_ n1_ n2_ n3_ n4_ n5_
      have n0_ := Aside0.mk (Kd.R_drew HO475.out)
      have n1_ := Aside0.mk (Kd.R_drew HO481.out)
      have n2_ := Aside0.mk (blk_drew BK470.out)
      have n3_ := Aside0.mk (blk_drew BK477.out)
      have n4_ := Aside0.mk (IsS25.drew HI471.out)
      have n5_ := Aside0.mk (below_drew1 HB.out)
      clear HO475
      clear HO481
      clear BK470
      clear BK477
      clear HI471
      clear HB
      have HO475 := n0_
      have HO481 := n1_
      have BK470 := n2_
      have BK477 := n3_
      have HI471 := n4_
      have HB := n5_
      clear n0_ n1_ n2_ n3_ n4_ n5_
      refine start_ (n := 16) (S := fun w' => w'.cell? ⟨gb470, 0, none⟩ = some (.string t478) ∧ w'.cell? ⟨gb470, 1, none⟩ = some (.slice Ao24 t479.length co24) ∧ w'.cell? ⟨gb477, 0, none⟩ = some (.string t472) ∧ w'.cell? ⟨gb477, 1, none⟩ = some (.slice Ao19 t473.length co19)) (ds := []) #[false, false, false, false, false, false, false, false, false, false, false, false, false, false, false, false] (by kernel_rfl) rfl rfl ⟨(blk_cell BK470.out 0).trans rfl, (blk_cell BK470.out 1).trans rfl, (blk_cell BK477.out 0).trans rfl, (blk_cell BK477.out 1).trans rfl⟩ (fun hHeld => ?_); refine with_tabW priceofficelaw06_ClassificationValid.tab3 priceofficelaw06_ClassificationValid.bits3 (fun HT_ HW_ => ?_)
      generalize w25.drew = w26 at HO475 HO481 BK470 BK477 HI471 HB hHeld ⊢
      refine take_ (i := 0) (N := some 12) (v := ?_) (a' := ?_) #[true, false, false, false, false, false, false, false, false, false, false, false, false, false, false, false] rfl rfl (take_ofW HT_.out HW_.out (by kernel_rfl)) (fun _ _ _ h => h) (Or.inl ⟨by rfl, ?_⟩) hHeld ?_ ?_
      rotate_left
      · rintro w' ⟨s0, s1, s2, s3⟩
        go_simp
        with_reducible rfl
      rotate_left
      · simp only [Act.put, List.setIfInBounds_toArray, List.set_cons_zero, List.set_cons_succ, i64_w, i32_w]
        rfl
      refine take_ (i := 2) (N := some 14) (v := ?_) (a' := ?_) #[true, false, true, false, false, false, false, false, false, false, false, false, false, false, false, false] rfl rfl (take_ofW HT_.out HW_.out (by kernel_rfl)) (fun _ _ _ h => h) (Or.inl ⟨by rfl, ?_⟩) hHeld ?_ ?_
      rotate_left
      · rintro w' ⟨s0, s1, s2, s3⟩
        go_simp
        with_reducible rfl
      rotate_left
      · simp only [Act.put, List.setIfInBounds_toArray, List.set_cons_zero, List.set_cons_succ, i64_w, i32_w]
        rfl
      refine one_ (i := 1) (N := some 13) #[true, true, true, false, false, false, false, false, false, false, false, false, false, false, false, false] rfl rfl (one_of HT_.out (by kernel_rfl)) (by decide) (fun K hK => ?_)
      refine goes_ Tryd.func38 (by kernel_rfl) rfl #[.agg #[.string t478, .slice Ao24 t479.length co24]] (by rfl) rfl rfl (by (try simp only [List.map_toArray, List.map_cons, List.map_nil]); first | done | rfl | (simp only [List.length_drop, List.length_take]; rfl)) ?_
      with_reducible refine (classification_Validate.calls k t478 _ _ t479 t482 _ ?side1 ?side2 ?side3 A5.out).mono ?_
      (case side1 => repeat (first | exact (Kd.R_reads' HO481.out).2.2 | (with_reducible refine Kd.C_alloc ?_ _) | (with_reducible refine Kd.C_drewN ?_ _) | (with_reducible refine Kd.C_drew ?_)))
      (case side2 => exact (Kd.R_reads' HO481.out).2.1)
      (case side3 => first | exact HG.out | exact GL.below HG.out (by repeat (first | (with_reducible first | exact HB.out | apply below_alloc | apply pw_below_drewN | apply below_drew1 | refine below_set ?_ (IsS25.ge HI471.out) | refine below_set ?_ GE470.out | refine below_set ?_ GE477.out) | exact HB.out)))
      rintro e w27 ⟨rfl, hb⟩
      refine ⟨_, rfl, ?_⟩
      have n0_ := Aside0.mk (Kd.R_below (by (with_reducible repeat (first | apply Kd.R_alloc | apply Kd.R_drewN | apply Kd.R_drew)); exact HO475.out) hb)
      have n1_ := Aside0.mk (Kd.R_below (by (with_reducible repeat (first | apply Kd.R_alloc | apply Kd.R_drewN | apply Kd.R_drew)); exact HO481.out) hb)
      have n2_ := Aside0.mk (blk_below (g := gb470) (o := .cells #[.string t478, .slice Ao24 t479.length co24] 28 (0, 0)) (by (with_reducible repeat (first | refine blk_drewN ?_ _ | refine blk_drew ?_ | refine blk_alloc ?_ _)); exact BK470.out) hb)
      have n3_ := Aside0.mk (IsS25.below (by repeat (first | (with_reducible first | exact HI471.out | apply IsS25.alloc | apply IsS25.drewN | apply IsS25.drew | apply IsS25.set_1 | refine IsS25.far ?_ NB471_470.out _ | refine IsS25.far ?_ NB471_477.out _) | exact HI471.out)) hb)
      have n4_ := Aside0.mk (blk_below (g := gb477) (o := .cells #[.string t472, .slice Ao19 t473.length co19] 28 (0, 0)) (by (with_reducible repeat (first | refine blk_drewN ?_ _ | refine blk_drew ?_ | refine blk_alloc ?_ _)); exact BK477.out) hb)
      have n5_ := Aside0.mk (below_step (by repeat (first | (with_reducible first | exact HB.out | apply below_alloc | apply pw_below_drewN | apply below_drew1 | refine below_set ?_ (IsS25.ge HI471.out) | refine below_set ?_ GE470.out | refine below_set ?_ GE477.out) | exact HB.out)) hb)
      clear HO475
      clear HO481
      clear BK470
      clear HI471
      clear BK477
      clear HB
      have HO475 := n0_
      have HO481 := n1_
      have BK470 := n2_
      have HI471 := n3_
      have BK477 := n4_
      have HB := n5_
      clear n0_ n1_ n2_ n3_ n4_ n5_
      (try clear hb)
      (try clear hb2)
      (try clear hk)
      (try clear hi)
      refine hK.out _ _ ⟨(blk_cell BK470.out 0).trans rfl, (blk_cell BK470.out 1).trans rfl, (blk_cell BK477.out 0).trans rfl, (blk_cell BK477.out 1).trans rfl⟩ (fun hHeld => ?_)
      clear hK K
      refine norm_ (a' := ?_) ?_ ?_
      rotate_left
      · show Act.put _ (some 13) _ = _
        simp only [Act.put, List.setIfInBounds_toArray, List.set_cons_zero, List.set_cons_succ, i64_w, i32_w]
        rfl
      refine one_ (i := 3) (N := some 15) #[true, true, true, true, false, false, false, false, false, false, false, false, false, false, false, false] rfl rfl (one_of HT_.out (by kernel_rfl)) (by decide) (fun K hK => ?_)
      refine goes_ Tryd.func39 (by kernel_rfl) rfl #[.agg #[.string t478, .slice Ao24 t479.length co24]] (by rfl) rfl rfl (by (try simp only [List.map_toArray, List.map_cons, List.map_nil]); first | done | rfl | (simp only [List.length_drop, List.length_take]; rfl)) ?_
      with_reducible refine (priceofficeref06_Validate.calls k t478 _ _ t479 t483 _ ?side1 ?side2 A6.out).mono ?_
      (case side1 => repeat (first | exact (Kd.R_reads' HO481.out).2.2 | (with_reducible refine Kd.C_alloc ?_ _) | (with_reducible refine Kd.C_drewN ?_ _) | (with_reducible refine Kd.C_drew ?_)))
      (case side2 => exact (Kd.R_reads' HO481.out).2.1)
      rintro e w28 ⟨rfl, hb⟩
      refine ⟨_, rfl, ?_⟩
      have n0_ := Aside0.mk (Kd.R_below (by (with_reducible repeat (first | apply Kd.R_alloc | apply Kd.R_drewN | apply Kd.R_drew)); exact HO475.out) hb)
      have n1_ := Aside0.mk (Kd.R_below (by (with_reducible repeat (first | apply Kd.R_alloc | apply Kd.R_drewN | apply Kd.R_drew)); exact HO481.out) hb)
      have n2_ := Aside0.mk (blk_below (g := gb470) (o := .cells #[.string t478, .slice Ao24 t479.length co24] 28 (0, 0)) (by (with_reducible repeat (first | refine blk_drewN ?_ _ | refine blk_drew ?_ | refine blk_alloc ?_ _)); exact BK470.out) hb)
      have n3_ := Aside0.mk (IsS25.below (by repeat (first | (with_reducible first | exact HI471.out | apply IsS25.alloc | apply IsS25.drewN | apply IsS25.drew | apply IsS25.set_1 | refine IsS25.far ?_ NB471_470.out _ | refine IsS25.far ?_ NB471_477.out _) | exact HI471.out)) hb)
      have n4_ := Aside0.mk (blk_below (g := gb477) (o := .cells #[.string t472, .slice Ao19 t473.length co19] 28 (0, 0)) (by (with_reducible repeat (first | refine blk_drewN ?_ _ | refine blk_drew ?_ | refine blk_alloc ?_ _)); exact BK477.out) hb)
      have n5_ := Aside0.mk (below_step (by repeat (first | (with_reducible first | exact HB.out | apply below_alloc | apply pw_below_drewN | apply below_drew1 | refine below_set ?_ (IsS25.ge HI471.out) | refine below_set ?_ GE470.out | refine below_set ?_ GE477.out) | exact HB.out)) hb)
      clear HO475
      clear HO481
      clear BK470
      clear HI471
      clear BK477
      clear HB
      have HO475 := n0_
      have HO481 := n1_
      have BK470 := n2_
      have HI471 := n3_
      have BK477 := n4_
      have HB := n5_
      clear n0_ n1_ n2_ n3_ n4_ n5_
      (try clear hb)
      (try clear hb2)
      (try clear hk)
      (try clear hi)
      refine hK.out _ _ ⟨(blk_cell BK470.out 0).trans rfl, (blk_cell BK470.out 1).trans rfl, (blk_cell BK477.out 0).trans rfl, (blk_cell BK477.out 1).trans rfl⟩ (fun hHeld => ?_)
      clear hK K
      refine norm_ (a' := ?_) ?_ ?_
      rotate_left
      · show Act.put _ (some 15) _ = _
        simp only [Act.put, List.setIfInBounds_toArray, List.set_cons_zero, List.set_cons_succ, i64_w, i32_w]
        rfl
      refine pure_ (i := 4) (N := some 16) (v := ?_) (a' := ?_) #[true, true, true, true, true, false, false, false, false, false, false, false, false, false, false, false] rfl rfl (any_of HT_.out (by kernel_rfl)) (fun _ _ _ h => h) (Or.inl ⟨by rfl, ?_⟩) ?_ ?_
      rotate_left
      · intro w'
        go_simp
        with_reducible rfl
      rotate_left
      · simp only [Act.put, List.setIfInBounds_toArray, List.set_cons_zero, List.set_cons_succ, i64_w, i32_w]
        rfl
      refine pure_ (i := 5) (N := some 17) (v := ?_) (a' := ?_) #[true, true, true, true, true, true, false, false, false, false, false, false, false, false, false, false] rfl rfl (any_of HT_.out (by kernel_rfl)) (fun _ _ _ h => h) (Or.inl ⟨by rfl, ?_⟩) ?_ ?_
      rotate_left
      · intro w'
        go_simp
        with_reducible rfl
      rotate_left
      · simp only [Act.put, List.setIfInBounds_toArray, List.set_cons_zero, List.set_cons_succ, i64_w, i32_w]
        rfl
      refine take_ (i := 6) (N := some 18) (v := ?_) (a' := ?_) #[true, true, true, true, true, true, true, false, false, false, false, false, false, false, false, false] rfl rfl (take_ofW HT_.out HW_.out (by kernel_rfl)) (fun _ _ _ h => h) (Or.inl ⟨by rfl, ?_⟩) hHeld ?_ ?_
      rotate_left
      · rintro w' ⟨s0, s1, s2, s3⟩
        go_simp
        with_reducible rfl
      rotate_left
      · simp only [Act.put, List.setIfInBounds_toArray, List.set_cons_zero, List.set_cons_succ, i64_w, i32_w]
        rfl
      refine take_ (i := 8) (N := some 20) (v := ?_) (a' := ?_) #[true, true, true, true, true, true, true, false, true, false, false, false, false, false, false, false] rfl rfl (take_ofW HT_.out HW_.out (by kernel_rfl)) (fun _ _ _ h => h) (Or.inl ⟨by rfl, ?_⟩) hHeld ?_ ?_
      rotate_left
      · rintro w' ⟨s0, s1, s2, s3⟩
        go_simp
        with_reducible rfl
      rotate_left
      · simp only [Act.put, List.setIfInBounds_toArray, List.set_cons_zero, List.set_cons_succ, i64_w, i32_w]
        rfl
      refine one_ (i := 7) (N := some 19) #[true, true, true, true, true, true, true, true, true, false, false, false, false, false, false, false] rfl rfl (one_of HT_.out (by kernel_rfl)) (by decide) (fun K hK => ?_)
      refine goes_ Tryd.func38 (by kernel_rfl) rfl #[.agg #[.string t472, .slice Ao19 t473.length co19]] (by rfl) rfl rfl (by (try simp only [List.map_toArray, List.map_cons, List.map_nil]); first | done | rfl | (simp only [List.length_drop, List.length_take]; rfl)) ?_
      with_reducible refine (classification_Validate.calls k t472 _ _ t473 t484 _ ?side1 ?side2 ?side3 A8.out).mono ?_
      (case side1 => repeat (first | exact (Kd.R_reads' HO475.out).2.2 | (with_reducible refine Kd.C_alloc ?_ _) | (with_reducible refine Kd.C_drewN ?_ _) | (with_reducible refine Kd.C_drew ?_)))
      (case side2 => exact (Kd.R_reads' HO475.out).2.1)
      (case side3 => first | exact HG.out | exact GL.below HG.out (by repeat (first | (with_reducible first | exact HB.out | apply below_alloc | apply pw_below_drewN | apply below_drew1 | refine below_set ?_ (IsS25.ge HI471.out) | refine below_set ?_ GE470.out | refine below_set ?_ GE477.out) | exact HB.out)))
      rintro e w29 ⟨rfl, hb⟩
      refine ⟨_, rfl, ?_⟩
      have n0_ := Aside0.mk (Kd.R_below (by (with_reducible repeat (first | apply Kd.R_alloc | apply Kd.R_drewN | apply Kd.R_drew)); exact HO475.out) hb)
      have n1_ := Aside0.mk (Kd.R_below (by (with_reducible repeat (first | apply Kd.R_alloc | apply Kd.R_drewN | apply Kd.R_drew)); exact HO481.out) hb)
      have n2_ := Aside0.mk (blk_below (g := gb470) (o := .cells #[.string t478, .slice Ao24 t479.length co24] 28 (0, 0)) (by (with_reducible repeat (first | refine blk_drewN ?_ _ | refine blk_drew ?_ | refine blk_alloc ?_ _)); exact BK470.out) hb)
      have n3_ := Aside0.mk (IsS25.below (by repeat (first | (with_reducible first | exact HI471.out | apply IsS25.alloc | apply IsS25.drewN | apply IsS25.drew | apply IsS25.set_1 | refine IsS25.far ?_ NB471_470.out _ | refine IsS25.far ?_ NB471_477.out _) | exact HI471.out)) hb)
      have n4_ := Aside0.mk (blk_below (g := gb477) (o := .cells #[.string t472, .slice Ao19 t473.length co19] 28 (0, 0)) (by (with_reducible repeat (first | refine blk_drewN ?_ _ | refine blk_drew ?_ | refine blk_alloc ?_ _)); exact BK477.out) hb)
      have n5_ := Aside0.mk (below_step (by repeat (first | (with_reducible first | exact HB.out | apply below_alloc | apply pw_below_drewN | apply below_drew1 | refine below_set ?_ (IsS25.ge HI471.out) | refine below_set ?_ GE470.out | refine below_set ?_ GE477.out) | exact HB.out)) hb)
      clear HO475
      clear HO481
      clear BK470
      clear HI471
      clear BK477
      clear HB
      have HO475 := n0_
      have HO481 := n1_
      have BK470 := n2_
      have HI471 := n3_
      have BK477 := n4_
      have HB := n5_
      clear n0_ n1_ n2_ n3_ n4_ n5_
      (try clear hb)
      (try clear hb2)
      (try clear hk)
      (try clear hi)
      refine hK.out _ _ ⟨(blk_cell BK470.out 0).trans rfl, (blk_cell BK470.out 1).trans rfl, (blk_cell BK477.out 0).trans rfl, (blk_cell BK477.out 1).trans rfl⟩ (fun hHeld => ?_)
      clear hK K
      refine norm_ (a' := ?_) ?_ ?_
      rotate_left
      · show Act.put _ (some 19) _ = _
        simp only [Act.put, List.setIfInBounds_toArray, List.set_cons_zero, List.set_cons_succ, i64_w, i32_w]
        rfl
      refine one_ (i := 9) (N := some 21) #[true, true, true, true, true, true, true, true, true, true, false, false, false, false, false, false] rfl rfl (one_of HT_.out (by kernel_rfl)) (by decide) (fun K hK => ?_)
      refine goes_ Tryd.func39 (by kernel_rfl) rfl #[.agg #[.string t472, .slice Ao19 t473.length co19]] (by rfl) rfl rfl (by (try simp only [List.map_toArray, List.map_cons, List.map_nil]); first | done | rfl | (simp only [List.length_drop, List.length_take]; rfl)) ?_
      with_reducible refine (priceofficeref06_Validate.calls k t472 _ _ t473 t485 _ ?side1 ?side2 A9.out).mono ?_
      (case side1 => repeat (first | exact (Kd.R_reads' HO475.out).2.2 | (with_reducible refine Kd.C_alloc ?_ _) | (with_reducible refine Kd.C_drewN ?_ _) | (with_reducible refine Kd.C_drew ?_)))
      (case side2 => exact (Kd.R_reads' HO475.out).2.1)
      rintro e w30 ⟨rfl, hb⟩
      refine ⟨_, rfl, ?_⟩
      have n0_ := Aside0.mk (Kd.R_below (by (with_reducible repeat (first | apply Kd.R_alloc | apply Kd.R_drewN | apply Kd.R_drew)); exact HO475.out) hb)
      have n1_ := Aside0.mk (Kd.R_below (by (with_reducible repeat (first | apply Kd.R_alloc | apply Kd.R_drewN | apply Kd.R_drew)); exact HO481.out) hb)
      have n2_ := Aside0.mk (blk_below (g := gb470) (o := .cells #[.string t478, .slice Ao24 t479.length co24] 28 (0, 0)) (by (with_reducible repeat (first | refine blk_drewN ?_ _ | refine blk_drew ?_ | refine blk_alloc ?_ _)); exact BK470.out) hb)
      have n3_ := Aside0.mk (IsS25.below (by repeat (first | (with_reducible first | exact HI471.out | apply IsS25.alloc | apply IsS25.drewN | apply IsS25.drew | apply IsS25.set_1 | refine IsS25.far ?_ NB471_470.out _ | refine IsS25.far ?_ NB471_477.out _) | exact HI471.out)) hb)
      have n4_ := Aside0.mk (blk_below (g := gb477) (o := .cells #[.string t472, .slice Ao19 t473.length co19] 28 (0, 0)) (by (with_reducible repeat (first | refine blk_drewN ?_ _ | refine blk_drew ?_ | refine blk_alloc ?_ _)); exact BK477.out) hb)
      have n5_ := Aside0.mk (below_step (by repeat (first | (with_reducible first | exact HB.out | apply below_alloc | apply pw_below_drewN | apply below_drew1 | refine below_set ?_ (IsS25.ge HI471.out) | refine below_set ?_ GE470.out | refine below_set ?_ GE477.out) | exact HB.out)) hb)
      clear HO475
      clear HO481
      clear BK470
      clear HI471
      clear BK477
      clear HB
      have HO475 := n0_
      have HO481 := n1_
      have BK470 := n2_
      have HI471 := n3_
      have BK477 := n4_
      have HB := n5_
      clear n0_ n1_ n2_ n3_ n4_ n5_
      (try clear hb)
      (try clear hb2)
      (try clear hk)
      (try clear hi)
      refine hK.out _ _ ⟨(blk_cell BK470.out 0).trans rfl, (blk_cell BK470.out 1).trans rfl, (blk_cell BK477.out 0).trans rfl, (blk_cell BK477.out 1).trans rfl⟩ (fun hHeld => ?_)
      clear hK K
      refine norm_ (a' := ?_) ?_ ?_
      rotate_left
      · show Act.put _ (some 21) _ = _
        simp only [Act.put, List.setIfInBounds_toArray, List.set_cons_zero, List.set_cons_succ, i64_w, i32_w]
        rfl
      refine pure_ (i := 10) (N := some 22) (v := ?_) (a' := ?_) #[true, true, true, true, true, true, true, true, true, true, true, false, false, false, false, false] rfl rfl (any_of HT_.out (by kernel_rfl)) (fun _ _ _ h => h) (Or.inl ⟨by rfl, ?_⟩) ?_ ?_
      rotate_left
      · intro w'
        go_simp
        with_reducible rfl
      rotate_left
      · simp only [Act.put, List.setIfInBounds_toArray, List.set_cons_zero, List.set_cons_succ, i64_w, i32_w]
        rfl
      refine pure_ (i := 11) (N := some 23) (v := ?_) (a' := ?_) #[true, true, true, true, true, true, true, true, true, true, true, true, false, false, false, false] rfl rfl (any_of HT_.out (by kernel_rfl)) (fun _ _ _ h => h) (Or.inl ⟨by rfl, ?_⟩) ?_ ?_
      rotate_left
      · intro w'
        go_simp
        with_reducible rfl
      rotate_left
      · simp only [Act.put, List.setIfInBounds_toArray, List.set_cons_zero, List.set_cons_succ, i64_w, i32_w]
        rfl
      refine pure_ (i := 12) (N := some 24) (v := ?_) (a' := ?_) #[true, true, true, true, true, true, true, true, true, true, true, true, true, false, false, false] rfl rfl (any_of HT_.out (by kernel_rfl)) (fun _ _ _ h => h) (Or.inl ⟨by rfl, ?_⟩) ?_ ?_
      rotate_left
      · intro w'
        go_simp
        with_reducible rfl
      rotate_left
      · simp only [Act.put, List.setIfInBounds_toArray, List.set_cons_zero, List.set_cons_succ, i64_w, i32_w]
        rfl
      refine one_ (i := 13) (N := some 25) #[true, true, true, true, true, true, true, true, true, true, true, true, true, true, false, false] rfl rfl (one_of HT_.out (by kernel_rfl)) (by decide) (fun K hK => ?_)
      refine goes_ Tryd.func17 (by kernel_rfl) rfl #[] (by rfl) rfl rfl (by (try simp only [List.map_toArray, List.map_cons, List.map_nil]); first | done | rfl | (simp only [List.length_drop, List.length_take]; rfl)) ?_
      with_reducible refine (priceofficelaw06_awake.calls k  t486 _ ?side1 A11.out).mono ?_
      (case side1 => first | exact HG.out | exact GL.below HG.out (by repeat (first | (with_reducible first | exact HB.out | apply below_alloc | apply pw_below_drewN | apply below_drew1 | refine below_set ?_ (IsS25.ge HI471.out) | refine below_set ?_ GE470.out | refine below_set ?_ GE477.out) | exact HB.out)))
      rintro e w31 ⟨rfl, hb⟩
      refine ⟨_, rfl, ?_⟩
      have n0_ := Aside0.mk (Kd.R_below (by (with_reducible repeat (first | apply Kd.R_alloc | apply Kd.R_drewN | apply Kd.R_drew)); exact HO475.out) hb)
      have n1_ := Aside0.mk (Kd.R_below (by (with_reducible repeat (first | apply Kd.R_alloc | apply Kd.R_drewN | apply Kd.R_drew)); exact HO481.out) hb)
      have n2_ := Aside0.mk (blk_below (g := gb470) (o := .cells #[.string t478, .slice Ao24 t479.length co24] 28 (0, 0)) (by (with_reducible repeat (first | refine blk_drewN ?_ _ | refine blk_drew ?_ | refine blk_alloc ?_ _)); exact BK470.out) hb)
      have n3_ := Aside0.mk (IsS25.below (by repeat (first | (with_reducible first | exact HI471.out | apply IsS25.alloc | apply IsS25.drewN | apply IsS25.drew | apply IsS25.set_1 | refine IsS25.far ?_ NB471_470.out _ | refine IsS25.far ?_ NB471_477.out _) | exact HI471.out)) hb)
      have n4_ := Aside0.mk (blk_below (g := gb477) (o := .cells #[.string t472, .slice Ao19 t473.length co19] 28 (0, 0)) (by (with_reducible repeat (first | refine blk_drewN ?_ _ | refine blk_drew ?_ | refine blk_alloc ?_ _)); exact BK477.out) hb)
      have n5_ := Aside0.mk (below_step (by repeat (first | (with_reducible first | exact HB.out | apply below_alloc | apply pw_below_drewN | apply below_drew1 | refine below_set ?_ (IsS25.ge HI471.out) | refine below_set ?_ GE470.out | refine below_set ?_ GE477.out) | exact HB.out)) hb)
      clear HO475
      clear HO481
      clear BK470
      clear HI471
      clear BK477
      clear HB
      have HO475 := n0_
      have HO481 := n1_
      have BK470 := n2_
      have HI471 := n3_
      have BK477 := n4_
      have HB := n5_
      clear n0_ n1_ n2_ n3_ n4_ n5_
      (try clear hb)
      (try clear hb2)
      (try clear hk)
      (try clear hi)
      refine hK.out _ _ ⟨(blk_cell BK470.out 0).trans rfl, (blk_cell BK470.out 1).trans rfl, (blk_cell BK477.out 0).trans rfl, (blk_cell BK477.out 1).trans rfl⟩ (fun hHeld => ?_)
      clear hK K
      refine norm_ (a' := ?_) ?_ ?_
      rotate_left
      · show Act.put _ (some 25) _ = _
        simp only [Act.put, List.setIfInBounds_toArray, List.set_cons_zero, List.set_cons_succ, i64_w, i32_w]
        rfl
      refine pure_ (i := 14) (N := some 26) (v := ?_) (a' := ?_) #[true, true, true, true, true, true, true, true, true, true, true, true, true, true, true, false] rfl rfl (any_of HT_.out (by kernel_rfl)) (fun _ _ _ h => h) (Or.inl ⟨by rfl, ?_⟩) ?_ ?_
      rotate_left
      · intro w'
        go_simp
        with_reducible rfl
      rotate_left
      · simp only [Act.put, List.setIfInBounds_toArray, List.set_cons_zero, List.set_cons_succ, i64_w, i32_w]
        rfl
      refine pure_ (i := 15) (N := some 4) (v := ?_) (a' := ?_) #[true, true, true, true, true, true, true, true, true, true, true, true, true, true, true, true] rfl rfl (any_of HT_.out (by kernel_rfl)) (fun _ _ _ h => h) (Or.inl ⟨by rfl, ?_⟩) ?_ ?_
      rotate_left
      · intro w'
        go_simp
        with_reducible rfl
      rotate_left
      · simp only [Act.put, List.setIfInBounds_toArray, List.set_cons_zero, List.set_cons_succ, i64_w, i32_w]
        rfl
      refine done_ (done_of HT_.out (by kernel_rfl)) ?_
      try go_wp2
      go_ret
      exact ⟨by first | rfl | (simp [errW_none, errW_some] <;> rfl) | (simp [*, errW_none, errW_some] <;> rfl), by repeat (first | (with_reducible first | exact HB.out | apply below_alloc | apply pw_below_drewN | apply below_drew1 | refine below_set ?_ (IsS25.ge HI471.out) | refine below_set ?_ GE470.out | refine below_set ?_ GE477.out) | exact HB.out)⟩
    · rw [if_neg c10] at H
      have c10b0 : (t484 == t485) = false := beq_eq_false_iff_ne.mpr c10
      have c10b1 : (t484 != t485) = true := bne_iff_ne.mpr c10
      obtain rfl := Option.some.inj H
      go_enter Tryd.func9, Tryd.ntmps9
      try go_wp2_with (first | ((with_reducible refine gate_dst (N := 2) rfl ?_); refine box_event ?hg (N := 2) ?hd (cs := #[.string a0_0, .slice A0_1 l0_1.length c0_1]) (t := 28) ?hr ?_; (case hd => rfl); (case hg => rfl); (case hr => first | (go_simp; done) | (go_simp; rfl)); intro gb470 hg w32 hbox hb; have n0_ := Aside0.mk (below_step (by repeat (first | (with_reducible first | exact HB.out | apply below_alloc | apply pw_below_drewN | apply below_drew1) | exact HB.out)) hb); have n1_ := Aside0.mk (hbox); have n2_ := Aside0.mk ((by rw [hg]; exact (below_size (by repeat (first | (with_reducible first | exact HB.out | apply below_alloc | apply pw_below_drewN | apply below_drew1) | exact HB.out))) : w.heap.size ≤ gb470)); have n3_ := Aside0.mk ((by rw [hg]; exact (below_size (by repeat (first | (with_reducible first | exact HB.out | apply below_alloc | apply pw_below_drewN | apply below_drew1) | exact HB.out))) : w.heap.size ≤ gb470)); clear HB; have HB := n0_; have BK470 := n1_; have GW470 := n2_; have GE470 := n3_; clear n0_ n1_ n2_ n3_; clear hb hbox hg) | ((with_reducible refine gate_dst (N := 8) rfl ?_); refine box_event ?hg (N := 8) ?hd (cs := #[.slice A1 l1.length c1, .int .i64 0]) (t := 25) ?hr ?_; (case hd => rfl); (case hg => rfl); (case hr => first | (go_simp; done) | (go_simp; rfl)); intro gb471 hg w33 hbox hb; have n0_ := Aside0.mk (blk_below (g := gb470) (o := .cells #[.string a0_0, .slice A0_1 l0_1.length c0_1] 28 (0, 0)) (by (with_reducible repeat (first | refine blk_drewN ?_ _ | refine blk_drew ?_ | refine blk_alloc ?_ _)); exact BK470.out) hb); have n1_ := Aside0.mk (below_step (by repeat (first | (with_reducible first | exact HB.out | apply below_alloc | apply pw_below_drewN | apply below_drew1 | refine below_set ?_ GE470.out) | exact HB.out)) hb); have n2_ := Aside0.mk (hbox); have n3_ := Aside0.mk ((by rw [hg]; exact (below_size (by repeat (first | (with_reducible first | exact HB.out | apply below_alloc | apply pw_below_drewN | apply below_drew1 | refine below_set ?_ GE470.out) | exact HB.out))) : w.heap.size ≤ gb471)); have n4_ := Aside0.mk ((by rw [hg]; exact (below_size (by repeat (first | (with_reducible first | exact HB.out | apply below_alloc | apply pw_below_drewN | apply below_drew1 | refine below_set ?_ GE470.out) | exact HB.out))) : w.heap.size ≤ gb471)); have n5_ := Aside0.mk ((by rw [hg]; exact Nat.ne_of_lt (blk_lt (g := gb470) (o := .cells #[.string a0_0, .slice A0_1 l0_1.length c0_1] 28 (0, 0)) (by (with_reducible repeat (first | refine blk_drewN ?_ _ | refine blk_drew ?_ | refine blk_alloc ?_ _)); exact BK470.out)) : gb470 ≠ gb471)); have n6_ := Aside0.mk ((by rw [hg]; exact Nat.ne_of_gt (blk_lt (g := gb470) (o := .cells #[.string a0_0, .slice A0_1 l0_1.length c0_1] 28 (0, 0)) (by (with_reducible repeat (first | refine blk_drewN ?_ _ | refine blk_drew ?_ | refine blk_alloc ?_ _)); exact BK470.out)) : gb471 ≠ gb470)); have n7_ := Aside0.mk ((show IsS25 w w33 gb471 l1 0 from ⟨_, _, hbox, (by rw [hg]; exact (below_size (by repeat (first | (with_reducible first | exact HB.out | apply below_alloc | apply pw_below_drewN | apply below_drew1 | refine below_set ?_ GE470.out) | exact HB.out))) : w.heap.size ≤ gb471), HR1.out⟩)); clear BK470; clear HB; have BK470 := n0_; have HB := n1_; have BK471 := n2_; have GW471 := n3_; have GE471 := n4_; have NB470_471 := n5_; have NB471_470 := n6_; have HI471 := n7_; clear n0_ n1_ n2_ n3_ n4_ n5_ n6_ n7_; clear hb hbox hg) | ((with_reducible refine gate_callee (f := 37) rfl ?_); refine goesL_ (some 9) rfl rfl Tryd.func37 (by kernel_rfl) rfl #[.pointer (some ⟨gb471, 0, none⟩)] rfl (by (try simp only [List.map_toArray, List.map_cons, List.map_nil]); first | done | rfl | (simp only [List.length_drop, List.length_take]; rfl)) ?_; (with_reducible refine (priceofficelaw06_spoiled.calls k gb471 l1 0 t472 t473 t476 w _ ?side1 ?side2 A3.out).mono ?_); (case side1 => repeat (first | (with_reducible first | exact HI471.out | apply IsS25.alloc | apply IsS25.drewN | apply IsS25.drew | apply IsS25.set_1 | refine IsS25.far ?_ NB471_470.out _) | exact HI471.out)); (case side2 => repeat (first | (with_reducible first | exact HB.out | apply below_alloc | apply pw_below_drewN | apply below_drew1 | refine below_set ?_ (IsS25.ge HI471.out) | refine below_set ?_ GE470.out) | exact HB.out)); rintro e w34 ⟨v474, rfl, ho0, hi, hb, hk⟩; refine ⟨_, rfl, ?_⟩; have n0_ := Aside0.mk (KeepBut.blk hk (g' := gb470) (o := .cells #[.string a0_0, .slice A0_1 l0_1.length c0_1] 28 (0, 0)) (by (with_reducible repeat (first | refine blk_drewN ?_ _ | refine blk_drew ?_ | refine blk_alloc ?_ _)); exact BK470.out) NB470_471.out (by simp)); have n1_ := Aside0.mk (Kd.R_lower ho0 (below_size (by repeat (first | (with_reducible first | exact HB.out | apply below_alloc | apply pw_below_drewN | apply below_drew1 | refine below_set ?_ (IsS25.ge HI471.out) | refine below_set ?_ GE470.out) | exact HB.out)))); have n2_ := Aside0.mk (hb); have n3_ := Aside0.mk (hi); clear BK470; clear HB; clear HI471; have BK470 := n0_; have HO475 := n1_; have HB := n2_; have HI471 := n3_; clear n0_ n1_ n2_ n3_; (try clear hb); (try clear hb2); (try clear hk); (try clear hi); (try clear ho0)) | ((with_reducible refine gate_dst (N := 5) rfl ?_); refine box_event ?hg (N := 5) ?hd (cs := #[.string (⟨#[]⟩ : ByteArray), .slice none 0 0]) (t := 28) ?hr ?_; (case hd => rfl); (case hg => rfl); (case hr => first | (go_simp; done) | (go_simp; rfl)); intro gb477 hg w35 hbox hb; have n0_ := Aside0.mk (Kd.R_below (by (with_reducible repeat (first | apply Kd.R_alloc | apply Kd.R_drewN | apply Kd.R_drew)); exact HO475.out) hb); have n1_ := Aside0.mk (blk_below (g := gb470) (o := .cells #[.string a0_0, .slice A0_1 l0_1.length c0_1] 28 (0, 0)) (by (with_reducible repeat (first | refine blk_drewN ?_ _ | refine blk_drew ?_ | refine blk_alloc ?_ _)); exact BK470.out) hb); have n2_ := Aside0.mk (IsS25.below (by repeat (first | (with_reducible first | exact HI471.out | apply IsS25.alloc | apply IsS25.drewN | apply IsS25.drew | apply IsS25.set_1 | refine IsS25.far ?_ NB471_470.out _) | exact HI471.out)) hb); have n3_ := Aside0.mk (below_step (by repeat (first | (with_reducible first | exact HB.out | apply below_alloc | apply pw_below_drewN | apply below_drew1 | refine below_set ?_ (IsS25.ge HI471.out) | refine below_set ?_ GE470.out) | exact HB.out)) hb); have n4_ := Aside0.mk (hbox); have n5_ := Aside0.mk ((by rw [hg]; exact (below_size (by repeat (first | (with_reducible first | exact HB.out | apply below_alloc | apply pw_below_drewN | apply below_drew1 | refine below_set ?_ (IsS25.ge HI471.out) | refine below_set ?_ GE470.out) | exact HB.out))) : w.heap.size ≤ gb477)); have n6_ := Aside0.mk ((by rw [hg]; exact (below_size (by repeat (first | (with_reducible first | exact HB.out | apply below_alloc | apply pw_below_drewN | apply below_drew1 | refine below_set ?_ (IsS25.ge HI471.out) | refine below_set ?_ GE470.out) | exact HB.out))) : w.heap.size ≤ gb477)); have n7_ := Aside0.mk ((by rw [hg]; exact Nat.ne_of_lt (blk_lt (g := gb470) (o := .cells #[.string a0_0, .slice A0_1 l0_1.length c0_1] 28 (0, 0)) (by (with_reducible repeat (first | refine blk_drewN ?_ _ | refine blk_drew ?_ | refine blk_alloc ?_ _)); exact BK470.out)) : gb470 ≠ gb477)); have n8_ := Aside0.mk ((by rw [hg]; exact Nat.ne_of_gt (blk_lt (g := gb470) (o := .cells #[.string a0_0, .slice A0_1 l0_1.length c0_1] 28 (0, 0)) (by (with_reducible repeat (first | refine blk_drewN ?_ _ | refine blk_drew ?_ | refine blk_alloc ?_ _)); exact BK470.out)) : gb477 ≠ gb470)); have n9_ := Aside0.mk ((by rw [hg]; exact Nat.ne_of_lt (IsS25.lt (show IsS25 w _ gb471 l1 t476 from by repeat (first | (with_reducible first | exact HI471.out | apply IsS25.alloc | apply IsS25.drewN | apply IsS25.drew | apply IsS25.set_1 | refine IsS25.far ?_ NB471_470.out _) | exact HI471.out))) : gb471 ≠ gb477)); have n10_ := Aside0.mk ((by rw [hg]; exact Nat.ne_of_gt (IsS25.lt (show IsS25 w _ gb471 l1 t476 from by repeat (first | (with_reducible first | exact HI471.out | apply IsS25.alloc | apply IsS25.drewN | apply IsS25.drew | apply IsS25.set_1 | refine IsS25.far ?_ NB471_470.out _) | exact HI471.out))) : gb477 ≠ gb471)); clear HO475; clear BK470; clear HI471; clear HB; have HO475 := n0_; have BK470 := n1_; have HI471 := n2_; have HB := n3_; have BK477 := n4_; have GW477 := n5_; have GE477 := n6_; have NB470_477 := n7_; have NB477_470 := n8_; have NB471_477 := n9_; have NB477_471 := n10_; clear n0_ n1_ n2_ n3_ n4_ n5_ n6_ n7_ n8_ n9_ n10_; clear hb hbox hg; have hnb36 := NB477_470.out; have hnc36 := NB470_477.out; have hnb37 := NB477_471.out; have hnc37 := NB471_477.out; have hcz38_0 : w35.cell? ⟨gb477, 0, none⟩ = some (.string (⟨#[]⟩ : ByteArray)) := (blk_cell BK477.out 0).trans rfl; have hcz38_1 : w35.cell? ⟨gb477, 1, none⟩ = some (.slice none 0 0) := (blk_cell BK477.out 1).trans rfl; have hfz38_0 := blk_frozen BK477.out 0; have hfz38_1 := blk_frozen BK477.out 1; obtain ⟨Ao39, co39, eo39⟩ := Kd.R_slice HO475.out; subst eo39; have hnb40 := NB470_471.out; have hnc40 := NB471_470.out; have hcz41_0 : w35.cell? ⟨gb470, 0, none⟩ = some (.string a0_0) := (blk_cell BK470.out 0).trans rfl; have hcz41_1 : w35.cell? ⟨gb470, 1, none⟩ = some (.slice A0_1 l0_1.length c0_1) := (blk_cell BK470.out 1).trans rfl; have hfz41_0 := blk_frozen BK470.out 0; have hfz41_1 := blk_frozen BK470.out 1) | ((with_reducible refine gate_callee (f := 19) rfl ?_); refine goesL_ (some 11) rfl rfl Tryd.func19 (by kernel_rfl) rfl #[.agg #[.string a0_0, .slice A0_1 l0_1.length c0_1]] rfl (by (try simp only [List.map_toArray, List.map_cons, List.map_nil]); first | done | rfl | (simp only [List.length_drop, List.length_take]; rfl)) ?_; (with_reducible refine (priceofficelaw06_raw.calls k a0_0 _ _ l0_1 t478 t479 _ ?side1 ?side2 A4.out).mono ?_); (case side1 => exact Kd.C_below HR0_1.out (by repeat (first | (with_reducible first | exact HB.out | apply below_alloc | apply pw_below_drewN | apply below_drew1 | refine below_set ?_ (IsS25.ge HI471.out) | refine below_set ?_ GE470.out | refine below_set ?_ GE477.out) | exact HB.out))); (case side2 => exact HC0_1.out); rintro e w42 ⟨v480, rfl, ho0, hb⟩; refine ⟨_, rfl, ?_⟩; have n0_ := Aside0.mk (Kd.R_elder' (by (with_reducible repeat (first | apply Kd.R_alloc | apply Kd.R_drewN | apply Kd.R_drew)); exact (Kd.R_mono (Kd.R_far (p := ⟨gb477, 1, none⟩) (Kd.R_far (p := ⟨gb477, 0, none⟩) (Kd.R_types HO475.out BK477.out (by decide)) (fun _ hk => hk.2) (.string t472)) (fun _ hk => hk.2) (.slice Ao39 t473.length co39)) (fun _ h_ => h_.1))) (Kd.R_base ho0) hb); have n1_ := Aside0.mk (Kd.R_lower (Kd.R_new' ho0 (Kd.R_lt (by (with_reducible repeat (first | apply Kd.R_alloc | apply Kd.R_drewN | apply Kd.R_drew)); exact (Kd.R_mono (Kd.R_far (p := ⟨gb477, 1, none⟩) (Kd.R_far (p := ⟨gb477, 0, none⟩) (Kd.R_types HO475.out BK477.out (by decide)) (fun _ hk => hk.2) (.string t472)) (fun _ hk => hk.2) (.slice Ao39 t473.length co39)) (fun _ h_ => h_.1))))) (below_size (by repeat (first | (with_reducible first | exact HB.out | apply below_alloc | apply pw_below_drewN | apply below_drew1 | refine below_set ?_ (IsS25.ge HI471.out) | refine below_set ?_ GE470.out | refine below_set ?_ GE477.out) | exact HB.out)))); have n2_ := Aside0.mk (blk_below (g := gb470) (o := .cells #[.string a0_0, .slice A0_1 l0_1.length c0_1] 28 (0, 0)) (by (with_reducible repeat (first | refine blk_drewN ?_ _ | refine blk_drew ?_ | refine blk_alloc ?_ _)); refine blk_far ?_ NB470_477.out _; (with_reducible repeat (first | refine blk_drewN ?_ _ | refine blk_drew ?_ | refine blk_alloc ?_ _)); refine blk_far ?_ NB470_477.out _; (with_reducible repeat (first | refine blk_drewN ?_ _ | refine blk_drew ?_ | refine blk_alloc ?_ _)); exact BK470.out) hb); have n3_ := Aside0.mk (IsS25.below (show IsS25 w ((w35.setCell ⟨gb477, 0, none⟩ (.string t472)).setCell ⟨gb477, 1, none⟩ (.slice Ao39 t473.length co39)) gb471 l1 t476 from by repeat (first | (with_reducible first | exact HI471.out | apply IsS25.alloc | apply IsS25.drewN | apply IsS25.drew | apply IsS25.set_1 | refine IsS25.far ?_ NB471_470.out _ | refine IsS25.far ?_ NB471_477.out _) | exact HI471.out)) hb); have n4_ := Aside0.mk (blk_below (g := gb477) (o := .cells #[.string t472, .slice Ao39 t473.length co39] 28 (0, 0)) (by (with_reducible repeat (first | refine blk_drewN ?_ _ | refine blk_drew ?_ | refine blk_alloc ?_ _)); refine blk_put (cs := #[.string t472, .slice none 0 0]) ?_ 1 _ rfl; (with_reducible repeat (first | refine blk_drewN ?_ _ | refine blk_drew ?_ | refine blk_alloc ?_ _)); refine blk_put (cs := #[.string (⟨#[]⟩ : ByteArray), .slice none 0 0]) ?_ 0 _ rfl; (with_reducible repeat (first | refine blk_drewN ?_ _ | refine blk_drew ?_ | refine blk_alloc ?_ _)); exact BK477.out) hb); have n5_ := Aside0.mk (below_step (by repeat (first | (with_reducible first | exact HB.out | apply below_alloc | apply pw_below_drewN | apply below_drew1 | refine below_set ?_ (IsS25.ge HI471.out) | refine below_set ?_ GE470.out | refine below_set ?_ GE477.out) | exact HB.out)) hb); clear HO475; clear BK470; clear HI471; clear BK477; clear HB; have HO475 := n0_; have HO481 := n1_; have BK470 := n2_; have HI471 := n3_; have BK477 := n4_; have HB := n5_; clear n0_ n1_ n2_ n3_ n4_ n5_; (try clear hb); (try clear hb2); (try clear hk); (try clear hi); (try clear ho0); have hcz43_0 : w42.cell? ⟨gb470, 0, none⟩ = some (.string a0_0) := (blk_cell BK470.out 0).trans rfl; have hcz43_1 : w42.cell? ⟨gb470, 1, none⟩ = some (.slice A0_1 l0_1.length c0_1) := (blk_cell BK470.out 1).trans rfl; have hfz43_0 := blk_frozen BK470.out 0; have hfz43_1 := blk_frozen BK470.out 1; obtain ⟨Ao44, co44, eo44⟩ := Kd.R_slice HO481.out; subst eo44))
      have n0_ : Aside0 (Kd.R Kd.string 9 ((w42.setCell ⟨gb470, 0, none⟩ (.string t478)).setCell ⟨gb470, 1, none⟩ (.slice Ao44 t479.length co44)) w.heap.size (fun k_ => some k_ ≠ (.slice Ao44 t479.length co44 : Value).ownBlock) (.slice Ao39 t473.length co39) t473) := ⟨by (with_reducible repeat (first | apply Kd.R_alloc | apply Kd.R_drewN | apply Kd.R_drew)); exact Kd.R_mono (Kd.R_far (p := ⟨gb470, 1, none⟩) (Kd.R_far (p := ⟨gb470, 0, none⟩) (Kd.R_types HO475.out BK470.out (by decide)) (fun _ hk => hk.2) (.string t478)) (fun _ hk => hk.2) (.slice Ao44 t479.length co44)) (fun _ hk => hk.1.2)⟩
      have n1_ : Aside0 (Kd.R Kd.string 9 ((w42.setCell ⟨gb470, 0, none⟩ (.string t478)).setCell ⟨gb470, 1, none⟩ (.slice Ao44 t479.length co44)) w.heap.size (fun k_ => some k_ ≠ (.slice Ao39 t473.length co39 : Value).ownBlock) (.slice Ao44 t479.length co44) t479) := ⟨by (with_reducible repeat (first | apply Kd.R_alloc | apply Kd.R_drewN | apply Kd.R_drew)); exact Kd.R_mono (Kd.R_far (p := ⟨gb470, 1, none⟩) (Kd.R_far (p := ⟨gb470, 0, none⟩) (Kd.R_types HO481.out BK470.out (by decide)) (fun _ hk => hk.2) (.string t478)) (fun _ hk => hk.2) (.slice Ao44 t479.length co44)) (fun _ hk => hk.1.2)⟩
      have n2_ : Aside0 (((w42.setCell ⟨gb470, 0, none⟩ (.string t478)).setCell ⟨gb470, 1, none⟩ (.slice Ao44 t479.length co44)).heap[gb470]? = some (.cells #[.string t478, .slice Ao44 t479.length co44] 28 (0, 0))) := ⟨by (with_reducible repeat (first | refine blk_drewN ?_ _ | refine blk_drew ?_ | refine blk_alloc ?_ _)); refine blk_put (cs := #[.string t478, .slice A0_1 l0_1.length c0_1]) ?_ 1 _ rfl; (with_reducible repeat (first | refine blk_drewN ?_ _ | refine blk_drew ?_ | refine blk_alloc ?_ _)); refine blk_put (cs := #[.string a0_0, .slice A0_1 l0_1.length c0_1]) ?_ 0 _ rfl; (with_reducible repeat (first | refine blk_drewN ?_ _ | refine blk_drew ?_ | refine blk_alloc ?_ _)); exact BK470.out⟩
      have n3_ : Aside0 (((w42.setCell ⟨gb470, 0, none⟩ (.string t478)).setCell ⟨gb470, 1, none⟩ (.slice Ao44 t479.length co44)).heap[gb477]? = some (.cells #[.string t472, .slice Ao39 t473.length co39] 28 (0, 0))) := ⟨by (with_reducible repeat (first | refine blk_drewN ?_ _ | refine blk_drew ?_ | refine blk_alloc ?_ _)); refine blk_far ?_ NB477_470.out _; (with_reducible repeat (first | refine blk_drewN ?_ _ | refine blk_drew ?_ | refine blk_alloc ?_ _)); refine blk_far ?_ NB477_470.out _; (with_reducible repeat (first | refine blk_drewN ?_ _ | refine blk_drew ?_ | refine blk_alloc ?_ _)); exact BK477.out⟩
      have n4_ : Aside0 (IsS25 w ((w42.setCell ⟨gb470, 0, none⟩ (.string t478)).setCell ⟨gb470, 1, none⟩ (.slice Ao44 t479.length co44)) gb471 l1 t476) := ⟨by repeat (first | (with_reducible first | exact HI471.out | apply IsS25.alloc | apply IsS25.drewN | apply IsS25.drew | apply IsS25.set_1 | refine IsS25.far ?_ NB471_470.out _ | refine IsS25.far ?_ NB471_477.out _) | exact HI471.out)⟩
      have n5_ : Aside0 (Below w.heap.size w ((w42.setCell ⟨gb470, 0, none⟩ (.string t478)).setCell ⟨gb470, 1, none⟩ (.slice Ao44 t479.length co44))) := ⟨by repeat (first | (with_reducible first | exact HB.out | apply below_alloc | apply pw_below_drewN | apply below_drew1 | refine below_set ?_ (IsS25.ge HI471.out) | refine below_set ?_ GE470.out | refine below_set ?_ GE477.out) | exact HB.out)⟩
      (try clear HO475)
      (try clear HO481)
      (try clear BK470)
      (try clear BK477)
      (try clear HI471)
      (try clear HB)
      generalize ((w42.setCell ⟨gb470, 0, none⟩ (.string t478)).setCell ⟨gb470, 1, none⟩ (.slice Ao44 t479.length co44)) = w45 at n0_ n1_ n2_ n3_ n4_ n5_ ⊢
      have HO475 := n0_
      have HO481 := n1_
      have BK470 := n2_
      have BK477 := n3_
      have HI471 := n4_
      have HB := n5_
      clear n0_ n1_ n2_ n3_ n4_ n5_
      have n0_ := Aside0.mk (Kd.R_drew HO475.out)
      have n1_ := Aside0.mk (Kd.R_drew HO481.out)
      have n2_ := Aside0.mk (blk_drew BK470.out)
      have n3_ := Aside0.mk (blk_drew BK477.out)
      have n4_ := Aside0.mk (IsS25.drew HI471.out)
      have n5_ := Aside0.mk (below_drew1 HB.out)
      clear HO475
      clear HO481
      clear BK470
      clear BK477
      clear HI471
      clear HB
      have HO475 := n0_
      have HO481 := n1_
      have BK470 := n2_
      have BK477 := n3_
      have HI471 := n4_
      have HB := n5_
      clear n0_ n1_ n2_ n3_ n4_ n5_
      refine start_ (n := 16) (S := fun w' => w'.cell? ⟨gb470, 0, none⟩ = some (.string t478) ∧ w'.cell? ⟨gb470, 1, none⟩ = some (.slice Ao44 t479.length co44) ∧ w'.cell? ⟨gb477, 0, none⟩ = some (.string t472) ∧ w'.cell? ⟨gb477, 1, none⟩ = some (.slice Ao39 t473.length co39)) (ds := []) #[false, false, false, false, false, false, false, false, false, false, false, false, false, false, false, false] (by kernel_rfl) rfl rfl ⟨(blk_cell BK470.out 0).trans rfl, (blk_cell BK470.out 1).trans rfl, (blk_cell BK477.out 0).trans rfl, (blk_cell BK477.out 1).trans rfl⟩ (fun hHeld => ?_); refine with_tabW priceofficelaw06_ClassificationValid.tab3 priceofficelaw06_ClassificationValid.bits3 (fun HT_ HW_ => ?_)
      generalize w45.drew = w46 at HO475 HO481 BK470 BK477 HI471 HB hHeld ⊢
      refine take_ (i := 0) (N := some 12) (v := ?_) (a' := ?_) #[true, false, false, false, false, false, false, false, false, false, false, false, false, false, false, false] rfl rfl (take_ofW HT_.out HW_.out (by kernel_rfl)) (fun _ _ _ h => h) (Or.inl ⟨by rfl, ?_⟩) hHeld ?_ ?_
      rotate_left
      · rintro w' ⟨s0, s1, s2, s3⟩
        go_simp
        with_reducible rfl
      rotate_left
      · simp only [Act.put, List.setIfInBounds_toArray, List.set_cons_zero, List.set_cons_succ, i64_w, i32_w]
        rfl
      refine take_ (i := 2) (N := some 14) (v := ?_) (a' := ?_) #[true, false, true, false, false, false, false, false, false, false, false, false, false, false, false, false] rfl rfl (take_ofW HT_.out HW_.out (by kernel_rfl)) (fun _ _ _ h => h) (Or.inl ⟨by rfl, ?_⟩) hHeld ?_ ?_
      rotate_left
      · rintro w' ⟨s0, s1, s2, s3⟩
        go_simp
        with_reducible rfl
      rotate_left
      · simp only [Act.put, List.setIfInBounds_toArray, List.set_cons_zero, List.set_cons_succ, i64_w, i32_w]
        rfl
      refine one_ (i := 1) (N := some 13) #[true, true, true, false, false, false, false, false, false, false, false, false, false, false, false, false] rfl rfl (one_of HT_.out (by kernel_rfl)) (by decide) (fun K hK => ?_)
      refine goes_ Tryd.func38 (by kernel_rfl) rfl #[.agg #[.string t478, .slice Ao44 t479.length co44]] (by rfl) rfl rfl (by (try simp only [List.map_toArray, List.map_cons, List.map_nil]); first | done | rfl | (simp only [List.length_drop, List.length_take]; rfl)) ?_
      with_reducible refine (classification_Validate.calls k t478 _ _ t479 t482 _ ?side1 ?side2 ?side3 A5.out).mono ?_
      (case side1 => repeat (first | exact (Kd.R_reads' HO481.out).2.2 | (with_reducible refine Kd.C_alloc ?_ _) | (with_reducible refine Kd.C_drewN ?_ _) | (with_reducible refine Kd.C_drew ?_)))
      (case side2 => exact (Kd.R_reads' HO481.out).2.1)
      (case side3 => first | exact HG.out | exact GL.below HG.out (by repeat (first | (with_reducible first | exact HB.out | apply below_alloc | apply pw_below_drewN | apply below_drew1 | refine below_set ?_ (IsS25.ge HI471.out) | refine below_set ?_ GE470.out | refine below_set ?_ GE477.out) | exact HB.out)))
      rintro e w47 ⟨rfl, hb⟩
      refine ⟨_, rfl, ?_⟩
      have n0_ := Aside0.mk (Kd.R_below (by (with_reducible repeat (first | apply Kd.R_alloc | apply Kd.R_drewN | apply Kd.R_drew)); exact HO475.out) hb)
      have n1_ := Aside0.mk (Kd.R_below (by (with_reducible repeat (first | apply Kd.R_alloc | apply Kd.R_drewN | apply Kd.R_drew)); exact HO481.out) hb)
      have n2_ := Aside0.mk (blk_below (g := gb470) (o := .cells #[.string t478, .slice Ao44 t479.length co44] 28 (0, 0)) (by (with_reducible repeat (first | refine blk_drewN ?_ _ | refine blk_drew ?_ | refine blk_alloc ?_ _)); exact BK470.out) hb)
      have n3_ := Aside0.mk (IsS25.below (by repeat (first | (with_reducible first | exact HI471.out | apply IsS25.alloc | apply IsS25.drewN | apply IsS25.drew | apply IsS25.set_1 | refine IsS25.far ?_ NB471_470.out _ | refine IsS25.far ?_ NB471_477.out _) | exact HI471.out)) hb)
      have n4_ := Aside0.mk (blk_below (g := gb477) (o := .cells #[.string t472, .slice Ao39 t473.length co39] 28 (0, 0)) (by (with_reducible repeat (first | refine blk_drewN ?_ _ | refine blk_drew ?_ | refine blk_alloc ?_ _)); exact BK477.out) hb)
      have n5_ := Aside0.mk (below_step (by repeat (first | (with_reducible first | exact HB.out | apply below_alloc | apply pw_below_drewN | apply below_drew1 | refine below_set ?_ (IsS25.ge HI471.out) | refine below_set ?_ GE470.out | refine below_set ?_ GE477.out) | exact HB.out)) hb)
      clear HO475
      clear HO481
      clear BK470
      clear HI471
      clear BK477
      clear HB
      have HO475 := n0_
      have HO481 := n1_
      have BK470 := n2_
      have HI471 := n3_
      have BK477 := n4_
      have HB := n5_
      clear n0_ n1_ n2_ n3_ n4_ n5_
      (try clear hb)
      (try clear hb2)
      (try clear hk)
      (try clear hi)
      refine hK.out _ _ ⟨(blk_cell BK470.out 0).trans rfl, (blk_cell BK470.out 1).trans rfl, (blk_cell BK477.out 0).trans rfl, (blk_cell BK477.out 1).trans rfl⟩ (fun hHeld => ?_)
      clear hK K
      refine norm_ (a' := ?_) ?_ ?_
      rotate_left
      · show Act.put _ (some 13) _ = _
        simp only [Act.put, List.setIfInBounds_toArray, List.set_cons_zero, List.set_cons_succ, i64_w, i32_w]
        rfl
      refine one_ (i := 3) (N := some 15) #[true, true, true, true, false, false, false, false, false, false, false, false, false, false, false, false] rfl rfl (one_of HT_.out (by kernel_rfl)) (by decide) (fun K hK => ?_)
      refine goes_ Tryd.func39 (by kernel_rfl) rfl #[.agg #[.string t478, .slice Ao44 t479.length co44]] (by rfl) rfl rfl (by (try simp only [List.map_toArray, List.map_cons, List.map_nil]); first | done | rfl | (simp only [List.length_drop, List.length_take]; rfl)) ?_
      with_reducible refine (priceofficeref06_Validate.calls k t478 _ _ t479 t483 _ ?side1 ?side2 A6.out).mono ?_
      (case side1 => repeat (first | exact (Kd.R_reads' HO481.out).2.2 | (with_reducible refine Kd.C_alloc ?_ _) | (with_reducible refine Kd.C_drewN ?_ _) | (with_reducible refine Kd.C_drew ?_)))
      (case side2 => exact (Kd.R_reads' HO481.out).2.1)
      rintro e w48 ⟨rfl, hb⟩
      refine ⟨_, rfl, ?_⟩
      have n0_ := Aside0.mk (Kd.R_below (by (with_reducible repeat (first | apply Kd.R_alloc | apply Kd.R_drewN | apply Kd.R_drew)); exact HO475.out) hb)
      have n1_ := Aside0.mk (Kd.R_below (by (with_reducible repeat (first | apply Kd.R_alloc | apply Kd.R_drewN | apply Kd.R_drew)); exact HO481.out) hb)
      have n2_ := Aside0.mk (blk_below (g := gb470) (o := .cells #[.string t478, .slice Ao44 t479.length co44] 28 (0, 0)) (by (with_reducible repeat (first | refine blk_drewN ?_ _ | refine blk_drew ?_ | refine blk_alloc ?_ _)); exact BK470.out) hb)
      have n3_ := Aside0.mk (IsS25.below (by repeat (first | (with_reducible first | exact HI471.out | apply IsS25.alloc | apply IsS25.drewN | apply IsS25.drew | apply IsS25.set_1 | refine IsS25.far ?_ NB471_470.out _ | refine IsS25.far ?_ NB471_477.out _) | exact HI471.out)) hb)
      have n4_ := Aside0.mk (blk_below (g := gb477) (o := .cells #[.string t472, .slice Ao39 t473.length co39] 28 (0, 0)) (by (with_reducible repeat (first | refine blk_drewN ?_ _ | refine blk_drew ?_ | refine blk_alloc ?_ _)); exact BK477.out) hb)
      have n5_ := Aside0.mk (below_step (by repeat (first | (with_reducible first | exact HB.out | apply below_alloc | apply pw_below_drewN | apply below_drew1 | refine below_set ?_ (IsS25.ge HI471.out) | refine below_set ?_ GE470.out | refine below_set ?_ GE477.out) | exact HB.out)) hb)
      clear HO475
      clear HO481
      clear BK470
      clear HI471
      clear BK477
      clear HB
      have HO475 := n0_
      have HO481 := n1_
      have BK470 := n2_
      have HI471 := n3_
      have BK477 := n4_
      have HB := n5_
      clear n0_ n1_ n2_ n3_ n4_ n5_
      (try clear hb)
      (try clear hb2)
      (try clear hk)
      (try clear hi)
      refine hK.out _ _ ⟨(blk_cell BK470.out 0).trans rfl, (blk_cell BK470.out 1).trans rfl, (blk_cell BK477.out 0).trans rfl, (blk_cell BK477.out 1).trans rfl⟩ (fun hHeld => ?_)
      clear hK K
      refine norm_ (a' := ?_) ?_ ?_
      rotate_left
      · show Act.put _ (some 15) _ = _
        simp only [Act.put, List.setIfInBounds_toArray, List.set_cons_zero, List.set_cons_succ, i64_w, i32_w]
        rfl
      refine pure_ (i := 4) (N := some 16) (v := ?_) (a' := ?_) #[true, true, true, true, true, false, false, false, false, false, false, false, false, false, false, false] rfl rfl (any_of HT_.out (by kernel_rfl)) (fun _ _ _ h => h) (Or.inl ⟨by rfl, ?_⟩) ?_ ?_
      rotate_left
      · intro w'
        go_simp
        with_reducible rfl
      rotate_left
      · simp only [Act.put, List.setIfInBounds_toArray, List.set_cons_zero, List.set_cons_succ, i64_w, i32_w]
        rfl
      refine pure_ (i := 5) (N := some 17) (v := ?_) (a' := ?_) #[true, true, true, true, true, true, false, false, false, false, false, false, false, false, false, false] rfl rfl (any_of HT_.out (by kernel_rfl)) (fun _ _ _ h => h) (Or.inl ⟨by rfl, ?_⟩) ?_ ?_
      rotate_left
      · intro w'
        go_simp
        with_reducible rfl
      rotate_left
      · simp only [Act.put, List.setIfInBounds_toArray, List.set_cons_zero, List.set_cons_succ, i64_w, i32_w]
        rfl
      refine take_ (i := 6) (N := some 18) (v := ?_) (a' := ?_) #[true, true, true, true, true, true, true, false, false, false, false, false, false, false, false, false] rfl rfl (take_ofW HT_.out HW_.out (by kernel_rfl)) (fun _ _ _ h => h) (Or.inl ⟨by rfl, ?_⟩) hHeld ?_ ?_
      rotate_left
      · rintro w' ⟨s0, s1, s2, s3⟩
        go_simp
        with_reducible rfl
      rotate_left
      · simp only [Act.put, List.setIfInBounds_toArray, List.set_cons_zero, List.set_cons_succ, i64_w, i32_w]
        rfl
      refine take_ (i := 8) (N := some 20) (v := ?_) (a' := ?_) #[true, true, true, true, true, true, true, false, true, false, false, false, false, false, false, false] rfl rfl (take_ofW HT_.out HW_.out (by kernel_rfl)) (fun _ _ _ h => h) (Or.inl ⟨by rfl, ?_⟩) hHeld ?_ ?_
      rotate_left
      · rintro w' ⟨s0, s1, s2, s3⟩
        go_simp
        with_reducible rfl
      rotate_left
      · simp only [Act.put, List.setIfInBounds_toArray, List.set_cons_zero, List.set_cons_succ, i64_w, i32_w]
        rfl
      refine one_ (i := 7) (N := some 19) #[true, true, true, true, true, true, true, true, true, false, false, false, false, false, false, false] rfl rfl (one_of HT_.out (by kernel_rfl)) (by decide) (fun K hK => ?_)
      refine goes_ Tryd.func38 (by kernel_rfl) rfl #[.agg #[.string t472, .slice Ao39 t473.length co39]] (by rfl) rfl rfl (by (try simp only [List.map_toArray, List.map_cons, List.map_nil]); first | done | rfl | (simp only [List.length_drop, List.length_take]; rfl)) ?_
      with_reducible refine (classification_Validate.calls k t472 _ _ t473 t484 _ ?side1 ?side2 ?side3 A8.out).mono ?_
      (case side1 => repeat (first | exact (Kd.R_reads' HO475.out).2.2 | (with_reducible refine Kd.C_alloc ?_ _) | (with_reducible refine Kd.C_drewN ?_ _) | (with_reducible refine Kd.C_drew ?_)))
      (case side2 => exact (Kd.R_reads' HO475.out).2.1)
      (case side3 => first | exact HG.out | exact GL.below HG.out (by repeat (first | (with_reducible first | exact HB.out | apply below_alloc | apply pw_below_drewN | apply below_drew1 | refine below_set ?_ (IsS25.ge HI471.out) | refine below_set ?_ GE470.out | refine below_set ?_ GE477.out) | exact HB.out)))
      rintro e w49 ⟨rfl, hb⟩
      refine ⟨_, rfl, ?_⟩
      have n0_ := Aside0.mk (Kd.R_below (by (with_reducible repeat (first | apply Kd.R_alloc | apply Kd.R_drewN | apply Kd.R_drew)); exact HO475.out) hb)
      have n1_ := Aside0.mk (Kd.R_below (by (with_reducible repeat (first | apply Kd.R_alloc | apply Kd.R_drewN | apply Kd.R_drew)); exact HO481.out) hb)
      have n2_ := Aside0.mk (blk_below (g := gb470) (o := .cells #[.string t478, .slice Ao44 t479.length co44] 28 (0, 0)) (by (with_reducible repeat (first | refine blk_drewN ?_ _ | refine blk_drew ?_ | refine blk_alloc ?_ _)); exact BK470.out) hb)
      have n3_ := Aside0.mk (IsS25.below (by repeat (first | (with_reducible first | exact HI471.out | apply IsS25.alloc | apply IsS25.drewN | apply IsS25.drew | apply IsS25.set_1 | refine IsS25.far ?_ NB471_470.out _ | refine IsS25.far ?_ NB471_477.out _) | exact HI471.out)) hb)
      have n4_ := Aside0.mk (blk_below (g := gb477) (o := .cells #[.string t472, .slice Ao39 t473.length co39] 28 (0, 0)) (by (with_reducible repeat (first | refine blk_drewN ?_ _ | refine blk_drew ?_ | refine blk_alloc ?_ _)); exact BK477.out) hb)
      have n5_ := Aside0.mk (below_step (by repeat (first | (with_reducible first | exact HB.out | apply below_alloc | apply pw_below_drewN | apply below_drew1 | refine below_set ?_ (IsS25.ge HI471.out) | refine below_set ?_ GE470.out | refine below_set ?_ GE477.out) | exact HB.out)) hb)
      clear HO475
      clear HO481
      clear BK470
      clear HI471
      clear BK477
      clear HB
      have HO475 := n0_
      have HO481 := n1_
      have BK470 := n2_
      have HI471 := n3_
      have BK477 := n4_
      have HB := n5_
      clear n0_ n1_ n2_ n3_ n4_ n5_
      (try clear hb)
      (try clear hb2)
      (try clear hk)
      (try clear hi)
      refine hK.out _ _ ⟨(blk_cell BK470.out 0).trans rfl, (blk_cell BK470.out 1).trans rfl, (blk_cell BK477.out 0).trans rfl, (blk_cell BK477.out 1).trans rfl⟩ (fun hHeld => ?_)
      clear hK K
      refine norm_ (a' := ?_) ?_ ?_
      rotate_left
      · show Act.put _ (some 19) _ = _
        simp only [Act.put, List.setIfInBounds_toArray, List.set_cons_zero, List.set_cons_succ, i64_w, i32_w]
        rfl
      refine one_ (i := 9) (N := some 21) #[true, true, true, true, true, true, true, true, true, true, false, false, false, false, false, false] rfl rfl (one_of HT_.out (by kernel_rfl)) (by decide) (fun K hK => ?_)
      refine goes_ Tryd.func39 (by kernel_rfl) rfl #[.agg #[.string t472, .slice Ao39 t473.length co39]] (by rfl) rfl rfl (by (try simp only [List.map_toArray, List.map_cons, List.map_nil]); first | done | rfl | (simp only [List.length_drop, List.length_take]; rfl)) ?_
      with_reducible refine (priceofficeref06_Validate.calls k t472 _ _ t473 t485 _ ?side1 ?side2 A9.out).mono ?_
      (case side1 => repeat (first | exact (Kd.R_reads' HO475.out).2.2 | (with_reducible refine Kd.C_alloc ?_ _) | (with_reducible refine Kd.C_drewN ?_ _) | (with_reducible refine Kd.C_drew ?_)))
      (case side2 => exact (Kd.R_reads' HO475.out).2.1)
      rintro e w50 ⟨rfl, hb⟩
      refine ⟨_, rfl, ?_⟩
      have n0_ := Aside0.mk (Kd.R_below (by (with_reducible repeat (first | apply Kd.R_alloc | apply Kd.R_drewN | apply Kd.R_drew)); exact HO475.out) hb)
      have n1_ := Aside0.mk (Kd.R_below (by (with_reducible repeat (first | apply Kd.R_alloc | apply Kd.R_drewN | apply Kd.R_drew)); exact HO481.out) hb)
      have n2_ := Aside0.mk (blk_below (g := gb470) (o := .cells #[.string t478, .slice Ao44 t479.length co44] 28 (0, 0)) (by (with_reducible repeat (first | refine blk_drewN ?_ _ | refine blk_drew ?_ | refine blk_alloc ?_ _)); exact BK470.out) hb)
      have n3_ := Aside0.mk (IsS25.below (by repeat (first | (with_reducible first | exact HI471.out | apply IsS25.alloc | apply IsS25.drewN | apply IsS25.drew | apply IsS25.set_1 | refine IsS25.far ?_ NB471_470.out _ | refine IsS25.far ?_ NB471_477.out _) | exact HI471.out)) hb)
      have n4_ := Aside0.mk (blk_below (g := gb477) (o := .cells #[.string t472, .slice Ao39 t473.length co39] 28 (0, 0)) (by (with_reducible repeat (first | refine blk_drewN ?_ _ | refine blk_drew ?_ | refine blk_alloc ?_ _)); exact BK477.out) hb)
      have n5_ := Aside0.mk (below_step (by repeat (first | (with_reducible first | exact HB.out | apply below_alloc | apply pw_below_drewN | apply below_drew1 | refine below_set ?_ (IsS25.ge HI471.out) | refine below_set ?_ GE470.out | refine below_set ?_ GE477.out) | exact HB.out)) hb)
      clear HO475
      clear HO481
      clear BK470
      clear HI471
      clear BK477
      clear HB
      have HO475 := n0_
      have HO481 := n1_
      have BK470 := n2_
      have HI471 := n3_
      have BK477 := n4_
      have HB := n5_
      clear n0_ n1_ n2_ n3_ n4_ n5_
      (try clear hb)
      (try clear hb2)
      (try clear hk)
      (try clear hi)
      refine hK.out _ _ ⟨(blk_cell BK470.out 0).trans rfl, (blk_cell BK470.out 1).trans rfl, (blk_cell BK477.out 0).trans rfl, (blk_cell BK477.out 1).trans rfl⟩ (fun hHeld => ?_)
      clear hK K
      refine norm_ (a' := ?_) ?_ ?_
      rotate_left
      · show Act.put _ (some 21) _ = _
        simp only [Act.put, List.setIfInBounds_toArray, List.set_cons_zero, List.set_cons_succ, i64_w, i32_w]
        rfl
      refine pure_ (i := 10) (N := some 22) (v := ?_) (a' := ?_) #[true, true, true, true, true, true, true, true, true, true, true, false, false, false, false, false] rfl rfl (any_of HT_.out (by kernel_rfl)) (fun _ _ _ h => h) (Or.inl ⟨by rfl, ?_⟩) ?_ ?_
      rotate_left
      · intro w'
        go_simp
        with_reducible rfl
      rotate_left
      · simp only [Act.put, List.setIfInBounds_toArray, List.set_cons_zero, List.set_cons_succ, i64_w, i32_w]
        rfl
      refine pure_ (i := 11) (N := some 23) (v := ?_) (a' := ?_) #[true, true, true, true, true, true, true, true, true, true, true, true, false, false, false, false] rfl rfl (any_of HT_.out (by kernel_rfl)) (fun _ _ _ h => h) (Or.inl ⟨by rfl, ?_⟩) ?_ ?_
      rotate_left
      · intro w'
        go_simp
        with_reducible rfl
      rotate_left
      · simp only [Act.put, List.setIfInBounds_toArray, List.set_cons_zero, List.set_cons_succ, i64_w, i32_w]
        rfl
      refine pure_ (i := 12) (N := some 24) (v := ?_) (a' := ?_) #[true, true, true, true, true, true, true, true, true, true, true, true, true, false, false, false] rfl rfl (any_of HT_.out (by kernel_rfl)) (fun _ _ _ h => h) (Or.inl ⟨by rfl, ?_⟩) ?_ ?_
      rotate_left
      · intro w'
        go_simp
        with_reducible rfl
      rotate_left
      · simp only [Act.put, List.setIfInBounds_toArray, List.set_cons_zero, List.set_cons_succ, i64_w, i32_w]
        rfl
      refine pure_ (i := 13) (N := some 25) (v := undef) (a' := ?_) #[true, true, true, true, true, true, true, true, true, true, true, true, true, true, false, false] rfl rfl (any_of HT_.out (by kernel_rfl)) (fun _ _ _ h => h) (Or.inr ⟨by rfl, rfl⟩) ?_ ?_
      rotate_left
      · simp only [Act.put, List.setIfInBounds_toArray, List.set_cons_zero, List.set_cons_succ, i64_w, i32_w]
        rfl
      refine pure_ (i := 14) (N := some 26) (v := ?_) (a' := ?_) #[true, true, true, true, true, true, true, true, true, true, true, true, true, true, true, false] rfl rfl (any_of HT_.out (by kernel_rfl)) (fun _ _ _ h => h) (Or.inl ⟨by rfl, ?_⟩) ?_ ?_
      rotate_left
      · intro w'
        go_simp
        with_reducible rfl
      rotate_left
      · simp only [Act.put, List.setIfInBounds_toArray, List.set_cons_zero, List.set_cons_succ, i64_w, i32_w]
        rfl
      refine pure_ (i := 15) (N := some 4) (v := ?_) (a' := ?_) #[true, true, true, true, true, true, true, true, true, true, true, true, true, true, true, true] rfl rfl (any_of HT_.out (by kernel_rfl)) (fun _ _ _ h => h) (Or.inl ⟨by rfl, ?_⟩) ?_ ?_
      rotate_left
      · intro w'
        go_simp
        with_reducible rfl
      rotate_left
      · simp only [Act.put, List.setIfInBounds_toArray, List.set_cons_zero, List.set_cons_succ, i64_w, i32_w]
        rfl
      refine done_ (done_of HT_.out (by kernel_rfl)) ?_
      try go_wp2
      go_ret
      exact ⟨by first | rfl | (simp [errW_none, errW_some] <;> rfl) | (simp [*, errW_none, errW_some] <;> rfl), by repeat (first | (with_reducible first | exact HB.out | apply below_alloc | apply pw_below_drewN | apply below_drew1 | refine below_set ?_ (IsS25.ge HI471.out) | refine below_set ?_ GE470.out | refine below_set ?_ GE477.out) | exact HB.out)⟩
  · rw [if_neg c7] at H
    have c7b0 : (t482 == t483) = false := beq_eq_false_iff_ne.mpr c7
    have c7b1 : (t482 != t483) = true := bne_iff_ne.mpr c7
    obtain rfl := Option.some.inj H
    go_enter Tryd.func9, Tryd.ntmps9
    try go_wp2_with (first | ((with_reducible refine gate_dst (N := 2) rfl ?_); refine box_event ?hg (N := 2) ?hd (cs := #[.string a0_0, .slice A0_1 l0_1.length c0_1]) (t := 28) ?hr ?_; (case hd => rfl); (case hg => rfl); (case hr => first | (go_simp; done) | (go_simp; rfl)); intro gb470 hg w51 hbox hb; have n0_ := Aside0.mk (below_step (by repeat (first | (with_reducible first | exact HB.out | apply below_alloc | apply pw_below_drewN | apply below_drew1) | exact HB.out)) hb); have n1_ := Aside0.mk (hbox); have n2_ := Aside0.mk ((by rw [hg]; exact (below_size (by repeat (first | (with_reducible first | exact HB.out | apply below_alloc | apply pw_below_drewN | apply below_drew1) | exact HB.out))) : w.heap.size ≤ gb470)); have n3_ := Aside0.mk ((by rw [hg]; exact (below_size (by repeat (first | (with_reducible first | exact HB.out | apply below_alloc | apply pw_below_drewN | apply below_drew1) | exact HB.out))) : w.heap.size ≤ gb470)); clear HB; have HB := n0_; have BK470 := n1_; have GW470 := n2_; have GE470 := n3_; clear n0_ n1_ n2_ n3_; clear hb hbox hg) | ((with_reducible refine gate_dst (N := 8) rfl ?_); refine box_event ?hg (N := 8) ?hd (cs := #[.slice A1 l1.length c1, .int .i64 0]) (t := 25) ?hr ?_; (case hd => rfl); (case hg => rfl); (case hr => first | (go_simp; done) | (go_simp; rfl)); intro gb471 hg w52 hbox hb; have n0_ := Aside0.mk (blk_below (g := gb470) (o := .cells #[.string a0_0, .slice A0_1 l0_1.length c0_1] 28 (0, 0)) (by (with_reducible repeat (first | refine blk_drewN ?_ _ | refine blk_drew ?_ | refine blk_alloc ?_ _)); exact BK470.out) hb); have n1_ := Aside0.mk (below_step (by repeat (first | (with_reducible first | exact HB.out | apply below_alloc | apply pw_below_drewN | apply below_drew1 | refine below_set ?_ GE470.out) | exact HB.out)) hb); have n2_ := Aside0.mk (hbox); have n3_ := Aside0.mk ((by rw [hg]; exact (below_size (by repeat (first | (with_reducible first | exact HB.out | apply below_alloc | apply pw_below_drewN | apply below_drew1 | refine below_set ?_ GE470.out) | exact HB.out))) : w.heap.size ≤ gb471)); have n4_ := Aside0.mk ((by rw [hg]; exact (below_size (by repeat (first | (with_reducible first | exact HB.out | apply below_alloc | apply pw_below_drewN | apply below_drew1 | refine below_set ?_ GE470.out) | exact HB.out))) : w.heap.size ≤ gb471)); have n5_ := Aside0.mk ((by rw [hg]; exact Nat.ne_of_lt (blk_lt (g := gb470) (o := .cells #[.string a0_0, .slice A0_1 l0_1.length c0_1] 28 (0, 0)) (by (with_reducible repeat (first | refine blk_drewN ?_ _ | refine blk_drew ?_ | refine blk_alloc ?_ _)); exact BK470.out)) : gb470 ≠ gb471)); have n6_ := Aside0.mk ((by rw [hg]; exact Nat.ne_of_gt (blk_lt (g := gb470) (o := .cells #[.string a0_0, .slice A0_1 l0_1.length c0_1] 28 (0, 0)) (by (with_reducible repeat (first | refine blk_drewN ?_ _ | refine blk_drew ?_ | refine blk_alloc ?_ _)); exact BK470.out)) : gb471 ≠ gb470)); have n7_ := Aside0.mk ((show IsS25 w w52 gb471 l1 0 from ⟨_, _, hbox, (by rw [hg]; exact (below_size (by repeat (first | (with_reducible first | exact HB.out | apply below_alloc | apply pw_below_drewN | apply below_drew1 | refine below_set ?_ GE470.out) | exact HB.out))) : w.heap.size ≤ gb471), HR1.out⟩)); clear BK470; clear HB; have BK470 := n0_; have HB := n1_; have BK471 := n2_; have GW471 := n3_; have GE471 := n4_; have NB470_471 := n5_; have NB471_470 := n6_; have HI471 := n7_; clear n0_ n1_ n2_ n3_ n4_ n5_ n6_ n7_; clear hb hbox hg) | ((with_reducible refine gate_callee (f := 37) rfl ?_); refine goesL_ (some 9) rfl rfl Tryd.func37 (by kernel_rfl) rfl #[.pointer (some ⟨gb471, 0, none⟩)] rfl (by (try simp only [List.map_toArray, List.map_cons, List.map_nil]); first | done | rfl | (simp only [List.length_drop, List.length_take]; rfl)) ?_; (with_reducible refine (priceofficelaw06_spoiled.calls k gb471 l1 0 t472 t473 t476 w _ ?side1 ?side2 A3.out).mono ?_); (case side1 => repeat (first | (with_reducible first | exact HI471.out | apply IsS25.alloc | apply IsS25.drewN | apply IsS25.drew | apply IsS25.set_1 | refine IsS25.far ?_ NB471_470.out _) | exact HI471.out)); (case side2 => repeat (first | (with_reducible first | exact HB.out | apply below_alloc | apply pw_below_drewN | apply below_drew1 | refine below_set ?_ (IsS25.ge HI471.out) | refine below_set ?_ GE470.out) | exact HB.out)); rintro e w53 ⟨v474, rfl, ho0, hi, hb, hk⟩; refine ⟨_, rfl, ?_⟩; have n0_ := Aside0.mk (KeepBut.blk hk (g' := gb470) (o := .cells #[.string a0_0, .slice A0_1 l0_1.length c0_1] 28 (0, 0)) (by (with_reducible repeat (first | refine blk_drewN ?_ _ | refine blk_drew ?_ | refine blk_alloc ?_ _)); exact BK470.out) NB470_471.out (by simp)); have n1_ := Aside0.mk (Kd.R_lower ho0 (below_size (by repeat (first | (with_reducible first | exact HB.out | apply below_alloc | apply pw_below_drewN | apply below_drew1 | refine below_set ?_ (IsS25.ge HI471.out) | refine below_set ?_ GE470.out) | exact HB.out)))); have n2_ := Aside0.mk (hb); have n3_ := Aside0.mk (hi); clear BK470; clear HB; clear HI471; have BK470 := n0_; have HO475 := n1_; have HB := n2_; have HI471 := n3_; clear n0_ n1_ n2_ n3_; (try clear hb); (try clear hb2); (try clear hk); (try clear hi); (try clear ho0)) | ((with_reducible refine gate_dst (N := 5) rfl ?_); refine box_event ?hg (N := 5) ?hd (cs := #[.string (⟨#[]⟩ : ByteArray), .slice none 0 0]) (t := 28) ?hr ?_; (case hd => rfl); (case hg => rfl); (case hr => first | (go_simp; done) | (go_simp; rfl)); intro gb477 hg w54 hbox hb; have n0_ := Aside0.mk (Kd.R_below (by (with_reducible repeat (first | apply Kd.R_alloc | apply Kd.R_drewN | apply Kd.R_drew)); exact HO475.out) hb); have n1_ := Aside0.mk (blk_below (g := gb470) (o := .cells #[.string a0_0, .slice A0_1 l0_1.length c0_1] 28 (0, 0)) (by (with_reducible repeat (first | refine blk_drewN ?_ _ | refine blk_drew ?_ | refine blk_alloc ?_ _)); exact BK470.out) hb); have n2_ := Aside0.mk (IsS25.below (by repeat (first | (with_reducible first | exact HI471.out | apply IsS25.alloc | apply IsS25.drewN | apply IsS25.drew | apply IsS25.set_1 | refine IsS25.far ?_ NB471_470.out _) | exact HI471.out)) hb); have n3_ := Aside0.mk (below_step (by repeat (first | (with_reducible first | exact HB.out | apply below_alloc | apply pw_below_drewN | apply below_drew1 | refine below_set ?_ (IsS25.ge HI471.out) | refine below_set ?_ GE470.out) | exact HB.out)) hb); have n4_ := Aside0.mk (hbox); have n5_ := Aside0.mk ((by rw [hg]; exact (below_size (by repeat (first | (with_reducible first | exact HB.out | apply below_alloc | apply pw_below_drewN | apply below_drew1 | refine below_set ?_ (IsS25.ge HI471.out) | refine below_set ?_ GE470.out) | exact HB.out))) : w.heap.size ≤ gb477)); have n6_ := Aside0.mk ((by rw [hg]; exact (below_size (by repeat (first | (with_reducible first | exact HB.out | apply below_alloc | apply pw_below_drewN | apply below_drew1 | refine below_set ?_ (IsS25.ge HI471.out) | refine below_set ?_ GE470.out) | exact HB.out))) : w.heap.size ≤ gb477)); have n7_ := Aside0.mk ((by rw [hg]; exact Nat.ne_of_lt (blk_lt (g := gb470) (o := .cells #[.string a0_0, .slice A0_1 l0_1.length c0_1] 28 (0, 0)) (by (with_reducible repeat (first | refine blk_drewN ?_ _ | refine blk_drew ?_ | refine blk_alloc ?_ _)); exact BK470.out)) : gb470 ≠ gb477)); have n8_ := Aside0.mk ((by rw [hg]; exact Nat.ne_of_gt (blk_lt (g := gb470) (o := .cells #[.string a0_0, .slice A0_1 l0_1.length c0_1] 28 (0, 0)) (by (with_reducible repeat (first | refine blk_drewN ?_ _ | refine blk_drew ?_ | refine blk_alloc ?_ _)); exact BK470.out)) : gb477 ≠ gb470)); have n9_ := Aside0.mk ((by rw [hg]; exact Nat.ne_of_lt (IsS25.lt (show IsS25 w _ gb471 l1 t476 from by repeat (first | (with_reducible first | exact HI471.out | apply IsS25.alloc | apply IsS25.drewN | apply IsS25.drew | apply IsS25.set_1 | refine IsS25.far ?_ NB471_470.out _) | exact HI471.out))) : gb471 ≠ gb477)); have n10_ := Aside0.mk ((by rw [hg]; exact Nat.ne_of_gt (IsS25.lt (show IsS25 w _ gb471 l1 t476 from by repeat (first | (with_reducible first | exact HI471.out | apply IsS25.alloc | apply IsS25.drewN | apply IsS25.drew | apply IsS25.set_1 | refine IsS25.far ?_ NB471_470.out _) | exact HI471.out))) : gb477 ≠ gb471)); clear HO475; clear BK470; clear HI471; clear HB; have HO475 := n0_; have BK470 := n1_; have HI471 := n2_; have HB := n3_; have BK477 := n4_; have GW477 := n5_; have GE477 := n6_; have NB470_477 := n7_; have NB477_470 := n8_; have NB471_477 := n9_; have NB477_471 := n10_; clear n0_ n1_ n2_ n3_ n4_ n5_ n6_ n7_ n8_ n9_ n10_; clear hb hbox hg; have hnb55 := NB477_470.out; have hnc55 := NB470_477.out; have hnb56 := NB477_471.out; have hnc56 := NB471_477.out; have hcz57_0 : w54.cell? ⟨gb477, 0, none⟩ = some (.string (⟨#[]⟩ : ByteArray)) := (blk_cell BK477.out 0).trans rfl; have hcz57_1 : w54.cell? ⟨gb477, 1, none⟩ = some (.slice none 0 0) := (blk_cell BK477.out 1).trans rfl; have hfz57_0 := blk_frozen BK477.out 0; have hfz57_1 := blk_frozen BK477.out 1; obtain ⟨Ao58, co58, eo58⟩ := Kd.R_slice HO475.out; subst eo58; have hnb59 := NB470_471.out; have hnc59 := NB471_470.out; have hcz60_0 : w54.cell? ⟨gb470, 0, none⟩ = some (.string a0_0) := (blk_cell BK470.out 0).trans rfl; have hcz60_1 : w54.cell? ⟨gb470, 1, none⟩ = some (.slice A0_1 l0_1.length c0_1) := (blk_cell BK470.out 1).trans rfl; have hfz60_0 := blk_frozen BK470.out 0; have hfz60_1 := blk_frozen BK470.out 1) | ((with_reducible refine gate_callee (f := 19) rfl ?_); refine goesL_ (some 11) rfl rfl Tryd.func19 (by kernel_rfl) rfl #[.agg #[.string a0_0, .slice A0_1 l0_1.length c0_1]] rfl (by (try simp only [List.map_toArray, List.map_cons, List.map_nil]); first | done | rfl | (simp only [List.length_drop, List.length_take]; rfl)) ?_; (with_reducible refine (priceofficelaw06_raw.calls k a0_0 _ _ l0_1 t478 t479 _ ?side1 ?side2 A4.out).mono ?_); (case side1 => exact Kd.C_below HR0_1.out (by repeat (first | (with_reducible first | exact HB.out | apply below_alloc | apply pw_below_drewN | apply below_drew1 | refine below_set ?_ (IsS25.ge HI471.out) | refine below_set ?_ GE470.out | refine below_set ?_ GE477.out) | exact HB.out))); (case side2 => exact HC0_1.out); rintro e w61 ⟨v480, rfl, ho0, hb⟩; refine ⟨_, rfl, ?_⟩; have n0_ := Aside0.mk (Kd.R_elder' (by (with_reducible repeat (first | apply Kd.R_alloc | apply Kd.R_drewN | apply Kd.R_drew)); exact (Kd.R_mono (Kd.R_far (p := ⟨gb477, 1, none⟩) (Kd.R_far (p := ⟨gb477, 0, none⟩) (Kd.R_types HO475.out BK477.out (by decide)) (fun _ hk => hk.2) (.string t472)) (fun _ hk => hk.2) (.slice Ao58 t473.length co58)) (fun _ h_ => h_.1))) (Kd.R_base ho0) hb); have n1_ := Aside0.mk (Kd.R_lower (Kd.R_new' ho0 (Kd.R_lt (by (with_reducible repeat (first | apply Kd.R_alloc | apply Kd.R_drewN | apply Kd.R_drew)); exact (Kd.R_mono (Kd.R_far (p := ⟨gb477, 1, none⟩) (Kd.R_far (p := ⟨gb477, 0, none⟩) (Kd.R_types HO475.out BK477.out (by decide)) (fun _ hk => hk.2) (.string t472)) (fun _ hk => hk.2) (.slice Ao58 t473.length co58)) (fun _ h_ => h_.1))))) (below_size (by repeat (first | (with_reducible first | exact HB.out | apply below_alloc | apply pw_below_drewN | apply below_drew1 | refine below_set ?_ (IsS25.ge HI471.out) | refine below_set ?_ GE470.out | refine below_set ?_ GE477.out) | exact HB.out)))); have n2_ := Aside0.mk (blk_below (g := gb470) (o := .cells #[.string a0_0, .slice A0_1 l0_1.length c0_1] 28 (0, 0)) (by (with_reducible repeat (first | refine blk_drewN ?_ _ | refine blk_drew ?_ | refine blk_alloc ?_ _)); refine blk_far ?_ NB470_477.out _; (with_reducible repeat (first | refine blk_drewN ?_ _ | refine blk_drew ?_ | refine blk_alloc ?_ _)); refine blk_far ?_ NB470_477.out _; (with_reducible repeat (first | refine blk_drewN ?_ _ | refine blk_drew ?_ | refine blk_alloc ?_ _)); exact BK470.out) hb); have n3_ := Aside0.mk (IsS25.below (show IsS25 w ((w54.setCell ⟨gb477, 0, none⟩ (.string t472)).setCell ⟨gb477, 1, none⟩ (.slice Ao58 t473.length co58)) gb471 l1 t476 from by repeat (first | (with_reducible first | exact HI471.out | apply IsS25.alloc | apply IsS25.drewN | apply IsS25.drew | apply IsS25.set_1 | refine IsS25.far ?_ NB471_470.out _ | refine IsS25.far ?_ NB471_477.out _) | exact HI471.out)) hb); have n4_ := Aside0.mk (blk_below (g := gb477) (o := .cells #[.string t472, .slice Ao58 t473.length co58] 28 (0, 0)) (by (with_reducible repeat (first | refine blk_drewN ?_ _ | refine blk_drew ?_ | refine blk_alloc ?_ _)); refine blk_put (cs := #[.string t472, .slice none 0 0]) ?_ 1 _ rfl; (with_reducible repeat (first | refine blk_drewN ?_ _ | refine blk_drew ?_ | refine blk_alloc ?_ _)); refine blk_put (cs := #[.string (⟨#[]⟩ : ByteArray), .slice none 0 0]) ?_ 0 _ rfl; (with_reducible repeat (first | refine blk_drewN ?_ _ | refine blk_drew ?_ | refine blk_alloc ?_ _)); exact BK477.out) hb); have n5_ := Aside0.mk (below_step (by repeat (first | (with_reducible first | exact HB.out | apply below_alloc | apply pw_below_drewN | apply below_drew1 | refine below_set ?_ (IsS25.ge HI471.out) | refine below_set ?_ GE470.out | refine below_set ?_ GE477.out) | exact HB.out)) hb); clear HO475; clear BK470; clear HI471; clear BK477; clear HB; have HO475 := n0_; have HO481 := n1_; have BK470 := n2_; have HI471 := n3_; have BK477 := n4_; have HB := n5_; clear n0_ n1_ n2_ n3_ n4_ n5_; (try clear hb); (try clear hb2); (try clear hk); (try clear hi); (try clear ho0); have hcz62_0 : w61.cell? ⟨gb470, 0, none⟩ = some (.string a0_0) := (blk_cell BK470.out 0).trans rfl; have hcz62_1 : w61.cell? ⟨gb470, 1, none⟩ = some (.slice A0_1 l0_1.length c0_1) := (blk_cell BK470.out 1).trans rfl; have hfz62_0 := blk_frozen BK470.out 0; have hfz62_1 := blk_frozen BK470.out 1; obtain ⟨Ao63, co63, eo63⟩ := Kd.R_slice HO481.out; subst eo63))
    have n0_ : Aside0 (Kd.R Kd.string 9 ((w61.setCell ⟨gb470, 0, none⟩ (.string t478)).setCell ⟨gb470, 1, none⟩ (.slice Ao63 t479.length co63)) w.heap.size (fun k_ => some k_ ≠ (.slice Ao63 t479.length co63 : Value).ownBlock) (.slice Ao58 t473.length co58) t473) := ⟨by (with_reducible repeat (first | apply Kd.R_alloc | apply Kd.R_drewN | apply Kd.R_drew)); exact Kd.R_mono (Kd.R_far (p := ⟨gb470, 1, none⟩) (Kd.R_far (p := ⟨gb470, 0, none⟩) (Kd.R_types HO475.out BK470.out (by decide)) (fun _ hk => hk.2) (.string t478)) (fun _ hk => hk.2) (.slice Ao63 t479.length co63)) (fun _ hk => hk.1.2)⟩
    have n1_ : Aside0 (Kd.R Kd.string 9 ((w61.setCell ⟨gb470, 0, none⟩ (.string t478)).setCell ⟨gb470, 1, none⟩ (.slice Ao63 t479.length co63)) w.heap.size (fun k_ => some k_ ≠ (.slice Ao58 t473.length co58 : Value).ownBlock) (.slice Ao63 t479.length co63) t479) := ⟨by (with_reducible repeat (first | apply Kd.R_alloc | apply Kd.R_drewN | apply Kd.R_drew)); exact Kd.R_mono (Kd.R_far (p := ⟨gb470, 1, none⟩) (Kd.R_far (p := ⟨gb470, 0, none⟩) (Kd.R_types HO481.out BK470.out (by decide)) (fun _ hk => hk.2) (.string t478)) (fun _ hk => hk.2) (.slice Ao63 t479.length co63)) (fun _ hk => hk.1.2)⟩
    have n2_ : Aside0 (((w61.setCell ⟨gb470, 0, none⟩ (.string t478)).setCell ⟨gb470, 1, none⟩ (.slice Ao63 t479.length co63)).heap[gb470]? = some (.cells #[.string t478, .slice Ao63 t479.length co63] 28 (0, 0))) := ⟨by (with_reducible repeat (first | refine blk_drewN ?_ _ | refine blk_drew ?_ | refine blk_alloc ?_ _)); refine blk_put (cs := #[.string t478, .slice A0_1 l0_1.length c0_1]) ?_ 1 _ rfl; (with_reducible repeat (first | refine blk_drewN ?_ _ | refine blk_drew ?_ | refine blk_alloc ?_ _)); refine blk_put (cs := #[.string a0_0, .slice A0_1 l0_1.length c0_1]) ?_ 0 _ rfl; (with_reducible repeat (first | refine blk_drewN ?_ _ | refine blk_drew ?_ | refine blk_alloc ?_ _)); exact BK470.out⟩
    have n3_ : Aside0 (((w61.setCell ⟨gb470, 0, none⟩ (.string t478)).setCell ⟨gb470, 1, none⟩ (.slice Ao63 t479.length co63)).heap[gb477]? = some (.cells #[.string t472, .slice Ao58 t473.length co58] 28 (0, 0))) := ⟨by (with_reducible repeat (first | refine blk_drewN ?_ _ | refine blk_drew ?_ | refine blk_alloc ?_ _)); refine blk_far ?_ NB477_470.out _; (with_reducible repeat (first | refine blk_drewN ?_ _ | refine blk_drew ?_ | refine blk_alloc ?_ _)); refine blk_far ?_ NB477_470.out _; (with_reducible repeat (first | refine blk_drewN ?_ _ | refine blk_drew ?_ | refine blk_alloc ?_ _)); exact BK477.out⟩
    have n4_ : Aside0 (IsS25 w ((w61.setCell ⟨gb470, 0, none⟩ (.string t478)).setCell ⟨gb470, 1, none⟩ (.slice Ao63 t479.length co63)) gb471 l1 t476) := ⟨by repeat (first | (with_reducible first | exact HI471.out | apply IsS25.alloc | apply IsS25.drewN | apply IsS25.drew | apply IsS25.set_1 | refine IsS25.far ?_ NB471_470.out _ | refine IsS25.far ?_ NB471_477.out _) | exact HI471.out)⟩
    have n5_ : Aside0 (Below w.heap.size w ((w61.setCell ⟨gb470, 0, none⟩ (.string t478)).setCell ⟨gb470, 1, none⟩ (.slice Ao63 t479.length co63))) := ⟨by repeat (first | (with_reducible first | exact HB.out | apply below_alloc | apply pw_below_drewN | apply below_drew1 | refine below_set ?_ (IsS25.ge HI471.out) | refine below_set ?_ GE470.out | refine below_set ?_ GE477.out) | exact HB.out)⟩
    (try clear HO475)
    (try clear HO481)
    (try clear BK470)
    (try clear BK477)
    (try clear HI471)
    (try clear HB)
    generalize ((w61.setCell ⟨gb470, 0, none⟩ (.string t478)).setCell ⟨gb470, 1, none⟩ (.slice Ao63 t479.length co63)) = w64 at n0_ n1_ n2_ n3_ n4_ n5_ ⊢
    have HO475 := n0_
    have HO481 := n1_
    have BK470 := n2_
    have BK477 := n3_
    have HI471 := n4_
    have HB := n5_
    clear n0_ n1_ n2_ n3_ n4_ n5_
    have n0_ := Aside0.mk (Kd.R_drew HO475.out)
    have n1_ := Aside0.mk (Kd.R_drew HO481.out)
    have n2_ := Aside0.mk (blk_drew BK470.out)
    have n3_ := Aside0.mk (blk_drew BK477.out)
    have n4_ := Aside0.mk (IsS25.drew HI471.out)
    have n5_ := Aside0.mk (below_drew1 HB.out)
    clear HO475
    clear HO481
    clear BK470
    clear BK477
    clear HI471
    clear HB
    have HO475 := n0_
    have HO481 := n1_
    have BK470 := n2_
    have BK477 := n3_
    have HI471 := n4_
    have HB := n5_
    clear n0_ n1_ n2_ n3_ n4_ n5_
    refine start_ (n := 16) (S := fun w' => w'.cell? ⟨gb470, 0, none⟩ = some (.string t478) ∧ w'.cell? ⟨gb470, 1, none⟩ = some (.slice Ao63 t479.length co63)) (ds := []) #[false, false, false, false, false, false, false, false, false, false, false, false, false, false, false, false] (by kernel_rfl) rfl rfl ⟨(blk_cell BK470.out 0).trans rfl, (blk_cell BK470.out 1).trans rfl⟩ (fun hHeld => ?_); refine with_tabW priceofficelaw06_ClassificationValid.tab3 priceofficelaw06_ClassificationValid.bits3 (fun HT_ HW_ => ?_)
    generalize w64.drew = w65 at HO475 HO481 BK470 BK477 HI471 HB hHeld ⊢
    refine take_ (i := 0) (N := some 12) (v := ?_) (a' := ?_) #[true, false, false, false, false, false, false, false, false, false, false, false, false, false, false, false] rfl rfl (take_ofW HT_.out HW_.out (by kernel_rfl)) (fun _ _ _ h => h) (Or.inl ⟨by rfl, ?_⟩) hHeld ?_ ?_
    rotate_left
    · rintro w' ⟨s0, s1⟩
      go_simp
      with_reducible rfl
    rotate_left
    · simp only [Act.put, List.setIfInBounds_toArray, List.set_cons_zero, List.set_cons_succ, i64_w, i32_w]
      rfl
    refine take_ (i := 2) (N := some 14) (v := ?_) (a' := ?_) #[true, false, true, false, false, false, false, false, false, false, false, false, false, false, false, false] rfl rfl (take_ofW HT_.out HW_.out (by kernel_rfl)) (fun _ _ _ h => h) (Or.inl ⟨by rfl, ?_⟩) hHeld ?_ ?_
    rotate_left
    · rintro w' ⟨s0, s1⟩
      go_simp
      with_reducible rfl
    rotate_left
    · simp only [Act.put, List.setIfInBounds_toArray, List.set_cons_zero, List.set_cons_succ, i64_w, i32_w]
      rfl
    refine one_ (i := 1) (N := some 13) #[true, true, true, false, false, false, false, false, false, false, false, false, false, false, false, false] rfl rfl (one_of HT_.out (by kernel_rfl)) (by decide) (fun K hK => ?_)
    refine goes_ Tryd.func38 (by kernel_rfl) rfl #[.agg #[.string t478, .slice Ao63 t479.length co63]] (by rfl) rfl rfl (by (try simp only [List.map_toArray, List.map_cons, List.map_nil]); first | done | rfl | (simp only [List.length_drop, List.length_take]; rfl)) ?_
    with_reducible refine (classification_Validate.calls k t478 _ _ t479 t482 _ ?side1 ?side2 ?side3 A5.out).mono ?_
    (case side1 => repeat (first | exact (Kd.R_reads' HO481.out).2.2 | (with_reducible refine Kd.C_alloc ?_ _) | (with_reducible refine Kd.C_drewN ?_ _) | (with_reducible refine Kd.C_drew ?_)))
    (case side2 => exact (Kd.R_reads' HO481.out).2.1)
    (case side3 => first | exact HG.out | exact GL.below HG.out (by repeat (first | (with_reducible first | exact HB.out | apply below_alloc | apply pw_below_drewN | apply below_drew1 | refine below_set ?_ (IsS25.ge HI471.out) | refine below_set ?_ GE470.out | refine below_set ?_ GE477.out) | exact HB.out)))
    rintro e w66 ⟨rfl, hb⟩
    refine ⟨_, rfl, ?_⟩
    have n0_ := Aside0.mk (Kd.R_below (by (with_reducible repeat (first | apply Kd.R_alloc | apply Kd.R_drewN | apply Kd.R_drew)); exact HO475.out) hb)
    have n1_ := Aside0.mk (Kd.R_below (by (with_reducible repeat (first | apply Kd.R_alloc | apply Kd.R_drewN | apply Kd.R_drew)); exact HO481.out) hb)
    have n2_ := Aside0.mk (blk_below (g := gb470) (o := .cells #[.string t478, .slice Ao63 t479.length co63] 28 (0, 0)) (by (with_reducible repeat (first | refine blk_drewN ?_ _ | refine blk_drew ?_ | refine blk_alloc ?_ _)); exact BK470.out) hb)
    have n3_ := Aside0.mk (IsS25.below (by repeat (first | (with_reducible first | exact HI471.out | apply IsS25.alloc | apply IsS25.drewN | apply IsS25.drew | apply IsS25.set_1 | refine IsS25.far ?_ NB471_470.out _ | refine IsS25.far ?_ NB471_477.out _) | exact HI471.out)) hb)
    have n4_ := Aside0.mk (blk_below (g := gb477) (o := .cells #[.string t472, .slice Ao58 t473.length co58] 28 (0, 0)) (by (with_reducible repeat (first | refine blk_drewN ?_ _ | refine blk_drew ?_ | refine blk_alloc ?_ _)); exact BK477.out) hb)
    have n5_ := Aside0.mk (below_step (by repeat (first | (with_reducible first | exact HB.out | apply below_alloc | apply pw_below_drewN | apply below_drew1 | refine below_set ?_ (IsS25.ge HI471.out) | refine below_set ?_ GE470.out | refine below_set ?_ GE477.out) | exact HB.out)) hb)
    clear HO475
    clear HO481
    clear BK470
    clear HI471
    clear BK477
    clear HB
    have HO475 := n0_
    have HO481 := n1_
    have BK470 := n2_
    have HI471 := n3_
    have BK477 := n4_
    have HB := n5_
    clear n0_ n1_ n2_ n3_ n4_ n5_
    (try clear hb)
    (try clear hb2)
    (try clear hk)
    (try clear hi)
    refine hK.out _ _ ⟨(blk_cell BK470.out 0).trans rfl, (blk_cell BK470.out 1).trans rfl⟩ (fun hHeld => ?_)
    clear hK K
    refine norm_ (a' := ?_) ?_ ?_
    rotate_left
    · show Act.put _ (some 13) _ = _
      simp only [Act.put, List.setIfInBounds_toArray, List.set_cons_zero, List.set_cons_succ, i64_w, i32_w]
      rfl
    refine one_ (i := 3) (N := some 15) #[true, true, true, true, false, false, false, false, false, false, false, false, false, false, false, false] rfl rfl (one_of HT_.out (by kernel_rfl)) (by decide) (fun K hK => ?_)
    refine goes_ Tryd.func39 (by kernel_rfl) rfl #[.agg #[.string t478, .slice Ao63 t479.length co63]] (by rfl) rfl rfl (by (try simp only [List.map_toArray, List.map_cons, List.map_nil]); first | done | rfl | (simp only [List.length_drop, List.length_take]; rfl)) ?_
    with_reducible refine (priceofficeref06_Validate.calls k t478 _ _ t479 t483 _ ?side1 ?side2 A6.out).mono ?_
    (case side1 => repeat (first | exact (Kd.R_reads' HO481.out).2.2 | (with_reducible refine Kd.C_alloc ?_ _) | (with_reducible refine Kd.C_drewN ?_ _) | (with_reducible refine Kd.C_drew ?_)))
    (case side2 => exact (Kd.R_reads' HO481.out).2.1)
    rintro e w67 ⟨rfl, hb⟩
    refine ⟨_, rfl, ?_⟩
    have n0_ := Aside0.mk (Kd.R_below (by (with_reducible repeat (first | apply Kd.R_alloc | apply Kd.R_drewN | apply Kd.R_drew)); exact HO475.out) hb)
    have n1_ := Aside0.mk (Kd.R_below (by (with_reducible repeat (first | apply Kd.R_alloc | apply Kd.R_drewN | apply Kd.R_drew)); exact HO481.out) hb)
    have n2_ := Aside0.mk (blk_below (g := gb470) (o := .cells #[.string t478, .slice Ao63 t479.length co63] 28 (0, 0)) (by (with_reducible repeat (first | refine blk_drewN ?_ _ | refine blk_drew ?_ | refine blk_alloc ?_ _)); exact BK470.out) hb)
    have n3_ := Aside0.mk (IsS25.below (by repeat (first | (with_reducible first | exact HI471.out | apply IsS25.alloc | apply IsS25.drewN | apply IsS25.drew | apply IsS25.set_1 | refine IsS25.far ?_ NB471_470.out _ | refine IsS25.far ?_ NB471_477.out _) | exact HI471.out)) hb)
    have n4_ := Aside0.mk (blk_below (g := gb477) (o := .cells #[.string t472, .slice Ao58 t473.length co58] 28 (0, 0)) (by (with_reducible repeat (first | refine blk_drewN ?_ _ | refine blk_drew ?_ | refine blk_alloc ?_ _)); exact BK477.out) hb)
    have n5_ := Aside0.mk (below_step (by repeat (first | (with_reducible first | exact HB.out | apply below_alloc | apply pw_below_drewN | apply below_drew1 | refine below_set ?_ (IsS25.ge HI471.out) | refine below_set ?_ GE470.out | refine below_set ?_ GE477.out) | exact HB.out)) hb)
    clear HO475
    clear HO481
    clear BK470
    clear HI471
    clear BK477
    clear HB
    have HO475 := n0_
    have HO481 := n1_
    have BK470 := n2_
    have HI471 := n3_
    have BK477 := n4_
    have HB := n5_
    clear n0_ n1_ n2_ n3_ n4_ n5_
    (try clear hb)
    (try clear hb2)
    (try clear hk)
    (try clear hi)
    refine hK.out _ _ ⟨(blk_cell BK470.out 0).trans rfl, (blk_cell BK470.out 1).trans rfl⟩ (fun hHeld => ?_)
    clear hK K
    refine norm_ (a' := ?_) ?_ ?_
    rotate_left
    · show Act.put _ (some 15) _ = _
      simp only [Act.put, List.setIfInBounds_toArray, List.set_cons_zero, List.set_cons_succ, i64_w, i32_w]
      rfl
    refine pure_ (i := 4) (N := some 16) (v := ?_) (a' := ?_) #[true, true, true, true, true, false, false, false, false, false, false, false, false, false, false, false] rfl rfl (any_of HT_.out (by kernel_rfl)) (fun _ _ _ h => h) (Or.inl ⟨by rfl, ?_⟩) ?_ ?_
    rotate_left
    · intro w'
      go_simp
      with_reducible rfl
    rotate_left
    · simp only [Act.put, List.setIfInBounds_toArray, List.set_cons_zero, List.set_cons_succ, i64_w, i32_w]
      rfl
    refine pure_ (i := 5) (N := some 17) (v := ?_) (a' := ?_) #[true, true, true, true, true, true, false, false, false, false, false, false, false, false, false, false] rfl rfl (any_of HT_.out (by kernel_rfl)) (fun _ _ _ h => h) (Or.inl ⟨by rfl, ?_⟩) ?_ ?_
    rotate_left
    · intro w'
      go_simp
      with_reducible rfl
    rotate_left
    · simp only [Act.put, List.setIfInBounds_toArray, List.set_cons_zero, List.set_cons_succ, i64_w, i32_w]
      rfl
    refine pure_ (i := 6) (N := some 18) (v := undef) (a' := ?_) #[true, true, true, true, true, true, true, false, false, false, false, false, false, false, false, false] rfl rfl (any_of HT_.out (by kernel_rfl)) (fun _ _ _ h => h) (Or.inr ⟨by rfl, rfl⟩) ?_ ?_
    rotate_left
    · simp only [Act.put, List.setIfInBounds_toArray, List.set_cons_zero, List.set_cons_succ, i64_w, i32_w]
      rfl
    refine pure_ (i := 7) (N := some 19) (v := undef) (a' := ?_) #[true, true, true, true, true, true, true, true, false, false, false, false, false, false, false, false] rfl rfl (any_of HT_.out (by kernel_rfl)) (fun _ _ _ h => h) (Or.inr ⟨by rfl, rfl⟩) ?_ ?_
    rotate_left
    · simp only [Act.put, List.setIfInBounds_toArray, List.set_cons_zero, List.set_cons_succ, i64_w, i32_w]
      rfl
    refine pure_ (i := 8) (N := some 20) (v := undef) (a' := ?_) #[true, true, true, true, true, true, true, true, true, false, false, false, false, false, false, false] rfl rfl (any_of HT_.out (by kernel_rfl)) (fun _ _ _ h => h) (Or.inr ⟨by rfl, rfl⟩) ?_ ?_
    rotate_left
    · simp only [Act.put, List.setIfInBounds_toArray, List.set_cons_zero, List.set_cons_succ, i64_w, i32_w]
      rfl
    refine pure_ (i := 9) (N := some 21) (v := undef) (a' := ?_) #[true, true, true, true, true, true, true, true, true, true, false, false, false, false, false, false] rfl rfl (any_of HT_.out (by kernel_rfl)) (fun _ _ _ h => h) (Or.inr ⟨by rfl, rfl⟩) ?_ ?_
    rotate_left
    · simp only [Act.put, List.setIfInBounds_toArray, List.set_cons_zero, List.set_cons_succ, i64_w, i32_w]
      rfl
    refine pure_ (i := 10) (N := some 22) (v := undef) (a' := ?_) #[true, true, true, true, true, true, true, true, true, true, true, false, false, false, false, false] rfl rfl (any_of HT_.out (by kernel_rfl)) (fun _ _ _ h => h) (Or.inr ⟨by rfl, rfl⟩) ?_ ?_
    rotate_left
    · simp only [Act.put, List.setIfInBounds_toArray, List.set_cons_zero, List.set_cons_succ, i64_w, i32_w]
      rfl
    refine pure_ (i := 11) (N := some 23) (v := ?_) (a' := ?_) #[true, true, true, true, true, true, true, true, true, true, true, true, false, false, false, false] rfl rfl (any_of HT_.out (by kernel_rfl)) (fun _ _ _ h => h) (Or.inl ⟨by rfl, ?_⟩) ?_ ?_
    rotate_left
    · intro w'
      go_simp
      with_reducible rfl
    rotate_left
    · simp only [Act.put, List.setIfInBounds_toArray, List.set_cons_zero, List.set_cons_succ, i64_w, i32_w]
      rfl
    refine pure_ (i := 12) (N := some 24) (v := ?_) (a' := ?_) #[true, true, true, true, true, true, true, true, true, true, true, true, true, false, false, false] rfl rfl (any_of HT_.out (by kernel_rfl)) (fun _ _ _ h => h) (Or.inl ⟨by rfl, ?_⟩) ?_ ?_
    rotate_left
    · intro w'
      go_simp
      with_reducible rfl
    rotate_left
    · simp only [Act.put, List.setIfInBounds_toArray, List.set_cons_zero, List.set_cons_succ, i64_w, i32_w]
      rfl
    refine pure_ (i := 13) (N := some 25) (v := undef) (a' := ?_) #[true, true, true, true, true, true, true, true, true, true, true, true, true, true, false, false] rfl rfl (any_of HT_.out (by kernel_rfl)) (fun _ _ _ h => h) (Or.inr ⟨by rfl, rfl⟩) ?_ ?_
    rotate_left
    · simp only [Act.put, List.setIfInBounds_toArray, List.set_cons_zero, List.set_cons_succ, i64_w, i32_w]
      rfl
    refine pure_ (i := 14) (N := some 26) (v := ?_) (a' := ?_) #[true, true, true, true, true, true, true, true, true, true, true, true, true, true, true, false] rfl rfl (any_of HT_.out (by kernel_rfl)) (fun _ _ _ h => h) (Or.inl ⟨by rfl, ?_⟩) ?_ ?_
    rotate_left
    · intro w'
      go_simp
      with_reducible rfl
    rotate_left
    · simp only [Act.put, List.setIfInBounds_toArray, List.set_cons_zero, List.set_cons_succ, i64_w, i32_w]
      rfl
    refine pure_ (i := 15) (N := some 4) (v := ?_) (a' := ?_) #[true, true, true, true, true, true, true, true, true, true, true, true, true, true, true, true] rfl rfl (any_of HT_.out (by kernel_rfl)) (fun _ _ _ h => h) (Or.inl ⟨by rfl, ?_⟩) ?_ ?_
    rotate_left
    · intro w'
      go_simp
      with_reducible rfl
    rotate_left
    · simp only [Act.put, List.setIfInBounds_toArray, List.set_cons_zero, List.set_cons_succ, i64_w, i32_w]
      rfl
    refine done_ (done_of HT_.out (by kernel_rfl)) ?_
    try go_wp2
    go_ret
    exact ⟨by first | rfl | (simp [errW_none, errW_some] <;> rfl) | (simp [*, errW_none, errW_some] <;> rfl), by repeat (first | (with_reducible first | exact HB.out | apply below_alloc | apply pw_below_drewN | apply below_drew1 | refine below_set ?_ (IsS25.ge HI471.out) | refine below_set ?_ GE470.out | refine below_set ?_ GE477.out) | exact HB.out)⟩

end Go.Proofs.YtpnoliognpmkmaaDoor.P
