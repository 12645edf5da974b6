/- Lean functions with the same answers as the program's Go functions, and for each the proof that the call comes to these answers; written by a program of mine out of the translation, the functions marked 'by hand' by me. -/
import Derived.Test.YtpbkdbicdimfhaaDoorP0
import Derived.Test.YtpbkdbicdimfhaaDoorP7
import Derived.Test.YtpbkdbicdimfhaaDoorP9
import Derived.Test.YtpbkdbicdimfhaaDoorP10
import Derived.Test.YtpbkdbicdimfhaaDoorP11
import Derived.Test.YtpbkdbicdimfhaaDoorP18
namespace Go.Proofs.YtpbkdbicdimfhaaDoor.P
open Go.RowKit Go.Proofs.YtpbkdbicdimfhaaDoorW.PrintWords Go.Proofs.YtpbkdbicdimfhaaDoorW.PrintLast Go.Proofs.YtpbkdbicdimfhaaDoorW.PrintMore
attribute [local go_sem] max2_int min2_int max_two min_two max_three min_three max_four min_four   -- for this text's walks alone
set_option linter.unusedVariables false
set_option linter.unusedSimpArgs false

/-! ### priceofficelaw05_CalendarCounts: function 11 -/
mutual
def priceofficelaw05_CalendarCounts.j0 : Nat → Int → List Int → Int → Int → Bool → Option (Bool)
  | 0, _, _, _, _, _ => none
  | k + 1, x7, x8, x9, x10, x44 => if x44 = true then (some false) else (priceofficelaw05_CalendarCounts.l0 k x8 x9 x10 0 (wrap64 (x7 + 1)))
def priceofficelaw05_CalendarCounts.l0 : Nat → List Int → Int → Int → Int → Int → Option (Bool)
  | 0, _, _, _, _, _ => none
  | k + 1, x8, x9, x10, x12, x13 => if x13 < x10 then ((calendar_Business.f x13 x8).bind fun t378 => (if t378 = true then (priceofficelaw05_CalendarCounts.l0 k x8 x9 x10 (wrap64 (x12 + 1)) (wrap64 (x13 + 1))) else (priceofficelaw05_CalendarCounts.l0 k x8 x9 x10 x12 (wrap64 (x13 + 1))))) else (if x12 = (wrap64 (x9 - 1)) then ((calendar_Business.f x10 x8).bind fun t379 => (if t379 = true then ((priceofficelaw05_awake.f k).bind fun t380 => (some t380)) else (some false))) else (some false))
end
def priceofficelaw05_CalendarCounts.f (k : Nat) (a0 : Int) (a1 : Int) (l2 : List Int) : Option (Bool) := (priceofficemake_Fold.f a0 182221).bind fun t369 => ((priceofficelaw05_holidays.f k l2 0 (wrap64 (t369 + 5))).bind fun bt371 => ((priceofficemake_Fold.f a1 30).bind fun t375 => ((calendar_Shift.f t369 (wrap64 (1 + t375)) bt371.1).bind fun bt376 => (if bt376.2 = 0 then (if bt376.1 ≤ t369 then (priceofficelaw05_CalendarCounts.j0 k t369 bt371.1 (wrap64 (1 + t375)) bt376.1 true) else (priceofficelaw05_CalendarCounts.j0 k t369 bt371.1 (wrap64 (1 + t375)) bt376.1 (decide (bt376.1 > (wrap64 (t369 + 400)))))) else (priceofficelaw05_CalendarCounts.j0 k t369 bt371.1 (wrap64 (1 + t375)) bt376.1 true)))))
theorem priceofficelaw05_CalendarCounts.mono_l : ∀ k, (∀ y0 y1 y2 y3 y4, LeO (priceofficelaw05_CalendarCounts.j0 k y0 y1 y2 y3 y4) (priceofficelaw05_CalendarCounts.j0 (k + 1) y0 y1 y2 y3 y4)) ∧ (∀ y0 y1 y2 y3 y4, LeO (priceofficelaw05_CalendarCounts.l0 k y0 y1 y2 y3 y4) (priceofficelaw05_CalendarCounts.l0 (k + 1) y0 y1 y2 y3 y4))
  | 0 => ⟨fun _ _ _ _ _ r h => by simp [priceofficelaw05_CalendarCounts.j0] at h, fun _ _ _ _ _ r h => by simp [priceofficelaw05_CalendarCounts.l0] at h⟩
  | k + 1 => by
    obtain ⟨ih0, ih1⟩ := priceofficelaw05_CalendarCounts.mono_l k
    refine ⟨?_, ?_⟩
    · intro y0 y1 y2 y3 y4
      unfold priceofficelaw05_CalendarCounts.j0
      repeat' first
      | (with_reducible exact ih0 _ _ _ _ _)
      | (with_reducible exact ih1 _ _ _ _ _)
      | (with_reducible exact priceofficelaw05_awake.mono _)
      | (with_reducible exact priceofficelaw05_holidays.mono _ _ _ _)
      | (with_reducible exact LeO.refl _)
      | (with_reducible exact LeO.none _)
      | (with_reducible refine LeO.ite ?_ ?_)
      | (with_reducible refine LeO.bind ?_ (fun _ => ?_))
      | exact ih0 _ _ _ _ _
      | exact ih1 _ _ _ _ _
      | exact priceofficelaw05_awake.mono _
      | exact priceofficelaw05_holidays.mono _ _ _ _
      | exact LeO.none _
      | refine LeO.ite ?_ ?_
      | refine LeO.bind ?_ (fun _ => ?_)
    · intro y0 y1 y2 y3 y4
      unfold priceofficelaw05_CalendarCounts.l0
      repeat' first
      | (with_reducible exact ih0 _ _ _ _ _)
      | (with_reducible exact ih1 _ _ _ _ _)
      | (with_reducible exact priceofficelaw05_awake.mono _)
      | (with_reducible exact priceofficelaw05_holidays.mono _ _ _ _)
      | (with_reducible exact LeO.refl _)
      | (with_reducible exact LeO.none _)
      | (with_reducible refine LeO.ite ?_ ?_)
      | (with_reducible refine LeO.bind ?_ (fun _ => ?_))
      | exact ih0 _ _ _ _ _
      | exact ih1 _ _ _ _ _
      | exact priceofficelaw05_awake.mono _
      | exact priceofficelaw05_holidays.mono _ _ _ _
      | exact LeO.none _
      | refine LeO.ite ?_ ?_
      | refine LeO.bind ?_ (fun _ => ?_)
theorem priceofficelaw05_CalendarCounts.mono : ∀ a0 a1 a2 k, LeO (priceofficelaw05_CalendarCounts.f k a0 a1 a2) (priceofficelaw05_CalendarCounts.f (k + 1) a0 a1 a2) := by
  intro a0 a1 a2 k
  obtain ⟨ih0, ih1⟩ := priceofficelaw05_CalendarCounts.mono_l k
  unfold priceofficelaw05_CalendarCounts.f
  repeat' first
      | (with_reducible exact ih0 _ _ _ _ _)
      | (with_reducible exact ih1 _ _ _ _ _)
      | (with_reducible exact priceofficelaw05_awake.mono _)
      | (with_reducible exact priceofficelaw05_holidays.mono _ _ _ _)
      | (with_reducible exact LeO.refl _)
      | (with_reducible exact LeO.none _)
      | (with_reducible refine LeO.ite ?_ ?_)
      | (with_reducible refine LeO.bind ?_ (fun _ => ?_))
      | exact ih0 _ _ _ _ _
      | exact ih1 _ _ _ _ _
      | exact priceofficelaw05_awake.mono _
      | exact priceofficelaw05_holidays.mono _ _ _ _
      | exact LeO.none _
      | refine LeO.ite ?_ ?_
      | refine LeO.bind ?_ (fun _ => ?_)
set_option maxHeartbeats 8000000 in
set_option maxRecDepth 100000 in
theorem priceofficelaw05_CalendarCounts.calls (k : Nat) (a0 : Int) (a1 : Int) (A2 : Option Addr) (c2 : Nat) (l2 : List Int) (r : Bool) (w : World) (hr2 : Kd.C (Kd.int .i64) w A2 l2.length l2) (hc2 : l2.length ≤ c2) (hG : GT w) (h : priceofficelaw05_CalendarCounts.f k a0 a1 l2 = some r) :
    Calls Tryd.prog 11 #[.int .i64 a0, .int .i64 a1, .slice A2 l2.length c2] w fun e w' => e = .returned (.bool r) ∧ Below w.heap.size w w' := by
  have HG := Aside0.mk hG
  clear hG
  have hu32 := Tryd.underlying32
  have HR2 := Aside0.mk hr2
  have HC2 := Aside0.mk hc2
  clear hr2 hc2
  have HB := Aside0.mk (Below.refl w.heap.size w)
  have H : ((priceofficemake_Fold.f a0 182221).bind fun t369 => ((priceofficelaw05_holidays.f k l2 0 (wrap64 (t369 + 5))).bind fun bt371 => ((priceofficemake_Fold.f a1 30).bind fun t375 => ((calendar_Shift.f t369 (wrap64 (1 + t375)) bt371.1).bind fun bt376 => (if bt376.2 = 0 then (if bt376.1 ≤ t369 then (priceofficelaw05_CalendarCounts.j0 k t369 bt371.1 (wrap64 (1 + t375)) bt376.1 true) else (priceofficelaw05_CalendarCounts.j0 k t369 bt371.1 (wrap64 (1 + t375)) bt376.1 (decide (bt376.1 > (wrap64 (t369 + 400)))))) else (priceofficelaw05_CalendarCounts.j0 k t369 bt371.1 (wrap64 (1 + t375)) bt376.1 true)))))) = some r := h
  clear h
  replace H := Option.bind_eq_some_iff.mp H
  obtain ⟨t369, A40, H⟩ := H
  replace H : ((priceofficelaw05_holidays.f k l2 0 (wrap64 (t369 + 5))).bind fun bt371 => ((priceofficemake_Fold.f a1 30).bind fun t375 => ((calendar_Shift.f t369 (wrap64 (1 + t375)) bt371.1).bind fun bt376 => (if bt376.2 = 0 then (if bt376.1 ≤ t369 then (priceofficelaw05_CalendarCounts.j0 k t369 bt371.1 (wrap64 (1 + t375)) bt376.1 true) else (priceofficelaw05_CalendarCounts.j0 k t369 bt371.1 (wrap64 (1 + t375)) bt376.1 (decide (bt376.1 > (wrap64 (t369 + 400)))))) else (priceofficelaw05_CalendarCounts.j0 k t369 bt371.1 (wrap64 (1 + t375)) bt376.1 true))))) = some r := H
  have A4 := Aside0.mk A40
  clear A40
  replace H := Option.bind_eq_some_iff.mp H
  obtain ⟨⟨t371, t374⟩, A50, H⟩ := H
  replace H : ((priceofficemake_Fold.f a1 30).bind fun t375 => ((calendar_Shift.f t369 (wrap64 (1 + t375)) t371).bind fun bt376 => (if bt376.2 = 0 then (if bt376.1 ≤ t369 then (priceofficelaw05_CalendarCounts.j0 k t369 t371 (wrap64 (1 + t375)) bt376.1 true) else (priceofficelaw05_CalendarCounts.j0 k t369 t371 (wrap64 (1 + t375)) bt376.1 (decide (bt376.1 > (wrap64 (t369 + 400)))))) else (priceofficelaw05_CalendarCounts.j0 k t369 t371 (wrap64 (1 + t375)) bt376.1 true)))) = some r := H
  have A5 := Aside0.mk A50
  clear A50
  replace H := Option.bind_eq_some_iff.mp H
  obtain ⟨t375, A60, H⟩ := H
  replace H : ((calendar_Shift.f t369 (wrap64 (1 + t375)) t371).bind fun bt376 => (if bt376.2 = 0 then (if bt376.1 ≤ t369 then (priceofficelaw05_CalendarCounts.j0 k t369 t371 (wrap64 (1 + t375)) bt376.1 true) else (priceofficelaw05_CalendarCounts.j0 k t369 t371 (wrap64 (1 + t375)) bt376.1 (decide (bt376.1 > (wrap64 (t369 + 400)))))) else (priceofficelaw05_CalendarCounts.j0 k t369 t371 (wrap64 (1 + t375)) bt376.1 true))) = some r := H
  have A6 := Aside0.mk A60
  clear A60
  replace H := Option.bind_eq_some_iff.mp H
  obtain ⟨⟨t376, t377⟩, A70, H⟩ := H
  replace H : (if t377 = 0 then (if t376 ≤ t369 then (priceofficelaw05_CalendarCounts.j0 k t369 t371 (wrap64 (1 + t375)) t376 true) else (priceofficelaw05_CalendarCounts.j0 k t369 t371 (wrap64 (1 + t375)) t376 (decide (t376 > (wrap64 (t369 + 400)))))) else (priceofficelaw05_CalendarCounts.j0 k t369 t371 (wrap64 (1 + t375)) t376 true)) = some r := H
  have A7 := Aside0.mk A70
  clear A70
  have HC8 := Aside0.mk H
  clear H
  go_enter Tryd.func11, Tryd.ntmps11
  go_upto_region 5 with (first | ((with_reducible refine gate_callee (f := 19) rfl ?_); refine goesL_ (some 15) rfl rfl Tryd.func19 (by kernel_rfl) rfl #[.int .i64 a0, .int .i64 182221] rfl (by (try simp only [List.map_toArray, List.map_cons, List.map_nil]); first | done | rfl | (simp only [List.length_drop, List.length_take]; rfl)) ?_; (with_reducible refine (priceofficemake_Fold.calls a0 182221 t369 _ A4.out).mono ?_); rintro e w9 ⟨rfl, hb⟩; refine ⟨_, rfl, ?_⟩; have n0_ := Aside0.mk (below_step (by repeat (first | (with_reducible first | exact HB.out | apply below_alloc | apply pw_below_drewN | apply below_drew1) | exact HB.out)) hb); clear HB; have HB := n0_; clear n0_; (try clear hb); (try clear hb2); (try clear hk); (try clear hi)) | ((with_reducible refine gate_dst (N := 18) rfl ?_); refine box_event ?hg (N := 18) ?hd (cs := #[.slice A2 l2.length c2, .int .i64 0]) (t := 32) ?hr ?_; (case hd => rfl); (case hg => rfl); (case hr => first | (go_simp; done) | (go_simp; rfl)); intro gb370 hg w10 hbox hb; have n0_ := Aside0.mk (below_step (by repeat (first | (with_reducible first | exact HB.out | apply below_alloc | apply pw_below_drewN | apply below_drew1) | exact HB.out)) hb); have n1_ := Aside0.mk (hbox); have n2_ := Aside0.mk ((by rw [hg]; exact (below_size (by repeat (first | (with_reducible first | exact HB.out | apply below_alloc | apply pw_below_drewN | apply below_drew1) | exact HB.out))) : w.heap.size ≤ gb370)); have n3_ := Aside0.mk ((by rw [hg]; exact (below_size (by repeat (first | (with_reducible first | exact HB.out | apply below_alloc | apply pw_below_drewN | apply below_drew1) | exact HB.out))) : w.heap.size ≤ gb370)); have n4_ := Aside0.mk ((show IsS32 w w10 gb370 l2 0 from ⟨_, _, hbox, (by rw [hg]; exact (below_size (by repeat (first | (with_reducible first | exact HB.out | apply below_alloc | apply pw_below_drewN | apply below_drew1) | exact HB.out))) : w.heap.size ≤ gb370), HR2.out⟩)); clear HB; have HB := n0_; have BK370 := n1_; have GW370 := n2_; have GE370 := n3_; have HI370 := n4_; clear n0_ n1_ n2_ n3_ n4_; clear hb hbox hg) | ((with_reducible refine gate_callee (f := 20) rfl ?_); refine goesL_ (some 21) rfl rfl Tryd.func20 (by kernel_rfl) rfl #[.pointer (some ⟨gb370, 0, none⟩), .int .i64 (wrap64 (t369 + 5))] rfl (by (try simp only [List.map_toArray, List.map_cons, List.map_nil]); first | done | rfl | (simp only [List.length_drop, List.length_take]; rfl)) ?_; (with_reducible refine (priceofficelaw05_holidays.calls k gb370 l2 0 (wrap64 (t369 + 5)) t371 t374 w _ ?side1 ?side2 A5.out).mono ?_); (case side1 => repeat (first | (with_reducible first | exact HI370.out | apply IsS32.alloc | apply IsS32.drewN | apply IsS32.drew | apply IsS32.set_1) | exact HI370.out)); (case side2 => repeat (first | (with_reducible first | exact HB.out | apply below_alloc | apply pw_below_drewN | apply below_drew1 | refine below_set ?_ (IsS32.ge HI370.out)) | exact HB.out)); rintro e w11 ⟨v372, rfl, ho0, hi, hb, hk⟩; refine ⟨_, rfl, ?_⟩; have n0_ := Aside0.mk (Kd.R_lower ho0 (below_size (by repeat (first | (with_reducible first | exact HB.out | apply below_alloc | apply pw_below_drewN | apply below_drew1 | refine below_set ?_ (IsS32.ge HI370.out)) | exact HB.out)))); have n1_ := Aside0.mk (hb); have n2_ := Aside0.mk (hi); clear HB; clear HI370; have HO373 := n0_; have HB := n1_; have HI370 := n2_; clear n0_ n1_ n2_; (try clear hb); (try clear hb2); (try clear hk); (try clear hi); (try clear ho0)) | ((with_reducible refine gate_callee (f := 19) rfl ?_); refine goesL_ (some 23) rfl rfl Tryd.func19 (by kernel_rfl) rfl #[.int .i64 a1, .int .i64 30] rfl (by (try simp only [List.map_toArray, List.map_cons, List.map_nil]); first | done | rfl | (simp only [List.length_drop, List.length_take]; rfl)) ?_; (with_reducible refine (priceofficemake_Fold.calls a1 30 t375 _ A6.out).mono ?_); rintro e w12 ⟨rfl, hb⟩; refine ⟨_, rfl, ?_⟩; have n0_ := Aside0.mk (Kd.R_below (by (with_reducible repeat (first | apply Kd.R_alloc | apply Kd.R_drewN | apply Kd.R_drew)); exact HO373.out) hb); have n1_ := Aside0.mk (IsS32.below (by repeat (first | (with_reducible first | exact HI370.out | apply IsS32.alloc | apply IsS32.drewN | apply IsS32.drew | apply IsS32.set_1) | exact HI370.out)) hb); have n2_ := Aside0.mk (below_step (by repeat (first | (with_reducible first | exact HB.out | apply below_alloc | apply pw_below_drewN | apply below_drew1 | refine below_set ?_ (IsS32.ge HI370.out)) | exact HB.out)) hb); clear HO373; clear HI370; clear HB; have HO373 := n0_; have HI370 := n1_; have HB := n2_; clear n0_ n1_ n2_; (try clear hb); (try clear hb2); (try clear hk); (try clear hi); obtain ⟨Ao13, co13, eo13⟩ := Kd.R_slice HO373.out; subst eo13) | ((with_reducible refine gate_callee (f := 37) rfl ?_); refine goesL_ (some 29) rfl rfl Tryd.func37 (by kernel_rfl) rfl #[.int .i64 t369, .int .i64 (wrap64 (1 + t375)), .slice Ao13 t371.length co13] rfl (by (try simp only [List.map_toArray, List.map_cons, List.map_nil]); first | done | rfl | (simp only [List.length_drop, List.length_take]; rfl)) ?_; (with_reducible refine (calendar_Shift.calls t369 (wrap64 (1 + t375)) _ _ t371 t376 t377 _ ?side1 ?side2 A7.out).mono ?_); (case side1 => repeat (first | exact (Kd.R_reads' HO373.out).2.2 | (with_reducible refine Kd.C_alloc ?_ _) | (with_reducible refine Kd.C_drewN ?_ _) | (with_reducible refine Kd.C_drew ?_))); (case side2 => exact (Kd.R_reads' HO373.out).2.1); rintro e w14 ⟨rfl, hb⟩; refine ⟨_, rfl, ?_⟩; have n0_ := Aside0.mk (Kd.R_below (by (with_reducible repeat (first | apply Kd.R_alloc | apply Kd.R_drewN | apply Kd.R_drew)); exact HO373.out) hb); have n1_ := Aside0.mk (IsS32.below (by repeat (first | (with_reducible first | exact HI370.out | apply IsS32.alloc | apply IsS32.drewN | apply IsS32.drew | apply IsS32.set_1) | exact HI370.out)) hb); have n2_ := Aside0.mk (below_step (by repeat (first | (with_reducible first | exact HB.out | apply below_alloc | apply pw_below_drewN | apply below_drew1 | refine below_set ?_ (IsS32.ge HI370.out)) | exact HB.out)) hb); clear HO373; clear HI370; clear HB; have HO373 := n0_; have HI370 := n1_; have HB := n2_; clear n0_ n1_ n2_; (try clear hb); (try clear hb2); (try clear hk); (try clear hi)))
  (try simp only [Act.put, List.setIfInBounds_toArray, List.set_cons_zero, List.set_cons_succ])
  go_cut [44] (fun v44 wc => ∃ (kq : Nat) (x44_7 : Bool), v44 = .bool x44_7 ∧ Aside0 (priceofficelaw05_CalendarCounts.j0 kq t369 t371 (wrap64 (1 + t375)) t376 x44_7 = some r) ∧ Aside0 (kq ≤ k) ∧ Aside0 (Kd.R (Kd.int .i64) 3 wc w.heap.size (fun _ => True) (.slice Ao13 t371.length co13) t371) ∧ Aside0 (Below w.heap.size w wc))
  case first =>
    have H := HC8.out
    clear HC8
    by_cases c15 : t377 = 0
    · rw [if_pos c15] at H
      have c15b0 : (t377 == 0) = true := beq_iff_eq.mpr c15
      have c15b1 : (t377 != 0) = false := bne_eq_false_iff_eq.mpr c15
      clear c15
      (first | rw [c15b0] | (simp only [i64_w, i32_w]; rw [c15b0]) | skip)
      by_cases c16 : t376 ≤ t369
      · rw [if_pos c16] at H
        have c16b0 : decide (t376 ≤ t369) = true := decide_eq_true c16
        clear c16
        have H' := Aside0.mk H
        clear H
        go_wp2
        go_meet
        case rel => exact ⟨_, (true), (by first | rfl | (simp; done) | (simp [*]; done)), H', ⟨by first | omega | exact Nat.le_refl _⟩, ⟨by (with_reducible repeat (first | apply Kd.R_alloc | apply Kd.R_drewN | apply Kd.R_drew)); exact HO373.out⟩, ⟨by repeat (first | (with_reducible first | exact HB.out | apply below_alloc | apply pw_below_drewN | apply below_drew1 | refine below_set ?_ (IsS32.ge HI370.out)) | exact HB.out)⟩⟩
      · rw [if_neg c16] at H
        have c16b0 : decide (t376 ≤ t369) = false := decide_eq_false c16
        clear c16
        have H' := Aside0.mk H
        clear H
        go_wp2
        go_meet
        case rel => exact ⟨_, (decide (t376 > (wrap64 (t369 + 400)))), (by first | rfl | (simp; done) | (simp [*]; done)), H', ⟨by first | omega | exact Nat.le_refl _⟩, ⟨by (with_reducible repeat (first | apply Kd.R_alloc | apply Kd.R_drewN | apply Kd.R_drew)); exact HO373.out⟩, ⟨by repeat (first | (with_reducible first | exact HB.out | apply below_alloc | apply pw_below_drewN | apply below_drew1 | refine below_set ?_ (IsS32.ge HI370.out)) | exact HB.out)⟩⟩
    · rw [if_neg c15] at H
      have c15b0 : (t377 == 0) = false := beq_eq_false_iff_ne.mpr c15
      have c15b1 : (t377 != 0) = true := bne_iff_ne.mpr c15
      (first | rw [c15b0] | (simp only [i64_w, i32_w]; rw [c15b0]) | skip)
      have H' := Aside0.mk H
      clear H
      go_wp2
      go_meet
      case rel => exact ⟨_, (true), (by first | rfl | (simp; done) | (simp [*]; done)), H', ⟨by first | omega | exact Nat.le_refl _⟩, ⟨by (with_reducible repeat (first | apply Kd.R_alloc | apply Kd.R_drewN | apply Kd.R_drew)); exact HO373.out⟩, ⟨by repeat (first | (with_reducible first | exact HB.out | apply below_alloc | apply pw_below_drewN | apply below_drew1 | refine below_set ?_ (IsS32.ge HI370.out)) | exact HB.out)⟩⟩
  case rest =>
    clear HC8
    try clear c1
    try clear c2
    try clear p2
    try clear c3
    try clear p6
    try clear c11
    try clear c15
    try clear c15b0
    try clear c15b1
    try clear c16
    try clear c16b0
    obtain ⟨kq, x44_7, rfl, HA, HJ7, HO_8, HB⟩ := hcut
    cases kq with
    | zero => exact absurd HA.out (by simp [priceofficelaw05_CalendarCounts.j0])
    | succ kj7 =>
      have H := HA.out
      clear HA
      simp only [priceofficelaw05_CalendarCounts.j0] at H
      by_cases c17 : x44_7 = true
      · subst c17
        have H1 : (some false) = some r := by rw [if_pos rfl] at H; exact H
        clear H
        have H := H1
        clear H1
        obtain rfl := Option.some.inj H
        go_wp2
        go_ret
        exact ⟨by first | rfl | (simp [errW_none, errW_some] <;> rfl) | (simp [*, errW_none, errW_some] <;> rfl), by repeat (first | (with_reducible first | exact HB.out | apply below_alloc | apply pw_below_drewN | apply below_drew1) | exact HB.out)⟩
      · replace c17 := Bool.eq_false_iff.mpr c17
        subst c17
        have H1 : (priceofficelaw05_CalendarCounts.l0 kj7 t371 (wrap64 (1 + t375)) t376 0 (wrap64 (t369 + 1))) = some r := by rw [if_neg (show ¬ (false = true) by decide)] at H; exact H
        clear H
        have H := H1
        clear H1
        have H' := Aside0.mk H
        clear H
        go_wp2
        go_loopg [12, 13] kj7 (fun kq v12 v13 w' => ∃ (x12_2 : Int) (x13_2 : Int), v12 = .int .i64 x12_2 ∧ v13 = .int .i64 x13_2 ∧ Aside0 (priceofficelaw05_CalendarCounts.l0 kq t371 (wrap64 (1 + t375)) t376 x12_2 x13_2 = some r) ∧ Aside0 (kq ≤ kj7) ∧ Aside0 (Kd.R (Kd.int .i64) 3 w' w.heap.size (fun _ => True) (.slice Ao13 t371.length co13) t371) ∧ Aside0 (Below w.heap.size w w'))
        case atStart => exact ⟨(0), (wrap64 (t369 + 1)), (by first | rfl | (simp; done) | (simp [*]; done)), (by first | rfl | (simp; done) | (simp [*]; done)), H', ⟨Nat.le_refl _⟩, ⟨by (with_reducible repeat (first | apply Kd.R_alloc | apply Kd.R_drewN | apply Kd.R_drew)); exact HO_8.out⟩, ⟨by repeat (first | (with_reducible first | exact HB.out | apply below_alloc | apply pw_below_drewN | apply below_drew1) | exact HB.out)⟩⟩
        case round =>
          clear H'
          try clear c1
          try clear c2
          try clear p2
          try clear c3
          try clear p6
          try clear c11
          try clear c15
          try clear c15b0
          try clear c15b1
          try clear c16
          try clear c16b0
          try clear c17
          try clear p2
          try clear p6
          obtain ⟨x12_2, x13_2, rfl, rfl, HA, HK2, HO_8, HB⟩ := hrel
          cases gk with
          | zero => exact absurd HA.out (by simp [priceofficelaw05_CalendarCounts.l0])
          | succ k2 =>
            have H := HA.out
            clear HA
            simp only [priceofficelaw05_CalendarCounts.l0] at H
            by_cases c18 : x13_2 < t376
            · rw [if_pos c18] at H
              have c18b0 : decide (x13_2 < t376) = true := decide_eq_true c18
              clear c18
              replace H := Option.bind_eq_some_iff.mp H
              obtain ⟨t378, A190, H⟩ := H
              replace H : (if t378 = true then (priceofficelaw05_CalendarCounts.l0 k2 t371 (wrap64 (1 + t375)) t376 (wrap64 (x12_2 + 1)) (wrap64 (x13_2 + 1))) else (priceofficelaw05_CalendarCounts.l0 k2 t371 (wrap64 (1 + t375)) t376 x12_2 (wrap64 (x13_2 + 1)))) = some r := H
              have A19 := Aside0.mk A190
              clear A190
              by_cases c20 : t378 = true
              · subst c20
                have H1 : (priceofficelaw05_CalendarCounts.l0 k2 t371 (wrap64 (1 + t375)) t376 (wrap64 (x12_2 + 1)) (wrap64 (x13_2 + 1))) = some r := by rw [if_pos rfl] at H; exact H
                clear H
                have H := H1
                clear H1
                have H' := Aside0.mk H
                clear H
                go_wp2_with (first | ((with_reducible refine gate_callee (f := 21) rfl ?_); refine goesL_ (some 54) rfl rfl Tryd.func21 (by kernel_rfl) rfl #[.int .i64 x13_2, .slice Ao13 t371.length co13] rfl (by (try simp only [List.map_toArray, List.map_cons, List.map_nil]); first | done | rfl | (simp only [List.length_drop, List.length_take]; rfl)) ?_; (with_reducible refine (calendar_Business.calls x13_2 _ _ t371 true _ ?side1 ?side2 A19.out).mono ?_); (case side1 => repeat (first | exact (Kd.R_reads' HO_8.out).2.2 | (with_reducible refine Kd.C_alloc ?_ _) | (with_reducible refine Kd.C_drewN ?_ _) | (with_reducible refine Kd.C_drew ?_))); (case side2 => exact (Kd.R_reads' HO_8.out).2.1); rintro e w21 ⟨rfl, hb⟩; refine ⟨_, rfl, ?_⟩; have n0_ := Aside0.mk (Kd.R_below (by (with_reducible repeat (first | apply Kd.R_alloc | apply Kd.R_drewN | apply Kd.R_drew)); exact HO_8.out) hb); have n1_ := Aside0.mk (below_step (by repeat (first | (with_reducible first | exact HB.out | apply below_alloc | apply pw_below_drewN | apply below_drew1) | exact HB.out)) hb); clear HO_8; clear HB; have HO_8 := n0_; have HB := n1_; clear n0_ n1_; (try clear hb); (try clear hb2); (try clear hk); (try clear hi)))
                go_roundg k2
                case measure => have := HJ7.out; have := HK2.out; omega
                case rel => exact ⟨(wrap64 (x12_2 + 1)), (wrap64 (x13_2 + 1)), (by first | rfl | (simp; done) | (simp [*]; done)), (by first | rfl | (simp; done) | (simp [*]; done)), H', ⟨by have := HJ7.out; have := HK2.out; omega⟩, ⟨by (with_reducible repeat (first | apply Kd.R_alloc | apply Kd.R_drewN | apply Kd.R_drew)); exact HO_8.out⟩, ⟨by repeat (first | (with_reducible first | exact HB.out | apply below_alloc | apply pw_below_drewN | apply below_drew1) | exact HB.out)⟩⟩
              · replace c20 := Bool.eq_false_iff.mpr c20
                subst c20
                have H1 : (priceofficelaw05_CalendarCounts.l0 k2 t371 (wrap64 (1 + t375)) t376 x12_2 (wrap64 (x13_2 + 1))) = some r := by rw [if_neg (show ¬ (false = true) by decide)] at H; exact H
                clear H
                have H := H1
                clear H1
                have H' := Aside0.mk H
                clear H
                go_wp2_with (first | ((with_reducible refine gate_callee (f := 21) rfl ?_); refine goesL_ (some 54) rfl rfl Tryd.func21 (by kernel_rfl) rfl #[.int .i64 x13_2, .slice Ao13 t371.length co13] rfl (by (try simp only [List.map_toArray, List.map_cons, List.map_nil]); first | done | rfl | (simp only [List.length_drop, List.length_take]; rfl)) ?_; (with_reducible refine (calendar_Business.calls x13_2 _ _ t371 false _ ?side1 ?side2 A19.out).mono ?_); (case side1 => repeat (first | exact (Kd.R_reads' HO_8.out).2.2 | (with_reducible refine Kd.C_alloc ?_ _) | (with_reducible refine Kd.C_drewN ?_ _) | (with_reducible refine Kd.C_drew ?_))); (case side2 => exact (Kd.R_reads' HO_8.out).2.1); rintro e w22 ⟨rfl, hb⟩; refine ⟨_, rfl, ?_⟩; have n0_ := Aside0.mk (Kd.R_below (by (with_reducible repeat (first | apply Kd.R_alloc | apply Kd.R_drewN | apply Kd.R_drew)); exact HO_8.out) hb); have n1_ := Aside0.mk (below_step (by repeat (first | (with_reducible first | exact HB.out | apply below_alloc | apply pw_below_drewN | apply below_drew1) | exact HB.out)) hb); clear HO_8; clear HB; have HO_8 := n0_; have HB := n1_; clear n0_ n1_; (try clear hb); (try clear hb2); (try clear hk); (try clear hi)))
                go_roundg k2
                case measure => have := HJ7.out; have := HK2.out; omega
                case rel => exact ⟨(x12_2), (wrap64 (x13_2 + 1)), (by first | rfl | (simp; done) | (simp [*]; done)), (by first | rfl | (simp; done) | (simp [*]; done)), H', ⟨by have := HJ7.out; have := HK2.out; omega⟩, ⟨by (with_reducible repeat (first | apply Kd.R_alloc | apply Kd.R_drewN | apply Kd.R_drew)); exact HO_8.out⟩, ⟨by repeat (first | (with_reducible first | exact HB.out | apply below_alloc | apply pw_below_drewN | apply below_drew1) | exact HB.out)⟩⟩
            · rw [if_neg c18] at H
              have c18b0 : decide (x13_2 < t376) = false := decide_eq_false c18
              clear c18
              by_cases c23 : x12_2 = (wrap64 ((wrap64 (1 + t375)) - 1))
              · rw [if_pos c23] at H
                have c23b0 : (x12_2 == (wrap64 ((wrap64 (1 + t375)) - 1))) = true := beq_iff_eq.mpr c23
                have c23b1 : (x12_2 != (wrap64 ((wrap64 (1 + t375)) - 1))) = false := bne_eq_false_iff_eq.mpr c23
                clear c23
                replace H := Option.bind_eq_some_iff.mp H
                obtain ⟨t379, A240, H⟩ := H
                replace H : (if t379 = true then ((priceofficelaw05_awake.f k2).bind fun t380 => (some t380)) else (some false)) = some r := H
                have A24 := Aside0.mk A240
                clear A240
                by_cases c25 : t379 = true
                · subst c25
                  have H1 : ((priceofficelaw05_awake.f k2).bind fun t380 => (some t380)) = some r := by rw [if_pos rfl] at H; exact H
                  clear H
                  have H := H1
                  clear H1
                  replace H := Option.bind_eq_some_iff.mp H
                  obtain ⟨t380, A260, H⟩ := H
                  replace H : (some t380) = some r := H
                  have A26 := Aside0.mk A260
                  clear A260
                  obtain rfl := Option.some.inj H
                  go_wp2_with (first | (go_at_call 21; (with_reducible refine (calendar_Business.calls t376 _ _ t371 true _ ?side1 ?side2 A24.out).mono ?_); (case side1 => repeat (first | exact (Kd.R_reads' HO_8.out).2.2 | (with_reducible refine Kd.C_alloc ?_ _) | (with_reducible refine Kd.C_drewN ?_ _) | (with_reducible refine Kd.C_drew ?_))); (case side2 => exact (Kd.R_reads' HO_8.out).2.1); rintro e w27 ⟨rfl, hb⟩; have n0_ := Aside0.mk (Kd.R_below (by (with_reducible repeat (first | apply Kd.R_alloc | apply Kd.R_drewN | apply Kd.R_drew)); exact HO_8.out) hb); have n1_ := Aside0.mk (below_step (by repeat (first | (with_reducible first | exact HB.out | apply below_alloc | apply pw_below_drewN | apply below_drew1) | exact HB.out)) hb); clear HO_8; clear HB; have HO_8 := n0_; have HB := n1_; clear n0_ n1_; (try clear hb); (try clear hb2); (try clear hk); (try clear hi)) | (go_at_call 18; (with_reducible refine (priceofficelaw05_awake.calls k2  t380 _ ?side1 A26.out).mono ?_); (case side1 => first | exact HG.out | exact GT.below HG.out (by repeat (first | (with_reducible first | exact HB.out | apply below_alloc | apply pw_below_drewN | apply below_drew1) | exact HB.out))); rintro e w28 ⟨rfl, hb⟩; have n0_ := Aside0.mk (Kd.R_below (by (with_reducible repeat (first | apply Kd.R_alloc | apply Kd.R_drewN | apply Kd.R_drew)); exact HO_8.out) hb); have n1_ := Aside0.mk (below_step (by repeat (first | (with_reducible first | exact HB.out | apply below_alloc | apply pw_below_drewN | apply below_drew1) | exact HB.out)) hb); clear HO_8; clear HB; have HO_8 := n0_; have HB := n1_; clear n0_ n1_; (try clear hb); (try clear hb2); (try clear hk); (try clear hi)))
                  go_ret
                  exact ⟨by first | rfl | (simp [errW_none, errW_some] <;> rfl) | (simp [*, errW_none, errW_some] <;> rfl), by repeat (first | (with_reducible first | exact HB.out | apply below_alloc | apply pw_below_drewN | apply below_drew1) | exact HB.out)⟩
                · replace c25 := Bool.eq_false_iff.mpr c25
                  subst c25
                  have H1 : (some false) = some r := by rw [if_neg (show ¬ (false = true) by decide)] at H; exact H
                  clear H
                  have H := H1
                  clear H1
                  obtain rfl := Option.some.inj H
                  go_wp2_with (first | (go_at_call 21; (with_reducible refine (calendar_Business.calls t376 _ _ t371 false _ ?side1 ?side2 A24.out).mono ?_); (case side1 => repeat (first | exact (Kd.R_reads' HO_8.out).2.2 | (with_reducible refine Kd.C_alloc ?_ _) | (with_reducible refine Kd.C_drewN ?_ _) | (with_reducible refine Kd.C_drew ?_))); (case side2 => exact (Kd.R_reads' HO_8.out).2.1); rintro e w29 ⟨rfl, hb⟩; have n0_ := Aside0.mk (Kd.R_below (by (with_reducible repeat (first | apply Kd.R_alloc | apply Kd.R_drewN | apply Kd.R_drew)); exact HO_8.out) hb); have n1_ := Aside0.mk (below_step (by repeat (first | (with_reducible first | exact HB.out | apply below_alloc | apply pw_below_drewN | apply below_drew1) | exact HB.out)) hb); clear HO_8; clear HB; have HO_8 := n0_; have HB := n1_; clear n0_ n1_; (try clear hb); (try clear hb2); (try clear hk); (try clear hi)))
                  go_ret
                  exact ⟨by first | rfl | (simp [errW_none, errW_some] <;> rfl) | (simp [*, errW_none, errW_some] <;> rfl), by repeat (first | (with_reducible first | exact HB.out | apply below_alloc | apply pw_below_drewN | apply below_drew1) | exact HB.out)⟩
              · rw [if_neg c23] at H
                have c23b0 : (x12_2 == (wrap64 ((wrap64 (1 + t375)) - 1))) = false := beq_eq_false_iff_ne.mpr c23
                have c23b1 : (x12_2 != (wrap64 ((wrap64 (1 + t375)) - 1))) = true := bne_iff_ne.mpr c23
                obtain rfl := Option.some.inj H
                go_wp2
                go_ret
                exact ⟨by first | rfl | (simp [errW_none, errW_some] <;> rfl) | (simp [*, errW_none, errW_some] <;> rfl), by repeat (first | (with_reducible first | exact HB.out | apply below_alloc | apply pw_below_drewN | apply below_drew1) | exact HB.out)⟩

end Go.Proofs.YtpbkdbicdimfhaaDoor.P
