/- Lean functions with the same answers as the program's Go functions, and for each the proof that the call comes to these answers; written by a program of mine out of the translation, the functions marked 'by hand' by me. -/
import Derived.Test.YtpbkdbicdimfhaaDoorP0
import Derived.Test.YtpbkdbicdimfhaaDoorP6
import Derived.Test.YtpbkdbicdimfhaaDoorP7
import Derived.Test.YtpbkdbicdimfhaaDoorP9
import Derived.Test.YtpbkdbicdimfhaaDoorP13
import Derived.Test.YtpbkdbicdimfhaaDoorP16
namespace Go.Proofs.YtpbkdbicdimfhaaDoor.P
open Go.RowKit Go.Proofs.YtpbkdbicdimfhaaDoorW.PrintWords Go.Proofs.YtpbkdbicdimfhaaDoorW.PrintLast Go.Proofs.YtpbkdbicdimfhaaDoorW.PrintMore
attribute [local go_sem] max2_int min2_int max_two min_two max_three min_three max_four min_four   -- for this text's walks alone
set_option linter.unusedVariables false
set_option linter.unusedSimpArgs false

/-! ### priceofficelaw05_CalendarWeeks: function 10 -/
def priceofficelaw05_CalendarWeeks.j0 : Nat → Int → Int → Int → Int → Bool → Option (Bool)
  | 0, _, _, _, _, _ => none
  | k + 1, x1, x5, x6, x7, x34 => if x34 = true then (some false) else ((priceofficemake_Fold.f x1 (wrap64 ((wrap64 (x7 - x6)) + 1))).bind fun t353 => ((calendar_December.f x5).bind fun t354 => (if x5 < 12 then (if t354 = (-1) then ((calendar_PeriodOf.f k (wrap64 (x6 + t353))).bind fun t355 => (if t355 = x5 then ((priceofficelaw05_awake.f k).bind fun t356 => (some t356)) else (some false))) else (if x5 ≥ 12 then ((calendar_Month.f t354).bind fun t357 => (if t357 = 12 then (if (wrap64 (x5 - t354)) ≥ 1 then ((calendar_PeriodOf.f k (wrap64 (x6 + t353))).bind fun t358 => (if t358 = x5 then (if (wrap64 (x5 - t354)) ≤ 12 then ((priceofficelaw05_awake.f k).bind fun t359 => (some t359)) else (some false)) else (some false))) else ((calendar_PeriodOf.f k (wrap64 (x6 + t353))).bind fun t360 => (if t360 = x5 then (some false) else (some false)))) else ((calendar_PeriodOf.f k (wrap64 (x6 + t353))).bind fun t361 => (if t361 = x5 then (some false) else (some false))))) else ((calendar_PeriodOf.f k (wrap64 (x6 + t353))).bind fun t362 => (if t362 = x5 then (some false) else (some false))))) else (if x5 ≥ 12 then ((calendar_Month.f t354).bind fun t363 => (if t363 = 12 then (if (wrap64 (x5 - t354)) ≥ 1 then ((calendar_PeriodOf.f k (wrap64 (x6 + t353))).bind fun t364 => (if t364 = x5 then (if (wrap64 (x5 - t354)) ≤ 12 then ((priceofficelaw05_awake.f k).bind fun t365 => (some t365)) else (some false)) else (some false))) else ((calendar_PeriodOf.f k (wrap64 (x6 + t353))).bind fun t366 => (if t366 = x5 then (some false) else (some false)))) else ((calendar_PeriodOf.f k (wrap64 (x6 + t353))).bind fun t367 => (if t367 = x5 then (some false) else (some false))))) else ((calendar_PeriodOf.f k (wrap64 (x6 + t353))).bind fun t368 => (if t368 = x5 then (some false) else (some false)))))))
def priceofficelaw05_CalendarWeeks.f (k : Nat) (a0 : Int) (a1 : Int) : Option (Bool) := (priceofficemake_Fold.f a0 5999).bind fun t349 => ((calendar_FirstDay.f k t349).bind fun t350 => ((calendar_LastDay.f k t349).bind fun t351 => (if t351 < (wrap64 (t350 + 27)) then (priceofficelaw05_CalendarWeeks.j0 k a1 t349 t350 t351 true) else (if t351 > (wrap64 (t350 + 30)) then (priceofficelaw05_CalendarWeeks.j0 k a1 t349 t350 t351 true) else ((calendar_FirstDay.f k (wrap64 (t349 + 1))).bind fun t352 => (priceofficelaw05_CalendarWeeks.j0 k a1 t349 t350 t351 (t352 != (wrap64 (t351 + 1)))))))))
theorem priceofficelaw05_CalendarWeeks.mono_l : ∀ k, (∀ y0 y1 y2 y3 y4, LeO (priceofficelaw05_CalendarWeeks.j0 k y0 y1 y2 y3 y4) (priceofficelaw05_CalendarWeeks.j0 (k + 1) y0 y1 y2 y3 y4))
  | 0 => fun _ _ _ _ _ r h => by simp [priceofficelaw05_CalendarWeeks.j0] at h
  | k + 1 => by
    have ih0 := priceofficelaw05_CalendarWeeks.mono_l k
    · intro y0 y1 y2 y3 y4
      unfold priceofficelaw05_CalendarWeeks.j0
      repeat' first
      | (with_reducible exact ih0 _ _ _ _ _)
      | (with_reducible exact calendar_FirstDay.mono _ _)
      | (with_reducible exact calendar_LastDay.mono _ _)
      | (with_reducible exact calendar_PeriodOf.mono _ _)
      | (with_reducible exact priceofficelaw05_awake.mono _)
      | (with_reducible exact LeO.refl _)
      | (with_reducible exact LeO.none _)
      | (with_reducible refine LeO.ite ?_ ?_)
      | (with_reducible refine LeO.bind ?_ (fun _ => ?_))
      | exact ih0 _ _ _ _ _
      | exact calendar_FirstDay.mono _ _
      | exact calendar_LastDay.mono _ _
      | exact calendar_PeriodOf.mono _ _
      | exact priceofficelaw05_awake.mono _
      | exact LeO.none _
      | refine LeO.ite ?_ ?_
      | refine LeO.bind ?_ (fun _ => ?_)
theorem priceofficelaw05_CalendarWeeks.mono : ∀ a0 a1 k, LeO (priceofficelaw05_CalendarWeeks.f k a0 a1) (priceofficelaw05_CalendarWeeks.f (k + 1) a0 a1) := by
  intro a0 a1 k
  have ih0 := priceofficelaw05_CalendarWeeks.mono_l k
  unfold priceofficelaw05_CalendarWeeks.f
  repeat' first
      | (with_reducible exact ih0 _ _ _ _ _)
      | (with_reducible exact calendar_FirstDay.mono _ _)
      | (with_reducible exact calendar_LastDay.mono _ _)
      | (with_reducible exact calendar_PeriodOf.mono _ _)
      | (with_reducible exact priceofficelaw05_awake.mono _)
      | (with_reducible exact LeO.refl _)
      | (with_reducible exact LeO.none _)
      | (with_reducible refine LeO.ite ?_ ?_)
      | (with_reducible refine LeO.bind ?_ (fun _ => ?_))
      | exact ih0 _ _ _ _ _
      | exact calendar_FirstDay.mono _ _
      | exact calendar_LastDay.mono _ _
      | exact calendar_PeriodOf.mono _ _
      | exact priceofficelaw05_awake.mono _
      | exact LeO.none _
      | refine LeO.ite ?_ ?_
      | refine LeO.bind ?_ (fun _ => ?_)
set_option maxHeartbeats 8000000 in
set_option maxRecDepth 100000 in
theorem priceofficelaw05_CalendarWeeks.calls (k : Nat) (a0 : Int) (a1 : Int) (r : Bool) (w : World) (hG : GT w) (h : priceofficelaw05_CalendarWeeks.f k a0 a1 = some r) :
    Calls Tryd.prog 10 #[.int .i64 a0, .int .i64 a1] w fun e w' => e = .returned (.bool r) ∧ Below w.heap.size w w' := by
  have HG := Aside0.mk hG
  clear hG
  have HB := Aside0.mk (Below.refl w.heap.size w)
  have H : ((priceofficemake_Fold.f a0 5999).bind fun t349 => ((calendar_FirstDay.f k t349).bind fun t350 => ((calendar_LastDay.f k t349).bind fun t351 => (if t351 < (wrap64 (t350 + 27)) then (priceofficelaw05_CalendarWeeks.j0 k a1 t349 t350 t351 true) else (if t351 > (wrap64 (t350 + 30)) then (priceofficelaw05_CalendarWeeks.j0 k a1 t349 t350 t351 true) else ((calendar_FirstDay.f k (wrap64 (t349 + 1))).bind fun t352 => (priceofficelaw05_CalendarWeeks.j0 k a1 t349 t350 t351 (t352 != (wrap64 (t351 + 1)))))))))) = some r := h
  clear h
  replace H := Option.bind_eq_some_iff.mp H
  obtain ⟨t349, A30, H⟩ := H
  replace H : ((calendar_FirstDay.f k t349).bind fun t350 => ((calendar_LastDay.f k t349).bind fun t351 => (if t351 < (wrap64 (t350 + 27)) then (priceofficelaw05_CalendarWeeks.j0 k a1 t349 t350 t351 true) else (if t351 > (wrap64 (t350 + 30)) then (priceofficelaw05_CalendarWeeks.j0 k a1 t349 t350 t351 true) else ((calendar_FirstDay.f k (wrap64 (t349 + 1))).bind fun t352 => (priceofficelaw05_CalendarWeeks.j0 k a1 t349 t350 t351 (t352 != (wrap64 (t351 + 1))))))))) = some r := H
  have A3 := Aside0.mk A30
  clear A30
  replace H := Option.bind_eq_some_iff.mp H
  obtain ⟨t350, A40, H⟩ := H
  replace H : ((calendar_LastDay.f k t349).bind fun t351 => (if t351 < (wrap64 (t350 + 27)) then (priceofficelaw05_CalendarWeeks.j0 k a1 t349 t350 t351 true) else (if t351 > (wrap64 (t350 + 30)) then (priceofficelaw05_CalendarWeeks.j0 k a1 t349 t350 t351 true) else ((calendar_FirstDay.f k (wrap64 (t349 + 1))).bind fun t352 => (priceofficelaw05_CalendarWeeks.j0 k a1 t349 t350 t351 (t352 != (wrap64 (t351 + 1)))))))) = some r := H
  have A4 := Aside0.mk A40
  clear A40
  replace H := Option.bind_eq_some_iff.mp H
  obtain ⟨t351, A50, H⟩ := H
  replace H : (if t351 < (wrap64 (t350 + 27)) then (priceofficelaw05_CalendarWeeks.j0 k a1 t349 t350 t351 true) else (if t351 > (wrap64 (t350 + 30)) then (priceofficelaw05_CalendarWeeks.j0 k a1 t349 t350 t351 true) else ((calendar_FirstDay.f k (wrap64 (t349 + 1))).bind fun t352 => (priceofficelaw05_CalendarWeeks.j0 k a1 t349 t350 t351 (t352 != (wrap64 (t351 + 1))))))) = some r := H
  have A5 := Aside0.mk A50
  clear A50
  have HC6 := Aside0.mk H
  clear H
  go_enter Tryd.func10, Tryd.ntmps10
  go_upto_region 3 with (first | ((with_reducible refine gate_callee (f := 19) rfl ?_); refine goesL_ (some 12) rfl rfl Tryd.func19 (by kernel_rfl) rfl #[.int .i64 a0, .int .i64 5999] rfl (by (try simp only [List.map_toArray, List.map_cons, List.map_nil]); first | done | rfl | (simp only [List.length_drop, List.length_take]; rfl)) ?_; (with_reducible refine (priceofficemake_Fold.calls a0 5999 t349 _ A3.out).mono ?_); rintro e w7 ⟨rfl, hb⟩; refine ⟨_, rfl, ?_⟩; have n0_ := Aside0.mk (below_step (by repeat (first | (with_reducible first | exact HB.out | apply below_alloc | apply pw_below_drewN | apply below_drew1) | exact HB.out)) hb); clear HB; have HB := n0_; clear n0_; (try clear hb); (try clear hb2); (try clear hk); (try clear hi)) | ((with_reducible refine gate_callee (f := 25) rfl ?_); refine goesL_ (some 14) rfl rfl Tryd.func25 (by kernel_rfl) rfl #[.int .i64 t349] rfl (by (try simp only [List.map_toArray, List.map_cons, List.map_nil]); first | done | rfl | (simp only [List.length_drop, List.length_take]; rfl)) ?_; (with_reducible refine (calendar_FirstDay.calls k t349 t350 _ A4.out).mono ?_); rintro e w8 ⟨rfl, hb⟩; refine ⟨_, rfl, ?_⟩; have n0_ := Aside0.mk (below_step (by repeat (first | (with_reducible first | exact HB.out | apply below_alloc | apply pw_below_drewN | apply below_drew1) | exact HB.out)) hb); clear HB; have HB := n0_; clear n0_; (try clear hb); (try clear hb2); (try clear hk); (try clear hi)) | ((with_reducible refine gate_callee (f := 27) rfl ?_); refine goesL_ (some 16) rfl rfl Tryd.func27 (by kernel_rfl) rfl #[.int .i64 t349] rfl (by (try simp only [List.map_toArray, List.map_cons, List.map_nil]); first | done | rfl | (simp only [List.length_drop, List.length_take]; rfl)) ?_; (with_reducible refine (calendar_LastDay.calls k t349 t351 _ A5.out).mono ?_); rintro e w9 ⟨rfl, hb⟩; refine ⟨_, rfl, ?_⟩; have n0_ := Aside0.mk (below_step (by repeat (first | (with_reducible first | exact HB.out | apply below_alloc | apply pw_below_drewN | apply below_drew1) | exact HB.out)) hb); clear HB; have HB := n0_; clear n0_; (try clear hb); (try clear hb2); (try clear hk); (try clear hi)))
  (try simp only [Act.put, List.setIfInBounds_toArray, List.set_cons_zero, List.set_cons_succ])
  go_cut [34] (fun v34 wc => ∃ (kq : Nat) (x34_5 : Bool), v34 = .bool x34_5 ∧ Aside0 (priceofficelaw05_CalendarWeeks.j0 kq a1 t349 t350 t351 x34_5 = some r) ∧ Aside0 (kq ≤ k) ∧ Aside0 (Below w.heap.size w wc))
  case first =>
    have H := HC6.out
    clear HC6
    by_cases c10 : t351 < (wrap64 (t350 + 27))
    · rw [if_pos c10] at H
      have c10b0 : decide (t351 < (wrap64 (t350 + 27))) = true := decide_eq_true c10
      clear c10
      (first | rw [c10b0] | (simp only [i64_w, i32_w]; rw [c10b0]) | skip)
      have H' := Aside0.mk H
      clear H
      go_wp2
      go_meet
      case rel => exact ⟨_, (true), (by first | rfl | (simp; done) | (simp [*]; done)), H', ⟨by first | omega | exact Nat.le_refl _⟩, ⟨by repeat (first | (with_reducible first | exact HB.out | apply below_alloc | apply pw_below_drewN | apply below_drew1) | exact HB.out)⟩⟩
    · rw [if_neg c10] at H
      have c10b0 : decide (t351 < (wrap64 (t350 + 27))) = false := decide_eq_false c10
      clear c10
      (first | rw [c10b0] | (simp only [i64_w, i32_w]; rw [c10b0]) | skip)
      by_cases c11 : t351 > (wrap64 (t350 + 30))
      · rw [if_pos c11] at H
        have c11b0 : decide ((wrap64 (t350 + 30)) < t351) = true := decide_eq_true c11
        clear c11
        have H' := Aside0.mk H
        clear H
        go_wp2
        go_meet
        case rel => exact ⟨_, (true), (by first | rfl | (simp; done) | (simp [*]; done)), H', ⟨by first | omega | exact Nat.le_refl _⟩, ⟨by repeat (first | (with_reducible first | exact HB.out | apply below_alloc | apply pw_below_drewN | apply below_drew1) | exact HB.out)⟩⟩
      · rw [if_neg c11] at H
        have c11b0 : decide ((wrap64 (t350 + 30)) < t351) = false := decide_eq_false c11
        clear c11
        replace H := Option.bind_eq_some_iff.mp H
        obtain ⟨t352, A120, H⟩ := H
        replace H : (priceofficelaw05_CalendarWeeks.j0 k a1 t349 t350 t351 (t352 != (wrap64 (t351 + 1)))) = some r := H
        have A12 := Aside0.mk A120
        clear A120
        have H' := Aside0.mk H
        clear H
        go_wp2_with (first | (go_at_call 25; (with_reducible refine (calendar_FirstDay.calls k (wrap64 (t349 + 1)) t352 _ A12.out).mono ?_); rintro e w13 ⟨rfl, hb⟩; have n0_ := Aside0.mk (below_step (by repeat (first | (with_reducible first | exact HB.out | apply below_alloc | apply pw_below_drewN | apply below_drew1) | exact HB.out)) hb); clear HB; have HB := n0_; clear n0_; (try clear hb); (try clear hb2); (try clear hk); (try clear hi)))
        go_meet
        case rel => exact ⟨_, ((t352 != (wrap64 (t351 + 1)))), (by first | rfl | (simp; done) | (simp [*]; done)), H', ⟨by first | omega | exact Nat.le_refl _⟩, ⟨by repeat (first | (with_reducible first | exact HB.out | apply below_alloc | apply pw_below_drewN | apply below_drew1) | exact HB.out)⟩⟩
  case rest =>
    clear HC6
    try clear c1
    try clear c2
    try clear p2
    try clear p6
    try clear c10
    try clear c10b0
    try clear c11
    try clear c11b0
    obtain ⟨kq, x34_5, rfl, HA, HJ5, HB⟩ := hcut
    cases kq with
    | zero => exact absurd HA.out (by simp [priceofficelaw05_CalendarWeeks.j0])
    | succ kj5 =>
      have H := HA.out
      clear HA
      simp only [priceofficelaw05_CalendarWeeks.j0] at H
      by_cases c14 : x34_5 = true
      · subst c14
        have H1 : (some false) = some r := by rw [if_pos rfl] at H; exact H
        clear H
        have H := H1
        clear H1
        obtain rfl := Option.some.inj H
        go_wp2
        go_ret
        exact ⟨by first | rfl | (simp [errW_none, errW_some] <;> rfl) | (simp [*, errW_none, errW_some] <;> rfl), by repeat (first | (with_reducible first | exact HB.out | apply below_alloc | apply pw_below_drewN | apply below_drew1) | exact HB.out)⟩
      · replace c14 := Bool.eq_false_iff.mpr c14
        subst c14
        have H1 : ((priceofficemake_Fold.f a1 (wrap64 ((wrap64 (t351 - t350)) + 1))).bind fun t353 => ((calendar_December.f t349).bind fun t354 => (if t349 < 12 then (if t354 = (-1) then ((calendar_PeriodOf.f kj5 (wrap64 (t350 + t353))).bind fun t355 => (if t355 = t349 then ((priceofficelaw05_awake.f kj5).bind fun t356 => (some t356)) else (some false))) else (if t349 ≥ 12 then ((calendar_Month.f t354).bind fun t357 => (if t357 = 12 then (if (wrap64 (t349 - t354)) ≥ 1 then ((calendar_PeriodOf.f kj5 (wrap64 (t350 + t353))).bind fun t358 => (if t358 = t349 then (if (wrap64 (t349 - t354)) ≤ 12 then ((priceofficelaw05_awake.f kj5).bind fun t359 => (some t359)) else (some false)) else (some false))) else ((calendar_PeriodOf.f kj5 (wrap64 (t350 + t353))).bind fun t360 => (if t360 = t349 then (some false) else (some false)))) else ((calendar_PeriodOf.f kj5 (wrap64 (t350 + t353))).bind fun t361 => (if t361 = t349 then (some false) else (some false))))) else ((calendar_PeriodOf.f kj5 (wrap64 (t350 + t353))).bind fun t362 => (if t362 = t349 then (some false) else (some false))))) else (if t349 ≥ 12 then ((calendar_Month.f t354).bind fun t363 => (if t363 = 12 then (if (wrap64 (t349 - t354)) ≥ 1 then ((calendar_PeriodOf.f kj5 (wrap64 (t350 + t353))).bind fun t364 => (if t364 = t349 then (if (wrap64 (t349 - t354)) ≤ 12 then ((priceofficelaw05_awake.f kj5).bind fun t365 => (some t365)) else (some false)) else (some false))) else ((calendar_PeriodOf.f kj5 (wrap64 (t350 + t353))).bind fun t366 => (if t366 = t349 then (some false) else (some false)))) else ((calendar_PeriodOf.f kj5 (wrap64 (t350 + t353))).bind fun t367 => (if t367 = t349 then (some false) else (some false))))) else ((calendar_PeriodOf.f kj5 (wrap64 (t350 + t353))).bind fun t368 => (if t368 = t349 then (some false) else (some false))))))) = some r := by rw [if_neg (show ¬ (false = true) by decide)] at H; exact H
        clear H
        have H := H1
        clear H1
        replace H := Option.bind_eq_some_iff.mp H
        obtain ⟨t353, A150, H⟩ := H
        replace H : ((calendar_December.f t349).bind fun t354 => (if t349 < 12 then (if t354 = (-1) then ((calendar_PeriodOf.f kj5 (wrap64 (t350 + t353))).bind fun t355 => (if t355 = t349 then ((priceofficelaw05_awake.f kj5).bind fun t356 => (some t356)) else (some false))) else (if t349 ≥ 12 then ((calendar_Month.f t354).bind fun t357 => (if t357 = 12 then (if (wrap64 (t349 - t354)) ≥ 1 then ((calendar_PeriodOf.f kj5 (wrap64 (t350 + t353))).bind fun t358 => (if t358 = t349 then (if (wrap64 (t349 - t354)) ≤ 12 then ((priceofficelaw05_awake.f kj5).bind fun t359 => (some t359)) else (some false)) else (some false))) else ((calendar_PeriodOf.f kj5 (wrap64 (t350 + t353))).bind fun t360 => (if t360 = t349 then (some false) else (some false)))) else ((calendar_PeriodOf.f kj5 (wrap64 (t350 + t353))).bind fun t361 => (if t361 = t349 then (some false) else (some false))))) else ((calendar_PeriodOf.f kj5 (wrap64 (t350 + t353))).bind fun t362 => (if t362 = t349 then (some false) else (some false))))) else (if t349 ≥ 12 then ((calendar_Month.f t354).bind fun t363 => (if t363 = 12 then (if (wrap64 (t349 - t354)) ≥ 1 then ((calendar_PeriodOf.f kj5 (wrap64 (t350 + t353))).bind fun t364 => (if t364 = t349 then (if (wrap64 (t349 - t354)) ≤ 12 then ((priceofficelaw05_awake.f kj5).bind fun t365 => (some t365)) else (some false)) else (some false))) else ((calendar_PeriodOf.f kj5 (wrap64 (t350 + t353))).bind fun t366 => (if t366 = t349 then (some false) else (some false)))) else ((calendar_PeriodOf.f kj5 (wrap64 (t350 + t353))).bind fun t367 => (if t367 = t349 then (some false) else (some false))))) else ((calendar_PeriodOf.f kj5 (wrap64 (t350 + t353))).bind fun t368 => (if t368 = t349 then (some false) else (some false)))))) = some r := H
        have A15 := Aside0.mk A150
        clear A150
        replace H := Option.bind_eq_some_iff.mp H
        obtain ⟨t354, A160, H⟩ := H
        replace H : (if t349 < 12 then (if t354 = (-1) then ((calendar_PeriodOf.f kj5 (wrap64 (t350 + t353))).bind fun t355 => (if t355 = t349 then ((priceofficelaw05_awake.f kj5).bind fun t356 => (some t356)) else (some false))) else (if t349 ≥ 12 then ((calendar_Month.f t354).bind fun t357 => (if t357 = 12 then (if (wrap64 (t349 - t354)) ≥ 1 then ((calendar_PeriodOf.f kj5 (wrap64 (t350 + t353))).bind fun t358 => (if t358 = t349 then (if (wrap64 (t349 - t354)) ≤ 12 then ((priceofficelaw05_awake.f kj5).bind fun t359 => (some t359)) else (some false)) else (some false))) else ((calendar_PeriodOf.f kj5 (wrap64 (t350 + t353))).bind fun t360 => (if t360 = t349 then (some false) else (some false)))) else ((calendar_PeriodOf.f kj5 (wrap64 (t350 + t353))).bind fun t361 => (if t361 = t349 then (some false) else (some false))))) else ((calendar_PeriodOf.f kj5 (wrap64 (t350 + t353))).bind fun t362 => (if t362 = t349 then (some false) else (some false))))) else (if t349 ≥ 12 then ((calendar_Month.f t354).bind fun t363 => (if t363 = 12 then (if (wrap64 (t349 - t354)) ≥ 1 then ((calendar_PeriodOf.f kj5 (wrap64 (t350 + t353))).bind fun t364 => (if t364 = t349 then (if (wrap64 (t349 - t354)) ≤ 12 then ((priceofficelaw05_awake.f kj5).bind fun t365 => (some t365)) else (some false)) else (some false))) else ((calendar_PeriodOf.f kj5 (wrap64 (t350 + t353))).bind fun t366 => (if t366 = t349 then (some false) else (some false)))) else ((calendar_PeriodOf.f kj5 (wrap64 (t350 + t353))).bind fun t367 => (if t367 = t349 then (some false) else (some false))))) else ((calendar_PeriodOf.f kj5 (wrap64 (t350 + t353))).bind fun t368 => (if t368 = t349 then (some false) else (some false))))) = some r := H
        have A16 := Aside0.mk A160
        clear A160
        by_cases c17 : t349 < 12
        · rw [if_pos c17] at H
          have c17b0 : decide (t349 < 12) = true := decide_eq_true c17
          clear c17
          by_cases c18 : t354 = (-1)
          · rw [if_pos c18] at H
            have c18b0 : (t354 == (-1)) = true := beq_iff_eq.mpr c18
            have c18b1 : (t354 != (-1)) = false := bne_eq_false_iff_eq.mpr c18
            clear c18
            replace H := Option.bind_eq_some_iff.mp H
            obtain ⟨t355, A190, H⟩ := H
            replace H : (if t355 = t349 then ((priceofficelaw05_awake.f kj5).bind fun t356 => (some t356)) else (some false)) = some r := H
            have A19 := Aside0.mk A190
            clear A190
            by_cases c20 : t355 = t349
            · rw [if_pos c20] at H
              have c20b0 : (t355 == t349) = true := beq_iff_eq.mpr c20
              have c20b1 : (t355 != t349) = false := bne_eq_false_iff_eq.mpr c20
              clear c20
              replace H := Option.bind_eq_some_iff.mp H
              obtain ⟨t356, A210, H⟩ := H
              replace H : (some t356) = some r := H
              have A21 := Aside0.mk A210
              clear A210
              obtain rfl := Option.some.inj H
              go_wp2_with (first | ((with_reducible refine gate_callee (f := 19) rfl ?_); refine goesL_ (some 41) rfl rfl Tryd.func19 (by kernel_rfl) rfl #[.int .i64 a1, .int .i64 (wrap64 ((wrap64 (t351 - t350)) + 1))] rfl (by (try simp only [List.map_toArray, List.map_cons, List.map_nil]); first | done | rfl | (simp only [List.length_drop, List.length_take]; rfl)) ?_; (with_reducible refine (priceofficemake_Fold.calls a1 (wrap64 ((wrap64 (t351 - t350)) + 1)) t353 _ A15.out).mono ?_); rintro e w22 ⟨rfl, hb⟩; refine ⟨_, rfl, ?_⟩; have n0_ := Aside0.mk (below_step (by repeat (first | (with_reducible first | exact HB.out | apply below_alloc | apply pw_below_drewN | apply below_drew1) | exact HB.out)) hb); clear HB; have HB := n0_; clear n0_; (try clear hb); (try clear hb2); (try clear hk); (try clear hi)) | ((with_reducible refine gate_callee (f := 29) rfl ?_); refine goesL_ (some 44) rfl rfl Tryd.func29 (by kernel_rfl) rfl #[.int .i64 t349] rfl (by (try simp only [List.map_toArray, List.map_cons, List.map_nil]); first | done | rfl | (simp only [List.length_drop, List.length_take]; rfl)) ?_; (with_reducible refine (calendar_December.calls t349 t354 _ A16.out).mono ?_); rintro e w23 ⟨rfl, hb⟩; refine ⟨_, rfl, ?_⟩; have n0_ := Aside0.mk (below_step (by repeat (first | (with_reducible first | exact HB.out | apply below_alloc | apply pw_below_drewN | apply below_drew1) | exact HB.out)) hb); clear HB; have HB := n0_; clear n0_; (try clear hb); (try clear hb2); (try clear hk); (try clear hi)) | ((with_reducible refine gate_callee (f := 35) rfl ?_); refine goesL_ (some 73) rfl rfl Tryd.func35 (by kernel_rfl) rfl #[.int .i64 (wrap64 (t350 + t353))] rfl (by (try simp only [List.map_toArray, List.map_cons, List.map_nil]); first | done | rfl | (simp only [List.length_drop, List.length_take]; rfl)) ?_; (with_reducible refine (calendar_PeriodOf.calls kj5 (wrap64 (t350 + t353)) t355 _ A19.out).mono ?_); rintro e w24 ⟨rfl, hb⟩; refine ⟨_, rfl, ?_⟩; have n0_ := Aside0.mk (below_step (by repeat (first | (with_reducible first | exact HB.out | apply below_alloc | apply pw_below_drewN | apply below_drew1) | exact HB.out)) hb); clear HB; have HB := n0_; clear n0_; (try clear hb); (try clear hb2); (try clear hk); (try clear hi)) | (go_at_call 18; (with_reducible refine (priceofficelaw05_awake.calls kj5  t356 _ ?side1 A21.out).mono ?_); (case side1 => first | exact HG.out | exact GT.below HG.out (by repeat (first | (with_reducible first | exact HB.out | apply below_alloc | apply pw_below_drewN | apply below_drew1) | exact HB.out))); rintro e w25 ⟨rfl, hb⟩; have n0_ := Aside0.mk (below_step (by repeat (first | (with_reducible first | exact HB.out | apply below_alloc | apply pw_below_drewN | apply below_drew1) | exact HB.out)) hb); clear HB; have HB := n0_; clear n0_; (try clear hb); (try clear hb2); (try clear hk); (try clear hi)))
              go_ret
              exact ⟨by first | rfl | (simp [errW_none, errW_some] <;> rfl) | (simp [*, errW_none, errW_some] <;> rfl), by repeat (first | (with_reducible first | exact HB.out | apply below_alloc | apply pw_below_drewN | apply below_drew1) | exact HB.out)⟩
            · rw [if_neg c20] at H
              have c20b0 : (t355 == t349) = false := beq_eq_false_iff_ne.mpr c20
              have c20b1 : (t355 != t349) = true := bne_iff_ne.mpr c20
              obtain rfl := Option.some.inj H
              go_wp2_with (first | ((with_reducible refine gate_callee (f := 19) rfl ?_); refine goesL_ (some 41) rfl rfl Tryd.func19 (by kernel_rfl) rfl #[.int .i64 a1, .int .i64 (wrap64 ((wrap64 (t351 - t350)) + 1))] rfl (by (try simp only [List.map_toArray, List.map_cons, List.map_nil]); first | done | rfl | (simp only [List.length_drop, List.length_take]; rfl)) ?_; (with_reducible refine (priceofficemake_Fold.calls a1 (wrap64 ((wrap64 (t351 - t350)) + 1)) t353 _ A15.out).mono ?_); rintro e w26 ⟨rfl, hb⟩; refine ⟨_, rfl, ?_⟩; have n0_ := Aside0.mk (below_step (by repeat (first | (with_reducible first | exact HB.out | apply below_alloc | apply pw_below_drewN | apply below_drew1) | exact HB.out)) hb); clear HB; have HB := n0_; clear n0_; (try clear hb); (try clear hb2); (try clear hk); (try clear hi)) | ((with_reducible refine gate_callee (f := 29) rfl ?_); refine goesL_ (some 44) rfl rfl Tryd.func29 (by kernel_rfl) rfl #[.int .i64 t349] rfl (by (try simp only [List.map_toArray, List.map_cons, List.map_nil]); first | done | rfl | (simp only [List.length_drop, List.length_take]; rfl)) ?_; (with_reducible refine (calendar_December.calls t349 t354 _ A16.out).mono ?_); rintro e w27 ⟨rfl, hb⟩; refine ⟨_, rfl, ?_⟩; have n0_ := Aside0.mk (below_step (by repeat (first | (with_reducible first | exact HB.out | apply below_alloc | apply pw_below_drewN | apply below_drew1) | exact HB.out)) hb); clear HB; have HB := n0_; clear n0_; (try clear hb); (try clear hb2); (try clear hk); (try clear hi)) | ((with_reducible refine gate_callee (f := 35) rfl ?_); refine goesL_ (some 73) rfl rfl Tryd.func35 (by kernel_rfl) rfl #[.int .i64 (wrap64 (t350 + t353))] rfl (by (try simp only [List.map_toArray, List.map_cons, List.map_nil]); first | done | rfl | (simp only [List.length_drop, List.length_take]; rfl)) ?_; (with_reducible refine (calendar_PeriodOf.calls kj5 (wrap64 (t350 + t353)) t355 _ A19.out).mono ?_); rintro e w28 ⟨rfl, hb⟩; refine ⟨_, rfl, ?_⟩; have n0_ := Aside0.mk (below_step (by repeat (first | (with_reducible first | exact HB.out | apply below_alloc | apply pw_below_drewN | apply below_drew1) | exact HB.out)) hb); clear HB; have HB := n0_; clear n0_; (try clear hb); (try clear hb2); (try clear hk); (try clear hi)))
              go_ret
              exact ⟨by first | rfl | (simp [errW_none, errW_some] <;> rfl) | (simp [*, errW_none, errW_some] <;> rfl), by repeat (first | (with_reducible first | exact HB.out | apply below_alloc | apply pw_below_drewN | apply below_drew1) | exact HB.out)⟩
          · rw [if_neg c18] at H
            have c18b0 : (t354 == (-1)) = false := beq_eq_false_iff_ne.mpr c18
            have c18b1 : (t354 != (-1)) = true := bne_iff_ne.mpr c18
            by_cases c29 : t349 ≥ 12
            · rw [if_pos c29] at H
              have c29b0 : decide (12 ≤ t349) = true := decide_eq_true c29
              clear c29
              replace H := Option.bind_eq_some_iff.mp H
              obtain ⟨t357, A300, H⟩ := H
              replace H : (if t357 = 12 then (if (wrap64 (t349 - t354)) ≥ 1 then ((calendar_PeriodOf.f kj5 (wrap64 (t350 + t353))).bind fun t358 => (if t358 = t349 then (if (wrap64 (t349 - t354)) ≤ 12 then ((priceofficelaw05_awake.f kj5).bind fun t359 => (some t359)) else (some false)) else (some false))) else ((calendar_PeriodOf.f kj5 (wrap64 (t350 + t353))).bind fun t360 => (if t360 = t349 then (some false) else (some false)))) else ((calendar_PeriodOf.f kj5 (wrap64 (t350 + t353))).bind fun t361 => (if t361 = t349 then (some false) else (some false)))) = some r := H
              have A30 := Aside0.mk A300
              clear A300
              by_cases c31 : t357 = 12
              · rw [if_pos c31] at H
                have c31b0 : (t357 == 12) = true := beq_iff_eq.mpr c31
                have c31b1 : (t357 != 12) = false := bne_eq_false_iff_eq.mpr c31
                clear c31
                by_cases c32 : (wrap64 (t349 - t354)) ≥ 1
                · rw [if_pos c32] at H
                  have c32b0 : decide (1 ≤ (wrap64 (t349 - t354))) = true := decide_eq_true c32
                  clear c32
                  replace H := Option.bind_eq_some_iff.mp H
                  obtain ⟨t358, A330, H⟩ := H
                  replace H : (if t358 = t349 then (if (wrap64 (t349 - t354)) ≤ 12 then ((priceofficelaw05_awake.f kj5).bind fun t359 => (some t359)) else (some false)) else (some false)) = some r := H
                  have A33 := Aside0.mk A330
                  clear A330
                  by_cases c34 : t358 = t349
                  · rw [if_pos c34] at H
                    have c34b0 : (t358 == t349) = true := beq_iff_eq.mpr c34
                    have c34b1 : (t358 != t349) = false := bne_eq_false_iff_eq.mpr c34
                    clear c34
                    by_cases c35 : (wrap64 (t349 - t354)) ≤ 12
                    · rw [if_pos c35] at H
                      have c35b0 : decide ((wrap64 (t349 - t354)) ≤ 12) = true := decide_eq_true c35
                      clear c35
                      replace H := Option.bind_eq_some_iff.mp H
                      obtain ⟨t359, A360, H⟩ := H
                      replace H : (some t359) = some r := H
                      have A36 := Aside0.mk A360
                      clear A360
                      obtain rfl := Option.some.inj H
                      go_wp2_with (first | ((with_reducible refine gate_callee (f := 19) rfl ?_); refine goesL_ (some 41) rfl rfl Tryd.func19 (by kernel_rfl) rfl #[.int .i64 a1, .int .i64 (wrap64 ((wrap64 (t351 - t350)) + 1))] rfl (by (try simp only [List.map_toArray, List.map_cons, List.map_nil]); first | done | rfl | (simp only [List.length_drop, List.length_take]; rfl)) ?_; (with_reducible refine (priceofficemake_Fold.calls a1 (wrap64 ((wrap64 (t351 - t350)) + 1)) t353 _ A15.out).mono ?_); rintro e w37 ⟨rfl, hb⟩; refine ⟨_, rfl, ?_⟩; have n0_ := Aside0.mk (below_step (by repeat (first | (with_reducible first | exact HB.out | apply below_alloc | apply pw_below_drewN | apply below_drew1) | exact HB.out)) hb); clear HB; have HB := n0_; clear n0_; (try clear hb); (try clear hb2); (try clear hk); (try clear hi)) | ((with_reducible refine gate_callee (f := 29) rfl ?_); refine goesL_ (some 44) rfl rfl Tryd.func29 (by kernel_rfl) rfl #[.int .i64 t349] rfl (by (try simp only [List.map_toArray, List.map_cons, List.map_nil]); first | done | rfl | (simp only [List.length_drop, List.length_take]; rfl)) ?_; (with_reducible refine (calendar_December.calls t349 t354 _ A16.out).mono ?_); rintro e w38 ⟨rfl, hb⟩; refine ⟨_, rfl, ?_⟩; have n0_ := Aside0.mk (below_step (by repeat (first | (with_reducible first | exact HB.out | apply below_alloc | apply pw_below_drewN | apply below_drew1) | exact HB.out)) hb); clear HB; have HB := n0_; clear n0_; (try clear hb); (try clear hb2); (try clear hk); (try clear hi)) | (go_at_call 23; (with_reducible refine (calendar_Month.calls t354 t357 _ A30.out).mono ?_); rintro e w' ⟨rfl, ⟨nd, rfl⟩⟩) | ((with_reducible refine gate_callee (f := 35) rfl ?_); refine goesL_ (some 73) rfl rfl Tryd.func35 (by kernel_rfl) rfl #[.int .i64 (wrap64 (t350 + t353))] rfl (by (try simp only [List.map_toArray, List.map_cons, List.map_nil]); first | done | rfl | (simp only [List.length_drop, List.length_take]; rfl)) ?_; (with_reducible refine (calendar_PeriodOf.calls kj5 (wrap64 (t350 + t353)) t358 _ A33.out).mono ?_); rintro e w39 ⟨rfl, hb⟩; refine ⟨_, rfl, ?_⟩; have n0_ := Aside0.mk (below_step (by repeat (first | (with_reducible first | exact HB.out | apply below_alloc | apply pw_below_drewN | apply below_drew1) | exact HB.out)) hb); clear HB; have HB := n0_; clear n0_; (try clear hb); (try clear hb2); (try clear hk); (try clear hi)) | (go_at_call 18; (with_reducible refine (priceofficelaw05_awake.calls kj5  t359 _ ?side1 A36.out).mono ?_); (case side1 => first | exact HG.out | exact GT.below HG.out (by repeat (first | (with_reducible first | exact HB.out | apply below_alloc | apply pw_below_drewN | apply below_drew1) | exact HB.out))); rintro e w40 ⟨rfl, hb⟩; have n0_ := Aside0.mk (below_step (by repeat (first | (with_reducible first | exact HB.out | apply below_alloc | apply pw_below_drewN | apply below_drew1) | exact HB.out)) hb); clear HB; have HB := n0_; clear n0_; (try clear hb); (try clear hb2); (try clear hk); (try clear hi)))
                      go_ret
                      exact ⟨by first | rfl | (simp [errW_none, errW_some] <;> rfl) | (simp [*, errW_none, errW_some] <;> rfl), by repeat (first | (with_reducible first | exact HB.out | apply below_alloc | apply pw_below_drewN | apply below_drew1) | exact HB.out)⟩
                    · rw [if_neg c35] at H
                      have c35b0 : decide ((wrap64 (t349 - t354)) ≤ 12) = false := decide_eq_false c35
                      clear c35
                      obtain rfl := Option.some.inj H
                      go_wp2_with (first | ((with_reducible refine gate_callee (f := 19) rfl ?_); refine goesL_ (some 41) rfl rfl Tryd.func19 (by kernel_rfl) rfl #[.int .i64 a1, .int .i64 (wrap64 ((wrap64 (t351 - t350)) + 1))] rfl (by (try simp only [List.map_toArray, List.map_cons, List.map_nil]); first | done | rfl | (simp only [List.length_drop, List.length_take]; rfl)) ?_; (with_reducible refine (priceofficemake_Fold.calls a1 (wrap64 ((wrap64 (t351 - t350)) + 1)) t353 _ A15.out).mono ?_); rintro e w41 ⟨rfl, hb⟩; refine ⟨_, rfl, ?_⟩; have n0_ := Aside0.mk (below_step (by repeat (first | (with_reducible first | exact HB.out | apply below_alloc | apply pw_below_drewN | apply below_drew1) | exact HB.out)) hb); clear HB; have HB := n0_; clear n0_; (try clear hb); (try clear hb2); (try clear hk); (try clear hi)) | ((with_reducible refine gate_callee (f := 29) rfl ?_); refine goesL_ (some 44) rfl rfl Tryd.func29 (by kernel_rfl) rfl #[.int .i64 t349] rfl (by (try simp only [List.map_toArray, List.map_cons, List.map_nil]); first | done | rfl | (simp only [List.length_drop, List.length_take]; rfl)) ?_; (with_reducible refine (calendar_December.calls t349 t354 _ A16.out).mono ?_); rintro e w42 ⟨rfl, hb⟩; refine ⟨_, rfl, ?_⟩; have n0_ := Aside0.mk (below_step (by repeat (first | (with_reducible first | exact HB.out | apply below_alloc | apply pw_below_drewN | apply below_drew1) | exact HB.out)) hb); clear HB; have HB := n0_; clear n0_; (try clear hb); (try clear hb2); (try clear hk); (try clear hi)) | (go_at_call 23; (with_reducible refine (calendar_Month.calls t354 t357 _ A30.out).mono ?_); rintro e w' ⟨rfl, ⟨nd, rfl⟩⟩) | ((with_reducible refine gate_callee (f := 35) rfl ?_); refine goesL_ (some 73) rfl rfl Tryd.func35 (by kernel_rfl) rfl #[.int .i64 (wrap64 (t350 + t353))] rfl (by (try simp only [List.map_toArray, List.map_cons, List.map_nil]); first | done | rfl | (simp only [List.length_drop, List.length_take]; rfl)) ?_; (with_reducible refine (calendar_PeriodOf.calls kj5 (wrap64 (t350 + t353)) t358 _ A33.out).mono ?_); rintro e w43 ⟨rfl, hb⟩; refine ⟨_, rfl, ?_⟩; have n0_ := Aside0.mk (below_step (by repeat (first | (with_reducible first | exact HB.out | apply below_alloc | apply pw_below_drewN | apply below_drew1) | exact HB.out)) hb); clear HB; have HB := n0_; clear n0_; (try clear hb); (try clear hb2); (try clear hk); (try clear hi)))
                      go_ret
                      exact ⟨by first | rfl | (simp [errW_none, errW_some] <;> rfl) | (simp [*, errW_none, errW_some] <;> rfl), by repeat (first | (with_reducible first | exact HB.out | apply below_alloc | apply pw_below_drewN | apply below_drew1) | exact HB.out)⟩
                  · rw [if_neg c34] at H
                    have c34b0 : (t358 == t349) = false := beq_eq_false_iff_ne.mpr c34
                    have c34b1 : (t358 != t349) = true := bne_iff_ne.mpr c34
                    obtain rfl := Option.some.inj H
                    go_wp2_with (first | ((with_reducible refine gate_callee (f := 19) rfl ?_); refine goesL_ (some 41) rfl rfl Tryd.func19 (by kernel_rfl) rfl #[.int .i64 a1, .int .i64 (wrap64 ((wrap64 (t351 - t350)) + 1))] rfl (by (try simp only [List.map_toArray, List.map_cons, List.map_nil]); first | done | rfl | (simp only [List.length_drop, List.length_take]; rfl)) ?_; (with_reducible refine (priceofficemake_Fold.calls a1 (wrap64 ((wrap64 (t351 - t350)) + 1)) t353 _ A15.out).mono ?_); rintro e w44 ⟨rfl, hb⟩; refine ⟨_, rfl, ?_⟩; have n0_ := Aside0.mk (below_step (by repeat (first | (with_reducible first | exact HB.out | apply below_alloc | apply pw_below_drewN | apply below_drew1) | exact HB.out)) hb); clear HB; have HB := n0_; clear n0_; (try clear hb); (try clear hb2); (try clear hk); (try clear hi)) | ((with_reducible refine gate_callee (f := 29) rfl ?_); refine goesL_ (some 44) rfl rfl Tryd.func29 (by kernel_rfl) rfl #[.int .i64 t349] rfl (by (try simp only [List.map_toArray, List.map_cons, List.map_nil]); first | done | rfl | (simp only [List.length_drop, List.length_take]; rfl)) ?_; (with_reducible refine (calendar_December.calls t349 t354 _ A16.out).mono ?_); rintro e w45 ⟨rfl, hb⟩; refine ⟨_, rfl, ?_⟩; have n0_ := Aside0.mk (below_step (by repeat (first | (with_reducible first | exact HB.out | apply below_alloc | apply pw_below_drewN | apply below_drew1) | exact HB.out)) hb); clear HB; have HB := n0_; clear n0_; (try clear hb); (try clear hb2); (try clear hk); (try clear hi)) | (go_at_call 23; (with_reducible refine (calendar_Month.calls t354 t357 _ A30.out).mono ?_); rintro e w' ⟨rfl, ⟨nd, rfl⟩⟩) | ((with_reducible refine gate_callee (f := 35) rfl ?_); refine goesL_ (some 73) rfl rfl Tryd.func35 (by kernel_rfl) rfl #[.int .i64 (wrap64 (t350 + t353))] rfl (by (try simp only [List.map_toArray, List.map_cons, List.map_nil]); first | done | rfl | (simp only [List.length_drop, List.length_take]; rfl)) ?_; (with_reducible refine (calendar_PeriodOf.calls kj5 (wrap64 (t350 + t353)) t358 _ A33.out).mono ?_); rintro e w46 ⟨rfl, hb⟩; refine ⟨_, rfl, ?_⟩; have n0_ := Aside0.mk (below_step (by repeat (first | (with_reducible first | exact HB.out | apply below_alloc | apply pw_below_drewN | apply below_drew1) | exact HB.out)) hb); clear HB; have HB := n0_; clear n0_; (try clear hb); (try clear hb2); (try clear hk); (try clear hi)))
                    go_ret
                    exact ⟨by first | rfl | (simp [errW_none, errW_some] <;> rfl) | (simp [*, errW_none, errW_some] <;> rfl), by repeat (first | (with_reducible first | exact HB.out | apply below_alloc | apply pw_below_drewN | apply below_drew1) | exact HB.out)⟩
                · rw [if_neg c32] at H
                  have c32b0 : decide (1 ≤ (wrap64 (t349 - t354))) = false := decide_eq_false c32
                  clear c32
                  replace H := Option.bind_eq_some_iff.mp H
                  obtain ⟨t360, A470, H⟩ := H
                  replace H : (if t360 = t349 then (some false) else (some false)) = some r := H
                  have A47 := Aside0.mk A470
                  clear A470
                  by_cases c48 : t360 = t349
                  · rw [if_pos c48] at H
                    have c48b0 : (t360 == t349) = true := beq_iff_eq.mpr c48
                    have c48b1 : (t360 != t349) = false := bne_eq_false_iff_eq.mpr c48
                    clear c48
                    obtain rfl := Option.some.inj H
                    go_wp2_with (first | ((with_reducible refine gate_callee (f := 19) rfl ?_); refine goesL_ (some 41) rfl rfl Tryd.func19 (by kernel_rfl) rfl #[.int .i64 a1, .int .i64 (wrap64 ((wrap64 (t351 - t350)) + 1))] rfl (by (try simp only [List.map_toArray, List.map_cons, List.map_nil]); first | done | rfl | (simp only [List.length_drop, List.length_take]; rfl)) ?_; (with_reducible refine (priceofficemake_Fold.calls a1 (wrap64 ((wrap64 (t351 - t350)) + 1)) t353 _ A15.out).mono ?_); rintro e w49 ⟨rfl, hb⟩; refine ⟨_, rfl, ?_⟩; have n0_ := Aside0.mk (below_step (by repeat (first | (with_reducible first | exact HB.out | apply below_alloc | apply pw_below_drewN | apply below_drew1) | exact HB.out)) hb); clear HB; have HB := n0_; clear n0_; (try clear hb); (try clear hb2); (try clear hk); (try clear hi)) | ((with_reducible refine gate_callee (f := 29) rfl ?_); refine goesL_ (some 44) rfl rfl Tryd.func29 (by kernel_rfl) rfl #[.int .i64 t349] rfl (by (try simp only [List.map_toArray, List.map_cons, List.map_nil]); first | done | rfl | (simp only [List.length_drop, List.length_take]; rfl)) ?_; (with_reducible refine (calendar_December.calls t349 t354 _ A16.out).mono ?_); rintro e w50 ⟨rfl, hb⟩; refine ⟨_, rfl, ?_⟩; have n0_ := Aside0.mk (below_step (by repeat (first | (with_reducible first | exact HB.out | apply below_alloc | apply pw_below_drewN | apply below_drew1) | exact HB.out)) hb); clear HB; have HB := n0_; clear n0_; (try clear hb); (try clear hb2); (try clear hk); (try clear hi)) | (go_at_call 23; (with_reducible refine (calendar_Month.calls t354 t357 _ A30.out).mono ?_); rintro e w' ⟨rfl, ⟨nd, rfl⟩⟩) | ((with_reducible refine gate_callee (f := 35) rfl ?_); refine goesL_ (some 73) rfl rfl Tryd.func35 (by kernel_rfl) rfl #[.int .i64 (wrap64 (t350 + t353))] rfl (by (try simp only [List.map_toArray, List.map_cons, List.map_nil]); first | done | rfl | (simp only [List.length_drop, List.length_take]; rfl)) ?_; (with_reducible refine (calendar_PeriodOf.calls kj5 (wrap64 (t350 + t353)) t360 _ A47.out).mono ?_); rintro e w51 ⟨rfl, hb⟩; refine ⟨_, rfl, ?_⟩; have n0_ := Aside0.mk (below_step (by repeat (first | (with_reducible first | exact HB.out | apply below_alloc | apply pw_below_drewN | apply below_drew1) | exact HB.out)) hb); clear HB; have HB := n0_; clear n0_; (try clear hb); (try clear hb2); (try clear hk); (try clear hi)))
                    go_ret
                    exact ⟨by first | rfl | (simp [errW_none, errW_some] <;> rfl) | (simp [*, errW_none, errW_some] <;> rfl), by repeat (first | (with_reducible first | exact HB.out | apply below_alloc | apply pw_below_drewN | apply below_drew1) | exact HB.out)⟩
                  · rw [if_neg c48] at H
                    have c48b0 : (t360 == t349) = false := beq_eq_false_iff_ne.mpr c48
                    have c48b1 : (t360 != t349) = true := bne_iff_ne.mpr c48
                    obtain rfl := Option.some.inj H
                    go_wp2_with (first | ((with_reducible refine gate_callee (f := 19) rfl ?_); refine goesL_ (some 41) rfl rfl Tryd.func19 (by kernel_rfl) rfl #[.int .i64 a1, .int .i64 (wrap64 ((wrap64 (t351 - t350)) + 1))] rfl (by (try simp only [List.map_toArray, List.map_cons, List.map_nil]); first | done | rfl | (simp only [List.length_drop, List.length_take]; rfl)) ?_; (with_reducible refine (priceofficemake_Fold.calls a1 (wrap64 ((wrap64 (t351 - t350)) + 1)) t353 _ A15.out).mono ?_); rintro e w52 ⟨rfl, hb⟩; refine ⟨_, rfl, ?_⟩; have n0_ := Aside0.mk (below_step (by repeat (first | (with_reducible first | exact HB.out | apply below_alloc | apply pw_below_drewN | apply below_drew1) | exact HB.out)) hb); clear HB; have HB := n0_; clear n0_; (try clear hb); (try clear hb2); (try clear hk); (try clear hi)) | ((with_reducible refine gate_callee (f := 29) rfl ?_); refine goesL_ (some 44) rfl rfl Tryd.func29 (by kernel_rfl) rfl #[.int .i64 t349] rfl (by (try simp only [List.map_toArray, List.map_cons, List.map_nil]); first | done | rfl | (simp only [List.length_drop, List.length_take]; rfl)) ?_; (with_reducible refine (calendar_December.calls t349 t354 _ A16.out).mono ?_); rintro e w53 ⟨rfl, hb⟩; refine ⟨_, rfl, ?_⟩; have n0_ := Aside0.mk (below_step (by repeat (first | (with_reducible first | exact HB.out | apply below_alloc | apply pw_below_drewN | apply below_drew1) | exact HB.out)) hb); clear HB; have HB := n0_; clear n0_; (try clear hb); (try clear hb2); (try clear hk); (try clear hi)) | (go_at_call 23; (with_reducible refine (calendar_Month.calls t354 t357 _ A30.out).mono ?_); rintro e w' ⟨rfl, ⟨nd, rfl⟩⟩) | ((with_reducible refine gate_callee (f := 35) rfl ?_); refine goesL_ (some 73) rfl rfl Tryd.func35 (by kernel_rfl) rfl #[.int .i64 (wrap64 (t350 + t353))] rfl (by (try simp only [List.map_toArray, List.map_cons, List.map_nil]); first | done | rfl | (simp only [List.length_drop, List.length_take]; rfl)) ?_; (with_reducible refine (calendar_PeriodOf.calls kj5 (wrap64 (t350 + t353)) t360 _ A47.out).mono ?_); rintro e w54 ⟨rfl, hb⟩; refine ⟨_, rfl, ?_⟩; have n0_ := Aside0.mk (below_step (by repeat (first | (with_reducible first | exact HB.out | apply below_alloc | apply pw_below_drewN | apply below_drew1) | exact HB.out)) hb); clear HB; have HB := n0_; clear n0_; (try clear hb); (try clear hb2); (try clear hk); (try clear hi)))
                    go_ret
                    exact ⟨by first | rfl | (simp [errW_none, errW_some] <;> rfl) | (simp [*, errW_none, errW_some] <;> rfl), by repeat (first | (with_reducible first | exact HB.out | apply below_alloc | apply pw_below_drewN | apply below_drew1) | exact HB.out)⟩
              · rw [if_neg c31] at H
                have c31b0 : (t357 == 12) = false := beq_eq_false_iff_ne.mpr c31
                have c31b1 : (t357 != 12) = true := bne_iff_ne.mpr c31
                replace H := Option.bind_eq_some_iff.mp H
                obtain ⟨t361, A550, H⟩ := H
                replace H : (if t361 = t349 then (some false) else (some false)) = some r := H
                have A55 := Aside0.mk A550
                clear A550
                by_cases c56 : t361 = t349
                · rw [if_pos c56] at H
                  have c56b0 : (t361 == t349) = true := beq_iff_eq.mpr c56
                  have c56b1 : (t361 != t349) = false := bne_eq_false_iff_eq.mpr c56
                  clear c56
                  obtain rfl := Option.some.inj H
                  go_wp2_with (first | ((with_reducible refine gate_callee (f := 19) rfl ?_); refine goesL_ (some 41) rfl rfl Tryd.func19 (by kernel_rfl) rfl #[.int .i64 a1, .int .i64 (wrap64 ((wrap64 (t351 - t350)) + 1))] rfl (by (try simp only [List.map_toArray, List.map_cons, List.map_nil]); first | done | rfl | (simp only [List.length_drop, List.length_take]; rfl)) ?_; (with_reducible refine (priceofficemake_Fold.calls a1 (wrap64 ((wrap64 (t351 - t350)) + 1)) t353 _ A15.out).mono ?_); rintro e w57 ⟨rfl, hb⟩; refine ⟨_, rfl, ?_⟩; have n0_ := Aside0.mk (below_step (by repeat (first | (with_reducible first | exact HB.out | apply below_alloc | apply pw_below_drewN | apply below_drew1) | exact HB.out)) hb); clear HB; have HB := n0_; clear n0_; (try clear hb); (try clear hb2); (try clear hk); (try clear hi)) | ((with_reducible refine gate_callee (f := 29) rfl ?_); refine goesL_ (some 44) rfl rfl Tryd.func29 (by kernel_rfl) rfl #[.int .i64 t349] rfl (by (try simp only [List.map_toArray, List.map_cons, List.map_nil]); first | done | rfl | (simp only [List.length_drop, List.length_take]; rfl)) ?_; (with_reducible refine (calendar_December.calls t349 t354 _ A16.out).mono ?_); rintro e w58 ⟨rfl, hb⟩; refine ⟨_, rfl, ?_⟩; have n0_ := Aside0.mk (below_step (by repeat (first | (with_reducible first | exact HB.out | apply below_alloc | apply pw_below_drewN | apply below_drew1) | exact HB.out)) hb); clear HB; have HB := n0_; clear n0_; (try clear hb); (try clear hb2); (try clear hk); (try clear hi)) | (go_at_call 23; (with_reducible refine (calendar_Month.calls t354 t357 _ A30.out).mono ?_); rintro e w' ⟨rfl, ⟨nd, rfl⟩⟩) | ((with_reducible refine gate_callee (f := 35) rfl ?_); refine goesL_ (some 73) rfl rfl Tryd.func35 (by kernel_rfl) rfl #[.int .i64 (wrap64 (t350 + t353))] rfl (by (try simp only [List.map_toArray, List.map_cons, List.map_nil]); first | done | rfl | (simp only [List.length_drop, List.length_take]; rfl)) ?_; (with_reducible refine (calendar_PeriodOf.calls kj5 (wrap64 (t350 + t353)) t361 _ A55.out).mono ?_); rintro e w59 ⟨rfl, hb⟩; refine ⟨_, rfl, ?_⟩; have n0_ := Aside0.mk (below_step (by repeat (first | (with_reducible first | exact HB.out | apply below_alloc | apply pw_below_drewN | apply below_drew1) | exact HB.out)) hb); clear HB; have HB := n0_; clear n0_; (try clear hb); (try clear hb2); (try clear hk); (try clear hi)))
                  go_ret
                  exact ⟨by first | rfl | (simp [errW_none, errW_some] <;> rfl) | (simp [*, errW_none, errW_some] <;> rfl), by repeat (first | (with_reducible first | exact HB.out | apply below_alloc | apply pw_below_drewN | apply below_drew1) | exact HB.out)⟩
                · rw [if_neg c56] at H
                  have c56b0 : (t361 == t349) = false := beq_eq_false_iff_ne.mpr c56
                  have c56b1 : (t361 != t349) = true := bne_iff_ne.mpr c56
                  obtain rfl := Option.some.inj H
                  go_wp2_with (first | ((with_reducible refine gate_callee (f := 19) rfl ?_); refine goesL_ (some 41) rfl rfl Tryd.func19 (by kernel_rfl) rfl #[.int .i64 a1, .int .i64 (wrap64 ((wrap64 (t351 - t350)) + 1))] rfl (by (try simp only [List.map_toArray, List.map_cons, List.map_nil]); first | done | rfl | (simp only [List.length_drop, List.length_take]; rfl)) ?_; (with_reducible refine (priceofficemake_Fold.calls a1 (wrap64 ((wrap64 (t351 - t350)) + 1)) t353 _ A15.out).mono ?_); rintro e w60 ⟨rfl, hb⟩; refine ⟨_, rfl, ?_⟩; have n0_ := Aside0.mk (below_step (by repeat (first | (with_reducible first | exact HB.out | apply below_alloc | apply pw_below_drewN | apply below_drew1) | exact HB.out)) hb); clear HB; have HB := n0_; clear n0_; (try clear hb); (try clear hb2); (try clear hk); (try clear hi)) | ((with_reducible refine gate_callee (f := 29) rfl ?_); refine goesL_ (some 44) rfl rfl Tryd.func29 (by kernel_rfl) rfl #[.int .i64 t349] rfl (by (try simp only [List.map_toArray, List.map_cons, List.map_nil]); first | done | rfl | (simp only [List.length_drop, List.length_take]; rfl)) ?_; (with_reducible refine (calendar_December.calls t349 t354 _ A16.out).mono ?_); rintro e w61 ⟨rfl, hb⟩; refine ⟨_, rfl, ?_⟩; have n0_ := Aside0.mk (below_step (by repeat (first | (with_reducible first | exact HB.out | apply below_alloc | apply pw_below_drewN | apply below_drew1) | exact HB.out)) hb); clear HB; have HB := n0_; clear n0_; (try clear hb); (try clear hb2); (try clear hk); (try clear hi)) | (go_at_call 23; (with_reducible refine (calendar_Month.calls t354 t357 _ A30.out).mono ?_); rintro e w' ⟨rfl, ⟨nd, rfl⟩⟩) | ((with_reducible refine gate_callee (f := 35) rfl ?_); refine goesL_ (some 73) rfl rfl Tryd.func35 (by kernel_rfl) rfl #[.int .i64 (wrap64 (t350 + t353))] rfl (by (try simp only [List.map_toArray, List.map_cons, List.map_nil]); first | done | rfl | (simp only [List.length_drop, List.length_take]; rfl)) ?_; (with_reducible refine (calendar_PeriodOf.calls kj5 (wrap64 (t350 + t353)) t361 _ A55.out).mono ?_); rintro e w62 ⟨rfl, hb⟩; refine ⟨_, rfl, ?_⟩; have n0_ := Aside0.mk (below_step (by repeat (first | (with_reducible first | exact HB.out | apply below_alloc | apply pw_below_drewN | apply below_drew1) | exact HB.out)) hb); clear HB; have HB := n0_; clear n0_; (try clear hb); (try clear hb2); (try clear hk); (try clear hi)))
                  go_ret
                  exact ⟨by first | rfl | (simp [errW_none, errW_some] <;> rfl) | (simp [*, errW_none, errW_some] <;> rfl), by repeat (first | (with_reducible first | exact HB.out | apply below_alloc | apply pw_below_drewN | apply below_drew1) | exact HB.out)⟩
            · rw [if_neg c29] at H
              have c29b0 : decide (12 ≤ t349) = false := decide_eq_false c29
              clear c29
              replace H := Option.bind_eq_some_iff.mp H
              obtain ⟨t362, A630, H⟩ := H
              replace H : (if t362 = t349 then (some false) else (some false)) = some r := H
              have A63 := Aside0.mk A630
              clear A630
              by_cases c64 : t362 = t349
              · rw [if_pos c64] at H
                have c64b0 : (t362 == t349) = true := beq_iff_eq.mpr c64
                have c64b1 : (t362 != t349) = false := bne_eq_false_iff_eq.mpr c64
                clear c64
                obtain rfl := Option.some.inj H
                go_wp2_with (first | ((with_reducible refine gate_callee (f := 19) rfl ?_); refine goesL_ (some 41) rfl rfl Tryd.func19 (by kernel_rfl) rfl #[.int .i64 a1, .int .i64 (wrap64 ((wrap64 (t351 - t350)) + 1))] rfl (by (try simp only [List.map_toArray, List.map_cons, List.map_nil]); first | done | rfl | (simp only [List.length_drop, List.length_take]; rfl)) ?_; (with_reducible refine (priceofficemake_Fold.calls a1 (wrap64 ((wrap64 (t351 - t350)) + 1)) t353 _ A15.out).mono ?_); rintro e w65 ⟨rfl, hb⟩; refine ⟨_, rfl, ?_⟩; have n0_ := Aside0.mk (below_step (by repeat (first | (with_reducible first | exact HB.out | apply below_alloc | apply pw_below_drewN | apply below_drew1) | exact HB.out)) hb); clear HB; have HB := n0_; clear n0_; (try clear hb); (try clear hb2); (try clear hk); (try clear hi)) | ((with_reducible refine gate_callee (f := 29) rfl ?_); refine goesL_ (some 44) rfl rfl Tryd.func29 (by kernel_rfl) rfl #[.int .i64 t349] rfl (by (try simp only [List.map_toArray, List.map_cons, List.map_nil]); first | done | rfl | (simp only [List.length_drop, List.length_take]; rfl)) ?_; (with_reducible refine (calendar_December.calls t349 t354 _ A16.out).mono ?_); rintro e w66 ⟨rfl, hb⟩; refine ⟨_, rfl, ?_⟩; have n0_ := Aside0.mk (below_step (by repeat (first | (with_reducible first | exact HB.out | apply below_alloc | apply pw_below_drewN | apply below_drew1) | exact HB.out)) hb); clear HB; have HB := n0_; clear n0_; (try clear hb); (try clear hb2); (try clear hk); (try clear hi)) | ((with_reducible refine gate_callee (f := 35) rfl ?_); refine goesL_ (some 73) rfl rfl Tryd.func35 (by kernel_rfl) rfl #[.int .i64 (wrap64 (t350 + t353))] rfl (by (try simp only [List.map_toArray, List.map_cons, List.map_nil]); first | done | rfl | (simp only [List.length_drop, List.length_take]; rfl)) ?_; (with_reducible refine (calendar_PeriodOf.calls kj5 (wrap64 (t350 + t353)) t362 _ A63.out).mono ?_); rintro e w67 ⟨rfl, hb⟩; refine ⟨_, rfl, ?_⟩; have n0_ := Aside0.mk (below_step (by repeat (first | (with_reducible first | exact HB.out | apply below_alloc | apply pw_below_drewN | apply below_drew1) | exact HB.out)) hb); clear HB; have HB := n0_; clear n0_; (try clear hb); (try clear hb2); (try clear hk); (try clear hi)))
                go_ret
                exact ⟨by first | rfl | (simp [errW_none, errW_some] <;> rfl) | (simp [*, errW_none, errW_some] <;> rfl), by repeat (first | (with_reducible first | exact HB.out | apply below_alloc | apply pw_below_drewN | apply below_drew1) | exact HB.out)⟩
              · rw [if_neg c64] at H
                have c64b0 : (t362 == t349) = false := beq_eq_false_iff_ne.mpr c64
                have c64b1 : (t362 != t349) = true := bne_iff_ne.mpr c64
                obtain rfl := Option.some.inj H
                go_wp2_with (first | ((with_reducible refine gate_callee (f := 19) rfl ?_); refine goesL_ (some 41) rfl rfl Tryd.func19 (by kernel_rfl) rfl #[.int .i64 a1, .int .i64 (wrap64 ((wrap64 (t351 - t350)) + 1))] rfl (by (try simp only [List.map_toArray, List.map_cons, List.map_nil]); first | done | rfl | (simp only [List.length_drop, List.length_take]; rfl)) ?_; (with_reducible refine (priceofficemake_Fold.calls a1 (wrap64 ((wrap64 (t351 - t350)) + 1)) t353 _ A15.out).mono ?_); rintro e w68 ⟨rfl, hb⟩; refine ⟨_, rfl, ?_⟩; have n0_ := Aside0.mk (below_step (by repeat (first | (with_reducible first | exact HB.out | apply below_alloc | apply pw_below_drewN | apply below_drew1) | exact HB.out)) hb); clear HB; have HB := n0_; clear n0_; (try clear hb); (try clear hb2); (try clear hk); (try clear hi)) | ((with_reducible refine gate_callee (f := 29) rfl ?_); refine goesL_ (some 44) rfl rfl Tryd.func29 (by kernel_rfl) rfl #[.int .i64 t349] rfl (by (try simp only [List.map_toArray, List.map_cons, List.map_nil]); first | done | rfl | (simp only [List.length_drop, List.length_take]; rfl)) ?_; (with_reducible refine (calendar_December.calls t349 t354 _ A16.out).mono ?_); rintro e w69 ⟨rfl, hb⟩; refine ⟨_, rfl, ?_⟩; have n0_ := Aside0.mk (below_step (by repeat (first | (with_reducible first | exact HB.out | apply below_alloc | apply pw_below_drewN | apply below_drew1) | exact HB.out)) hb); clear HB; have HB := n0_; clear n0_; (try clear hb); (try clear hb2); (try clear hk); (try clear hi)) | ((with_reducible refine gate_callee (f := 35) rfl ?_); refine goesL_ (some 73) rfl rfl Tryd.func35 (by kernel_rfl) rfl #[.int .i64 (wrap64 (t350 + t353))] rfl (by (try simp only [List.map_toArray, List.map_cons, List.map_nil]); first | done | rfl | (simp only [List.length_drop, List.length_take]; rfl)) ?_; (with_reducible refine (calendar_PeriodOf.calls kj5 (wrap64 (t350 + t353)) t362 _ A63.out).mono ?_); rintro e w70 ⟨rfl, hb⟩; refine ⟨_, rfl, ?_⟩; have n0_ := Aside0.mk (below_step (by repeat (first | (with_reducible first | exact HB.out | apply below_alloc | apply pw_below_drewN | apply below_drew1) | exact HB.out)) hb); clear HB; have HB := n0_; clear n0_; (try clear hb); (try clear hb2); (try clear hk); (try clear hi)))
                go_ret
                exact ⟨by first | rfl | (simp [errW_none, errW_some] <;> rfl) | (simp [*, errW_none, errW_some] <;> rfl), by repeat (first | (with_reducible first | exact HB.out | apply below_alloc | apply pw_below_drewN | apply below_drew1) | exact HB.out)⟩
        · rw [if_neg c17] at H
          have c17b0 : decide (t349 < 12) = false := decide_eq_false c17
          clear c17
          by_cases c71 : t349 ≥ 12
          · rw [if_pos c71] at H
            have c71b0 : decide (12 ≤ t349) = true := decide_eq_true c71
            clear c71
            replace H := Option.bind_eq_some_iff.mp H
            obtain ⟨t363, A720, H⟩ := H
            replace H : (if t363 = 12 then (if (wrap64 (t349 - t354)) ≥ 1 then ((calendar_PeriodOf.f kj5 (wrap64 (t350 + t353))).bind fun t364 => (if t364 = t349 then (if (wrap64 (t349 - t354)) ≤ 12 then ((priceofficelaw05_awake.f kj5).bind fun t365 => (some t365)) else (some false)) else (some false))) else ((calendar_PeriodOf.f kj5 (wrap64 (t350 + t353))).bind fun t366 => (if t366 = t349 then (some false) else (some false)))) else ((calendar_PeriodOf.f kj5 (wrap64 (t350 + t353))).bind fun t367 => (if t367 = t349 then (some false) else (some false)))) = some r := H
            have A72 := Aside0.mk A720
            clear A720
            by_cases c73 : t363 = 12
            · rw [if_pos c73] at H
              have c73b0 : (t363 == 12) = true := beq_iff_eq.mpr c73
              have c73b1 : (t363 != 12) = false := bne_eq_false_iff_eq.mpr c73
              clear c73
              by_cases c74 : (wrap64 (t349 - t354)) ≥ 1
              · rw [if_pos c74] at H
                have c74b0 : decide (1 ≤ (wrap64 (t349 - t354))) = true := decide_eq_true c74
                clear c74
                replace H := Option.bind_eq_some_iff.mp H
                obtain ⟨t364, A750, H⟩ := H
                replace H : (if t364 = t349 then (if (wrap64 (t349 - t354)) ≤ 12 then ((priceofficelaw05_awake.f kj5).bind fun t365 => (some t365)) else (some false)) else (some false)) = some r := H
                have A75 := Aside0.mk A750
                clear A750
                by_cases c76 : t364 = t349
                · rw [if_pos c76] at H
                  have c76b0 : (t364 == t349) = true := beq_iff_eq.mpr c76
                  have c76b1 : (t364 != t349) = false := bne_eq_false_iff_eq.mpr c76
                  clear c76
                  by_cases c77 : (wrap64 (t349 - t354)) ≤ 12
                  · rw [if_pos c77] at H
                    have c77b0 : decide ((wrap64 (t349 - t354)) ≤ 12) = true := decide_eq_true c77
                    clear c77
                    replace H := Option.bind_eq_some_iff.mp H
                    obtain ⟨t365, A780, H⟩ := H
                    replace H : (some t365) = some r := H
                    have A78 := Aside0.mk A780
                    clear A780
                    obtain rfl := Option.some.inj H
                    go_wp2_with (first | ((with_reducible refine gate_callee (f := 19) rfl ?_); refine goesL_ (some 41) rfl rfl Tryd.func19 (by kernel_rfl) rfl #[.int .i64 a1, .int .i64 (wrap64 ((wrap64 (t351 - t350)) + 1))] rfl (by (try simp only [List.map_toArray, List.map_cons, List.map_nil]); first | done | rfl | (simp only [List.length_drop, List.length_take]; rfl)) ?_; (with_reducible refine (priceofficemake_Fold.calls a1 (wrap64 ((wrap64 (t351 - t350)) + 1)) t353 _ A15.out).mono ?_); rintro e w79 ⟨rfl, hb⟩; refine ⟨_, rfl, ?_⟩; have n0_ := Aside0.mk (below_step (by repeat (first | (with_reducible first | exact HB.out | apply below_alloc | apply pw_below_drewN | apply below_drew1) | exact HB.out)) hb); clear HB; have HB := n0_; clear n0_; (try clear hb); (try clear hb2); (try clear hk); (try clear hi)) | ((with_reducible refine gate_callee (f := 29) rfl ?_); refine goesL_ (some 44) rfl rfl Tryd.func29 (by kernel_rfl) rfl #[.int .i64 t349] rfl (by (try simp only [List.map_toArray, List.map_cons, List.map_nil]); first | done | rfl | (simp only [List.length_drop, List.length_take]; rfl)) ?_; (with_reducible refine (calendar_December.calls t349 t354 _ A16.out).mono ?_); rintro e w80 ⟨rfl, hb⟩; refine ⟨_, rfl, ?_⟩; have n0_ := Aside0.mk (below_step (by repeat (first | (with_reducible first | exact HB.out | apply below_alloc | apply pw_below_drewN | apply below_drew1) | exact HB.out)) hb); clear HB; have HB := n0_; clear n0_; (try clear hb); (try clear hb2); (try clear hk); (try clear hi)) | (go_at_call 23; (with_reducible refine (calendar_Month.calls t354 t363 _ A72.out).mono ?_); rintro e w' ⟨rfl, ⟨nd, rfl⟩⟩) | ((with_reducible refine gate_callee (f := 35) rfl ?_); refine goesL_ (some 73) rfl rfl Tryd.func35 (by kernel_rfl) rfl #[.int .i64 (wrap64 (t350 + t353))] rfl (by (try simp only [List.map_toArray, List.map_cons, List.map_nil]); first | done | rfl | (simp only [List.length_drop, List.length_take]; rfl)) ?_; (with_reducible refine (calendar_PeriodOf.calls kj5 (wrap64 (t350 + t353)) t364 _ A75.out).mono ?_); rintro e w81 ⟨rfl, hb⟩; refine ⟨_, rfl, ?_⟩; have n0_ := Aside0.mk (below_step (by repeat (first | (with_reducible first | exact HB.out | apply below_alloc | apply pw_below_drewN | apply below_drew1) | exact HB.out)) hb); clear HB; have HB := n0_; clear n0_; (try clear hb); (try clear hb2); (try clear hk); (try clear hi)) | (go_at_call 18; (with_reducible refine (priceofficelaw05_awake.calls kj5  t365 _ ?side1 A78.out).mono ?_); (case side1 => first | exact HG.out | exact GT.below HG.out (by repeat (first | (with_reducible first | exact HB.out | apply below_alloc | apply pw_below_drewN | apply below_drew1) | exact HB.out))); rintro e w82 ⟨rfl, hb⟩; have n0_ := Aside0.mk (below_step (by repeat (first | (with_reducible first | exact HB.out | apply below_alloc | apply pw_below_drewN | apply below_drew1) | exact HB.out)) hb); clear HB; have HB := n0_; clear n0_; (try clear hb); (try clear hb2); (try clear hk); (try clear hi)))
                    go_ret
                    exact ⟨by first | rfl | (simp [errW_none, errW_some] <;> rfl) | (simp [*, errW_none, errW_some] <;> rfl), by repeat (first | (with_reducible first | exact HB.out | apply below_alloc | apply pw_below_drewN | apply below_drew1) | exact HB.out)⟩
                  · rw [if_neg c77] at H
                    have c77b0 : decide ((wrap64 (t349 - t354)) ≤ 12) = false := decide_eq_false c77
                    clear c77
                    obtain rfl := Option.some.inj H
                    go_wp2_with (first | ((with_reducible refine gate_callee (f := 19) rfl ?_); refine goesL_ (some 41) rfl rfl Tryd.func19 (by kernel_rfl) rfl #[.int .i64 a1, .int .i64 (wrap64 ((wrap64 (t351 - t350)) + 1))] rfl (by (try simp only [List.map_toArray, List.map_cons, List.map_nil]); first | done | rfl | (simp only [List.length_drop, List.length_take]; rfl)) ?_; (with_reducible refine (priceofficemake_Fold.calls a1 (wrap64 ((wrap64 (t351 - t350)) + 1)) t353 _ A15.out).mono ?_); rintro e w83 ⟨rfl, hb⟩; refine ⟨_, rfl, ?_⟩; have n0_ := Aside0.mk (below_step (by repeat (first | (with_reducible first | exact HB.out | apply below_alloc | apply pw_below_drewN | apply below_drew1) | exact HB.out)) hb); clear HB; have HB := n0_; clear n0_; (try clear hb); (try clear hb2); (try clear hk); (try clear hi)) | ((with_reducible refine gate_callee (f := 29) rfl ?_); refine goesL_ (some 44) rfl rfl Tryd.func29 (by kernel_rfl) rfl #[.int .i64 t349] rfl (by (try simp only [List.map_toArray, List.map_cons, List.map_nil]); first | done | rfl | (simp only [List.length_drop, List.length_take]; rfl)) ?_; (with_reducible refine (calendar_December.calls t349 t354 _ A16.out).mono ?_); rintro e w84 ⟨rfl, hb⟩; refine ⟨_, rfl, ?_⟩; have n0_ := Aside0.mk (below_step (by repeat (first | (with_reducible first | exact HB.out | apply below_alloc | apply pw_below_drewN | apply below_drew1) | exact HB.out)) hb); clear HB; have HB := n0_; clear n0_; (try clear hb); (try clear hb2); (try clear hk); (try clear hi)) | (go_at_call 23; (with_reducible refine (calendar_Month.calls t354 t363 _ A72.out).mono ?_); rintro e w' ⟨rfl, ⟨nd, rfl⟩⟩) | ((with_reducible refine gate_callee (f := 35) rfl ?_); refine goesL_ (some 73) rfl rfl Tryd.func35 (by kernel_rfl) rfl #[.int .i64 (wrap64 (t350 + t353))] rfl (by (try simp only [List.map_toArray, List.map_cons, List.map_nil]); first | done | rfl | (simp only [List.length_drop, List.length_take]; rfl)) ?_; (with_reducible refine (calendar_PeriodOf.calls kj5 (wrap64 (t350 + t353)) t364 _ A75.out).mono ?_); rintro e w85 ⟨rfl, hb⟩; refine ⟨_, rfl, ?_⟩; have n0_ := Aside0.mk (below_step (by repeat (first | (with_reducible first | exact HB.out | apply below_alloc | apply pw_below_drewN | apply below_drew1) | exact HB.out)) hb); clear HB; have HB := n0_; clear n0_; (try clear hb); (try clear hb2); (try clear hk); (try clear hi)))
                    go_ret
                    exact ⟨by first | rfl | (simp [errW_none, errW_some] <;> rfl) | (simp [*, errW_none, errW_some] <;> rfl), by repeat (first | (with_reducible first | exact HB.out | apply below_alloc | apply pw_below_drewN | apply below_drew1) | exact HB.out)⟩
                · rw [if_neg c76] at H
                  have c76b0 : (t364 == t349) = false := beq_eq_false_iff_ne.mpr c76
                  have c76b1 : (t364 != t349) = true := bne_iff_ne.mpr c76
                  obtain rfl := Option.some.inj H
                  go_wp2_with (first | ((with_reducible refine gate_callee (f := 19) rfl ?_); refine goesL_ (some 41) rfl rfl Tryd.func19 (by kernel_rfl) rfl #[.int .i64 a1, .int .i64 (wrap64 ((wrap64 (t351 - t350)) + 1))] rfl (by (try simp only [List.map_toArray, List.map_cons, List.map_nil]); first | done | rfl | (simp only [List.length_drop, List.length_take]; rfl)) ?_; (with_reducible refine (priceofficemake_Fold.calls a1 (wrap64 ((wrap64 (t351 - t350)) + 1)) t353 _ A15.out).mono ?_); rintro e w86 ⟨rfl, hb⟩; refine ⟨_, rfl, ?_⟩; have n0_ := Aside0.mk (below_step (by repeat (first | (with_reducible first | exact HB.out | apply below_alloc | apply pw_below_drewN | apply below_drew1) | exact HB.out)) hb); clear HB; have HB := n0_; clear n0_; (try clear hb); (try clear hb2); (try clear hk); (try clear hi)) | ((with_reducible refine gate_callee (f := 29) rfl ?_); refine goesL_ (some 44) rfl rfl Tryd.func29 (by kernel_rfl) rfl #[.int .i64 t349] rfl (by (try simp only [List.map_toArray, List.map_cons, List.map_nil]); first | done | rfl | (simp only [List.length_drop, List.length_take]; rfl)) ?_; (with_reducible refine (calendar_December.calls t349 t354 _ A16.out).mono ?_); rintro e w87 ⟨rfl, hb⟩; refine ⟨_, rfl, ?_⟩; have n0_ := Aside0.mk (below_step (by repeat (first | (with_reducible first | exact HB.out | apply below_alloc | apply pw_below_drewN | apply below_drew1) | exact HB.out)) hb); clear HB; have HB := n0_; clear n0_; (try clear hb); (try clear hb2); (try clear hk); (try clear hi)) | (go_at_call 23; (with_reducible refine (calendar_Month.calls t354 t363 _ A72.out).mono ?_); rintro e w' ⟨rfl, ⟨nd, rfl⟩⟩) | ((with_reducible refine gate_callee (f := 35) rfl ?_); refine goesL_ (some 73) rfl rfl Tryd.func35 (by kernel_rfl) rfl #[.int .i64 (wrap64 (t350 + t353))] rfl (by (try simp only [List.map_toArray, List.map_cons, List.map_nil]); first | done | rfl | (simp only [List.length_drop, List.length_take]; rfl)) ?_; (with_reducible refine (calendar_PeriodOf.calls kj5 (wrap64 (t350 + t353)) t364 _ A75.out).mono ?_); rintro e w88 ⟨rfl, hb⟩; refine ⟨_, rfl, ?_⟩; have n0_ := Aside0.mk (below_step (by repeat (first | (with_reducible first | exact HB.out | apply below_alloc | apply pw_below_drewN | apply below_drew1) | exact HB.out)) hb); clear HB; have HB := n0_; clear n0_; (try clear hb); (try clear hb2); (try clear hk); (try clear hi)))
                  go_ret
                  exact ⟨by first | rfl | (simp [errW_none, errW_some] <;> rfl) | (simp [*, errW_none, errW_some] <;> rfl), by repeat (first | (with_reducible first | exact HB.out | apply below_alloc | apply pw_below_drewN | apply below_drew1) | exact HB.out)⟩
              · rw [if_neg c74] at H
                have c74b0 : decide (1 ≤ (wrap64 (t349 - t354))) = false := decide_eq_false c74
                clear c74
                replace H := Option.bind_eq_some_iff.mp H
                obtain ⟨t366, A890, H⟩ := H
                replace H : (if t366 = t349 then (some false) else (some false)) = some r := H
                have A89 := Aside0.mk A890
                clear A890
                by_cases c90 : t366 = t349
                · rw [if_pos c90] at H
                  have c90b0 : (t366 == t349) = true := beq_iff_eq.mpr c90
                  have c90b1 : (t366 != t349) = false := bne_eq_false_iff_eq.mpr c90
                  clear c90
                  obtain rfl := Option.some.inj H
                  go_wp2_with (first | ((with_reducible refine gate_callee (f := 19) rfl ?_); refine goesL_ (some 41) rfl rfl Tryd.func19 (by kernel_rfl) rfl #[.int .i64 a1, .int .i64 (wrap64 ((wrap64 (t351 - t350)) + 1))] rfl (by (try simp only [List.map_toArray, List.map_cons, List.map_nil]); first | done | rfl | (simp only [List.length_drop, List.length_take]; rfl)) ?_; (with_reducible refine (priceofficemake_Fold.calls a1 (wrap64 ((wrap64 (t351 - t350)) + 1)) t353 _ A15.out).mono ?_); rintro e w91 ⟨rfl, hb⟩; refine ⟨_, rfl, ?_⟩; have n0_ := Aside0.mk (below_step (by repeat (first | (with_reducible first | exact HB.out | apply below_alloc | apply pw_below_drewN | apply below_drew1) | exact HB.out)) hb); clear HB; have HB := n0_; clear n0_; (try clear hb); (try clear hb2); (try clear hk); (try clear hi)) | ((with_reducible refine gate_callee (f := 29) rfl ?_); refine goesL_ (some 44) rfl rfl Tryd.func29 (by kernel_rfl) rfl #[.int .i64 t349] rfl (by (try simp only [List.map_toArray, List.map_cons, List.map_nil]); first | done | rfl | (simp only [List.length_drop, List.length_take]; rfl)) ?_; (with_reducible refine (calendar_December.calls t349 t354 _ A16.out).mono ?_); rintro e w92 ⟨rfl, hb⟩; refine ⟨_, rfl, ?_⟩; have n0_ := Aside0.mk (below_step (by repeat (first | (with_reducible first | exact HB.out | apply below_alloc | apply pw_below_drewN | apply below_drew1) | exact HB.out)) hb); clear HB; have HB := n0_; clear n0_; (try clear hb); (try clear hb2); (try clear hk); (try clear hi)) | (go_at_call 23; (with_reducible refine (calendar_Month.calls t354 t363 _ A72.out).mono ?_); rintro e w' ⟨rfl, ⟨nd, rfl⟩⟩) | ((with_reducible refine gate_callee (f := 35) rfl ?_); refine goesL_ (some 73) rfl rfl Tryd.func35 (by kernel_rfl) rfl #[.int .i64 (wrap64 (t350 + t353))] rfl (by (try simp only [List.map_toArray, List.map_cons, List.map_nil]); first | done | rfl | (simp only [List.length_drop, List.length_take]; rfl)) ?_; (with_reducible refine (calendar_PeriodOf.calls kj5 (wrap64 (t350 + t353)) t366 _ A89.out).mono ?_); rintro e w93 ⟨rfl, hb⟩; refine ⟨_, rfl, ?_⟩; have n0_ := Aside0.mk (below_step (by repeat (first | (with_reducible first | exact HB.out | apply below_alloc | apply pw_below_drewN | apply below_drew1) | exact HB.out)) hb); clear HB; have HB := n0_; clear n0_; (try clear hb); (try clear hb2); (try clear hk); (try clear hi)))
                  go_ret
                  exact ⟨by first | rfl | (simp [errW_none, errW_some] <;> rfl) | (simp [*, errW_none, errW_some] <;> rfl), by repeat (first | (with_reducible first | exact HB.out | apply below_alloc | apply pw_below_drewN | apply below_drew1) | exact HB.out)⟩
                · rw [if_neg c90] at H
                  have c90b0 : (t366 == t349) = false := beq_eq_false_iff_ne.mpr c90
                  have c90b1 : (t366 != t349) = true := bne_iff_ne.mpr c90
                  obtain rfl := Option.some.inj H
                  go_wp2_with (first | ((with_reducible refine gate_callee (f := 19) rfl ?_); refine goesL_ (some 41) rfl rfl Tryd.func19 (by kernel_rfl) rfl #[.int .i64 a1, .int .i64 (wrap64 ((wrap64 (t351 - t350)) + 1))] rfl (by (try simp only [List.map_toArray, List.map_cons, List.map_nil]); first | done | rfl | (simp only [List.length_drop, List.length_take]; rfl)) ?_; (with_reducible refine (priceofficemake_Fold.calls a1 (wrap64 ((wrap64 (t351 - t350)) + 1)) t353 _ A15.out).mono ?_); rintro e w94 ⟨rfl, hb⟩; refine ⟨_, rfl, ?_⟩; have n0_ := Aside0.mk (below_step (by repeat (first | (with_reducible first | exact HB.out | apply below_alloc | apply pw_below_drewN | apply below_drew1) | exact HB.out)) hb); clear HB; have HB := n0_; clear n0_; (try clear hb); (try clear hb2); (try clear hk); (try clear hi)) | ((with_reducible refine gate_callee (f := 29) rfl ?_); refine goesL_ (some 44) rfl rfl Tryd.func29 (by kernel_rfl) rfl #[.int .i64 t349] rfl (by (try simp only [List.map_toArray, List.map_cons, List.map_nil]); first | done | rfl | (simp only [List.length_drop, List.length_take]; rfl)) ?_; (with_reducible refine (calendar_December.calls t349 t354 _ A16.out).mono ?_); rintro e w95 ⟨rfl, hb⟩; refine ⟨_, rfl, ?_⟩; have n0_ := Aside0.mk (below_step (by repeat (first | (with_reducible first | exact HB.out | apply below_alloc | apply pw_below_drewN | apply below_drew1) | exact HB.out)) hb); clear HB; have HB := n0_; clear n0_; (try clear hb); (try clear hb2); (try clear hk); (try clear hi)) | (go_at_call 23; (with_reducible refine (calendar_Month.calls t354 t363 _ A72.out).mono ?_); rintro e w' ⟨rfl, ⟨nd, rfl⟩⟩) | ((with_reducible refine gate_callee (f := 35) rfl ?_); refine goesL_ (some 73) rfl rfl Tryd.func35 (by kernel_rfl) rfl #[.int .i64 (wrap64 (t350 + t353))] rfl (by (try simp only [List.map_toArray, List.map_cons, List.map_nil]); first | done | rfl | (simp only [List.length_drop, List.length_take]; rfl)) ?_; (with_reducible refine (calendar_PeriodOf.calls kj5 (wrap64 (t350 + t353)) t366 _ A89.out).mono ?_); rintro e w96 ⟨rfl, hb⟩; refine ⟨_, rfl, ?_⟩; have n0_ := Aside0.mk (below_step (by repeat (first | (with_reducible first | exact HB.out | apply below_alloc | apply pw_below_drewN | apply below_drew1) | exact HB.out)) hb); clear HB; have HB := n0_; clear n0_; (try clear hb); (try clear hb2); (try clear hk); (try clear hi)))
                  go_ret
                  exact ⟨by first | rfl | (simp [errW_none, errW_some] <;> rfl) | (simp [*, errW_none, errW_some] <;> rfl), by repeat (first | (with_reducible first | exact HB.out | apply below_alloc | apply pw_below_drewN | apply below_drew1) | exact HB.out)⟩
            · rw [if_neg c73] at H
              have c73b0 : (t363 == 12) = false := beq_eq_false_iff_ne.mpr c73
              have c73b1 : (t363 != 12) = true := bne_iff_ne.mpr c73
              replace H := Option.bind_eq_some_iff.mp H
              obtain ⟨t367, A970, H⟩ := H
              replace H : (if t367 = t349 then (some false) else (some false)) = some r := H
              have A97 := Aside0.mk A970
              clear A970
              by_cases c98 : t367 = t349
              · rw [if_pos c98] at H
                have c98b0 : (t367 == t349) = true := beq_iff_eq.mpr c98
                have c98b1 : (t367 != t349) = false := bne_eq_false_iff_eq.mpr c98
                clear c98
                obtain rfl := Option.some.inj H
                go_wp2_with (first | ((with_reducible refine gate_callee (f := 19) rfl ?_); refine goesL_ (some 41) rfl rfl Tryd.func19 (by kernel_rfl) rfl #[.int .i64 a1, .int .i64 (wrap64 ((wrap64 (t351 - t350)) + 1))] rfl (by (try simp only [List.map_toArray, List.map_cons, List.map_nil]); first | done | rfl | (simp only [List.length_drop, List.length_take]; rfl)) ?_; (with_reducible refine (priceofficemake_Fold.calls a1 (wrap64 ((wrap64 (t351 - t350)) + 1)) t353 _ A15.out).mono ?_); rintro e w99 ⟨rfl, hb⟩; refine ⟨_, rfl, ?_⟩; have n0_ := Aside0.mk (below_step (by repeat (first | (with_reducible first | exact HB.out | apply below_alloc | apply pw_below_drewN | apply below_drew1) | exact HB.out)) hb); clear HB; have HB := n0_; clear n0_; (try clear hb); (try clear hb2); (try clear hk); (try clear hi)) | ((with_reducible refine gate_callee (f := 29) rfl ?_); refine goesL_ (some 44) rfl rfl Tryd.func29 (by kernel_rfl) rfl #[.int .i64 t349] rfl (by (try simp only [List.map_toArray, List.map_cons, List.map_nil]); first | done | rfl | (simp only [List.length_drop, List.length_take]; rfl)) ?_; (with_reducible refine (calendar_December.calls t349 t354 _ A16.out).mono ?_); rintro e w100 ⟨rfl, hb⟩; refine ⟨_, rfl, ?_⟩; have n0_ := Aside0.mk (below_step (by repeat (first | (with_reducible first | exact HB.out | apply below_alloc | apply pw_below_drewN | apply below_drew1) | exact HB.out)) hb); clear HB; have HB := n0_; clear n0_; (try clear hb); (try clear hb2); (try clear hk); (try clear hi)) | (go_at_call 23; (with_reducible refine (calendar_Month.calls t354 t363 _ A72.out).mono ?_); rintro e w' ⟨rfl, ⟨nd, rfl⟩⟩) | ((with_reducible refine gate_callee (f := 35) rfl ?_); refine goesL_ (some 73) rfl rfl Tryd.func35 (by kernel_rfl) rfl #[.int .i64 (wrap64 (t350 + t353))] rfl (by (try simp only [List.map_toArray, List.map_cons, List.map_nil]); first | done | rfl | (simp only [List.length_drop, List.length_take]; rfl)) ?_; (with_reducible refine (calendar_PeriodOf.calls kj5 (wrap64 (t350 + t353)) t367 _ A97.out).mono ?_); rintro e w101 ⟨rfl, hb⟩; refine ⟨_, rfl, ?_⟩; have n0_ := Aside0.mk (below_step (by repeat (first | (with_reducible first | exact HB.out | apply below_alloc | apply pw_below_drewN | apply below_drew1) | exact HB.out)) hb); clear HB; have HB := n0_; clear n0_; (try clear hb); (try clear hb2); (try clear hk); (try clear hi)))
                go_ret
                exact ⟨by first | rfl | (simp [errW_none, errW_some] <;> rfl) | (simp [*, errW_none, errW_some] <;> rfl), by repeat (first | (with_reducible first | exact HB.out | apply below_alloc | apply pw_below_drewN | apply below_drew1) | exact HB.out)⟩
              · rw [if_neg c98] at H
                have c98b0 : (t367 == t349) = false := beq_eq_false_iff_ne.mpr c98
                have c98b1 : (t367 != t349) = true := bne_iff_ne.mpr c98
                obtain rfl := Option.some.inj H
                go_wp2_with (first | ((with_reducible refine gate_callee (f := 19) rfl ?_); refine goesL_ (some 41) rfl rfl Tryd.func19 (by kernel_rfl) rfl #[.int .i64 a1, .int .i64 (wrap64 ((wrap64 (t351 - t350)) + 1))] rfl (by (try simp only [List.map_toArray, List.map_cons, List.map_nil]); first | done | rfl | (simp only [List.length_drop, List.length_take]; rfl)) ?_; (with_reducible refine (priceofficemake_Fold.calls a1 (wrap64 ((wrap64 (t351 - t350)) + 1)) t353 _ A15.out).mono ?_); rintro e w102 ⟨rfl, hb⟩; refine ⟨_, rfl, ?_⟩; have n0_ := Aside0.mk (below_step (by repeat (first | (with_reducible first | exact HB.out | apply below_alloc | apply pw_below_drewN | apply below_drew1) | exact HB.out)) hb); clear HB; have HB := n0_; clear n0_; (try clear hb); (try clear hb2); (try clear hk); (try clear hi)) | ((with_reducible refine gate_callee (f := 29) rfl ?_); refine goesL_ (some 44) rfl rfl Tryd.func29 (by kernel_rfl) rfl #[.int .i64 t349] rfl (by (try simp only [List.map_toArray, List.map_cons, List.map_nil]); first | done | rfl | (simp only [List.length_drop, List.length_take]; rfl)) ?_; (with_reducible refine (calendar_December.calls t349 t354 _ A16.out).mono ?_); rintro e w103 ⟨rfl, hb⟩; refine ⟨_, rfl, ?_⟩; have n0_ := Aside0.mk (below_step (by repeat (first | (with_reducible first | exact HB.out | apply below_alloc | apply pw_below_drewN | apply below_drew1) | exact HB.out)) hb); clear HB; have HB := n0_; clear n0_; (try clear hb); (try clear hb2); (try clear hk); (try clear hi)) | (go_at_call 23; (with_reducible refine (calendar_Month.calls t354 t363 _ A72.out).mono ?_); rintro e w' ⟨rfl, ⟨nd, rfl⟩⟩) | ((with_reducible refine gate_callee (f := 35) rfl ?_); refine goesL_ (some 73) rfl rfl Tryd.func35 (by kernel_rfl) rfl #[.int .i64 (wrap64 (t350 + t353))] rfl (by (try simp only [List.map_toArray, List.map_cons, List.map_nil]); first | done | rfl | (simp only [List.length_drop, List.length_take]; rfl)) ?_; (with_reducible refine (calendar_PeriodOf.calls kj5 (wrap64 (t350 + t353)) t367 _ A97.out).mono ?_); rintro e w104 ⟨rfl, hb⟩; refine ⟨_, rfl, ?_⟩; have n0_ := Aside0.mk (below_step (by repeat (first | (with_reducible first | exact HB.out | apply below_alloc | apply pw_below_drewN | apply below_drew1) | exact HB.out)) hb); clear HB; have HB := n0_; clear n0_; (try clear hb); (try clear hb2); (try clear hk); (try clear hi)))
                go_ret
                exact ⟨by first | rfl | (simp [errW_none, errW_some] <;> rfl) | (simp [*, errW_none, errW_some] <;> rfl), by repeat (first | (with_reducible first | exact HB.out | apply below_alloc | apply pw_below_drewN | apply below_drew1) | exact HB.out)⟩
          · rw [if_neg c71] at H
            have c71b0 : decide (12 ≤ t349) = false := decide_eq_false c71
            clear c71
            replace H := Option.bind_eq_some_iff.mp H
            obtain ⟨t368, A1050, H⟩ := H
            replace H : (if t368 = t349 then (some false) else (some false)) = some r := H
            have A105 := Aside0.mk A1050
            clear A1050
            by_cases c106 : t368 = t349
            · rw [if_pos c106] at H
              have c106b0 : (t368 == t349) = true := beq_iff_eq.mpr c106
              have c106b1 : (t368 != t349) = false := bne_eq_false_iff_eq.mpr c106
              clear c106
              obtain rfl := Option.some.inj H
              go_wp2_with (first | ((with_reducible refine gate_callee (f := 19) rfl ?_); refine goesL_ (some 41) rfl rfl Tryd.func19 (by kernel_rfl) rfl #[.int .i64 a1, .int .i64 (wrap64 ((wrap64 (t351 - t350)) + 1))] rfl (by (try simp only [List.map_toArray, List.map_cons, List.map_nil]); first | done | rfl | (simp only [List.length_drop, List.length_take]; rfl)) ?_; (with_reducible refine (priceofficemake_Fold.calls a1 (wrap64 ((wrap64 (t351 - t350)) + 1)) t353 _ A15.out).mono ?_); rintro e w107 ⟨rfl, hb⟩; refine ⟨_, rfl, ?_⟩; have n0_ := Aside0.mk (below_step (by repeat (first | (with_reducible first | exact HB.out | apply below_alloc | apply pw_below_drewN | apply below_drew1) | exact HB.out)) hb); clear HB; have HB := n0_; clear n0_; (try clear hb); (try clear hb2); (try clear hk); (try clear hi)) | ((with_reducible refine gate_callee (f := 29) rfl ?_); refine goesL_ (some 44) rfl rfl Tryd.func29 (by kernel_rfl) rfl #[.int .i64 t349] rfl (by (try simp only [List.map_toArray, List.map_cons, List.map_nil]); first | done | rfl | (simp only [List.length_drop, List.length_take]; rfl)) ?_; (with_reducible refine (calendar_December.calls t349 t354 _ A16.out).mono ?_); rintro e w108 ⟨rfl, hb⟩; refine ⟨_, rfl, ?_⟩; have n0_ := Aside0.mk (below_step (by repeat (first | (with_reducible first | exact HB.out | apply below_alloc | apply pw_below_drewN | apply below_drew1) | exact HB.out)) hb); clear HB; have HB := n0_; clear n0_; (try clear hb); (try clear hb2); (try clear hk); (try clear hi)) | ((with_reducible refine gate_callee (f := 35) rfl ?_); refine goesL_ (some 73) rfl rfl Tryd.func35 (by kernel_rfl) rfl #[.int .i64 (wrap64 (t350 + t353))] rfl (by (try simp only [List.map_toArray, List.map_cons, List.map_nil]); first | done | rfl | (simp only [List.length_drop, List.length_take]; rfl)) ?_; (with_reducible refine (calendar_PeriodOf.calls kj5 (wrap64 (t350 + t353)) t368 _ A105.out).mono ?_); rintro e w109 ⟨rfl, hb⟩; refine ⟨_, rfl, ?_⟩; have n0_ := Aside0.mk (below_step (by repeat (first | (with_reducible first | exact HB.out | apply below_alloc | apply pw_below_drewN | apply below_drew1) | exact HB.out)) hb); clear HB; have HB := n0_; clear n0_; (try clear hb); (try clear hb2); (try clear hk); (try clear hi)))
              go_ret
              exact ⟨by first | rfl | (simp [errW_none, errW_some] <;> rfl) | (simp [*, errW_none, errW_some] <;> rfl), by repeat (first | (with_reducible first | exact HB.out | apply below_alloc | apply pw_below_drewN | apply below_drew1) | exact HB.out)⟩
            · rw [if_neg c106] at H
              have c106b0 : (t368 == t349) = false := beq_eq_false_iff_ne.mpr c106
              have c106b1 : (t368 != t349) = true := bne_iff_ne.mpr c106
              obtain rfl := Option.some.inj H
              go_wp2_with (first | ((with_reducible refine gate_callee (f := 19) rfl ?_); refine goesL_ (some 41) rfl rfl Tryd.func19 (by kernel_rfl) rfl #[.int .i64 a1, .int .i64 (wrap64 ((wrap64 (t351 - t350)) + 1))] rfl (by (try simp only [List.map_toArray, List.map_cons, List.map_nil]); first | done | rfl | (simp only [List.length_drop, List.length_take]; rfl)) ?_; (with_reducible refine (priceofficemake_Fold.calls a1 (wrap64 ((wrap64 (t351 - t350)) + 1)) t353 _ A15.out).mono ?_); rintro e w110 ⟨rfl, hb⟩; refine ⟨_, rfl, ?_⟩; have n0_ := Aside0.mk (below_step (by repeat (first | (with_reducible first | exact HB.out | apply below_alloc | apply pw_below_drewN | apply below_drew1) | exact HB.out)) hb); clear HB; have HB := n0_; clear n0_; (try clear hb); (try clear hb2); (try clear hk); (try clear hi)) | ((with_reducible refine gate_callee (f := 29) rfl ?_); refine goesL_ (some 44) rfl rfl Tryd.func29 (by kernel_rfl) rfl #[.int .i64 t349] rfl (by (try simp only [List.map_toArray, List.map_cons, List.map_nil]); first | done | rfl | (simp only [List.length_drop, List.length_take]; rfl)) ?_; (with_reducible refine (calendar_December.calls t349 t354 _ A16.out).mono ?_); rintro e w111 ⟨rfl, hb⟩; refine ⟨_, rfl, ?_⟩; have n0_ := Aside0.mk (below_step (by repeat (first | (with_reducible first | exact HB.out | apply below_alloc | apply pw_below_drewN | apply below_drew1) | exact HB.out)) hb); clear HB; have HB := n0_; clear n0_; (try clear hb); (try clear hb2); (try clear hk); (try clear hi)) | ((with_reducible refine gate_callee (f := 35) rfl ?_); refine goesL_ (some 73) rfl rfl Tryd.func35 (by kernel_rfl) rfl #[.int .i64 (wrap64 (t350 + t353))] rfl (by (try simp only [List.map_toArray, List.map_cons, List.map_nil]); first | done | rfl | (simp only [List.length_drop, List.length_take]; rfl)) ?_; (with_reducible refine (calendar_PeriodOf.calls kj5 (wrap64 (t350 + t353)) t368 _ A105.out).mono ?_); rintro e w112 ⟨rfl, hb⟩; refine ⟨_, rfl, ?_⟩; have n0_ := Aside0.mk (below_step (by repeat (first | (with_reducible first | exact HB.out | apply below_alloc | apply pw_below_drewN | apply below_drew1) | exact HB.out)) hb); clear HB; have HB := n0_; clear n0_; (try clear hb); (try clear hb2); (try clear hk); (try clear hi)))
              go_ret
              exact ⟨by first | rfl | (simp [errW_none, errW_some] <;> rfl) | (simp [*, errW_none, errW_some] <;> rfl), by repeat (first | (with_reducible first | exact HB.out | apply below_alloc | apply pw_below_drewN | apply below_drew1) | exact HB.out)⟩

end Go.Proofs.YtpbkdbicdimfhaaDoor.P
