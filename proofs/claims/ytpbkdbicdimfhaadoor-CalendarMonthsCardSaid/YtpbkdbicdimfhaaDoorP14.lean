/- Lean functions with the same answers as the program's Go functions, and for each the proof that the call comes to these answers; written by a program of mine out of the translation, the functions marked 'by hand' by me. -/
import Derived.Test.YtpbkdbicdimfhaaDoorP0
import Derived.Test.YtpbkdbicdimfhaaDoorP6
import Derived.Test.YtpbkdbicdimfhaaDoorP7
import Derived.Test.YtpbkdbicdimfhaaDoorP9
import Derived.Test.YtpbkdbicdimfhaaDoorP13
namespace Go.Proofs.YtpbkdbicdimfhaaDoor.P
open Go.RowKit Go.Proofs.YtpbkdbicdimfhaaDoorW.PrintWords Go.Proofs.YtpbkdbicdimfhaaDoorW.PrintLast Go.Proofs.YtpbkdbicdimfhaaDoorW.PrintMore
attribute [local go_sem] max2_int min2_int max_two min_two max_three min_three max_four min_four   -- for this text's walks alone
set_option linter.unusedVariables false
set_option linter.unusedSimpArgs false

/-! ### priceofficelaw05_CalendarMonths: function 5 -/
def priceofficelaw05_CalendarMonths.l0 : Nat → List Int → Int → Int → Option (Bool)
  | 0, _, _, _ => none
  | k + 1, x8, x9, x10 => if x10 < x9 then (if 0 ≤ x10 then (if x10 < (x8.length : Int) then ((calendar_Month.f (rd x8 x10)).bind fun t183 => ((priceofficeref05_Month.f (rd x8 x10)).bind fun t184 => (if t183 = t184 then ((calendar_FirstDay.f k (rd x8 x10)).bind fun t185 => ((priceofficeref05_FirstDay.f k (rd x8 x10)).bind fun t186 => (if t185 = t186 then ((calendar_LastDay.f k (rd x8 x10)).bind fun t187 => ((priceofficeref05_LastDay.f k (rd x8 x10)).bind fun t188 => (if t187 = t188 then ((calendar_December.f (rd x8 x10)).bind fun t189 => ((priceofficeref05_December.f (rd x8 x10)).bind fun t190 => (if t189 = t190 then (priceofficelaw05_CalendarMonths.l0 k x8 x9 (wrap64 (x10 + 1))) else (some false)))) else (some false)))) else (some false)))) else (some false)))) else (none)) else (none)) else ((priceofficelaw05_awake.f k).bind fun t181 => (some t181))
def priceofficelaw05_CalendarMonths.f (k : Nat) (a0 : Int) : Option (Bool) := (priceofficemake_Fold.f a0 6000).bind fun t177 => ((some (([a0, t177] : List Int) : List Int)).bind fun y178 => (priceofficelaw05_CalendarMonths.l0 k y178 (y178.length : Int) 0))
theorem priceofficelaw05_CalendarMonths.mono_l : ∀ k, (∀ y0 y1 y2, LeO (priceofficelaw05_CalendarMonths.l0 k y0 y1 y2) (priceofficelaw05_CalendarMonths.l0 (k + 1) y0 y1 y2))
  | 0 => fun _ _ _ r h => by simp [priceofficelaw05_CalendarMonths.l0] at h
  | k + 1 => by
    have ih0 := priceofficelaw05_CalendarMonths.mono_l k
    · intro y0 y1 y2
      unfold priceofficelaw05_CalendarMonths.l0
      repeat' first
      | (with_reducible exact ih0 _ _ _)
      | (with_reducible exact calendar_FirstDay.mono _ _)
      | (with_reducible exact calendar_LastDay.mono _ _)
      | (with_reducible exact priceofficelaw05_awake.mono _)
      | (with_reducible exact priceofficeref05_FirstDay.mono _ _)
      | (with_reducible exact priceofficeref05_LastDay.mono _ _)
      | (with_reducible exact LeO.refl _)
      | (with_reducible exact LeO.none _)
      | (with_reducible refine LeO.ite ?_ ?_)
      | (with_reducible refine LeO.bind ?_ (fun _ => ?_))
      | exact ih0 _ _ _
      | exact calendar_FirstDay.mono _ _
      | exact calendar_LastDay.mono _ _
      | exact priceofficelaw05_awake.mono _
      | exact priceofficeref05_FirstDay.mono _ _
      | exact priceofficeref05_LastDay.mono _ _
      | exact LeO.none _
      | refine LeO.ite ?_ ?_
      | refine LeO.bind ?_ (fun _ => ?_)
theorem priceofficelaw05_CalendarMonths.mono : ∀ a0 k, LeO (priceofficelaw05_CalendarMonths.f k a0) (priceofficelaw05_CalendarMonths.f (k + 1) a0) := by
  intro a0 k
  have ih0 := priceofficelaw05_CalendarMonths.mono_l k
  unfold priceofficelaw05_CalendarMonths.f
  repeat' first
      | (with_reducible exact ih0 _ _ _)
      | (with_reducible exact calendar_FirstDay.mono _ _)
      | (with_reducible exact calendar_LastDay.mono _ _)
      | (with_reducible exact priceofficelaw05_awake.mono _)
      | (with_reducible exact priceofficeref05_FirstDay.mono _ _)
      | (with_reducible exact priceofficeref05_LastDay.mono _ _)
      | (with_reducible exact LeO.refl _)
      | (with_reducible exact LeO.none _)
      | (with_reducible refine LeO.ite ?_ ?_)
      | (with_reducible refine LeO.bind ?_ (fun _ => ?_))
      | exact ih0 _ _ _
      | exact calendar_FirstDay.mono _ _
      | exact calendar_LastDay.mono _ _
      | exact priceofficelaw05_awake.mono _
      | exact priceofficeref05_FirstDay.mono _ _
      | exact priceofficeref05_LastDay.mono _ _
      | exact LeO.none _
      | refine LeO.ite ?_ ?_
      | refine LeO.bind ?_ (fun _ => ?_)
set_option maxHeartbeats 8000000 in
set_option maxRecDepth 100000 in
theorem priceofficelaw05_CalendarMonths.calls (k : Nat) (a0 : Int) (r : Bool) (w : World) (hG : GT w) (h : priceofficelaw05_CalendarMonths.f k a0 = some r) :
    Calls Tryd.prog 5 #[.int .i64 a0] w fun e w' => e = .returned (.bool r) ∧ Below w.heap.size w w' := by
  have HG := Aside0.mk hG
  clear hG
  have HB := Aside0.mk (Below.refl w.heap.size w)
  have H : ((priceofficemake_Fold.f a0 6000).bind fun t177 => ((some (([a0, t177] : List Int) : List Int)).bind fun y178 => (priceofficelaw05_CalendarMonths.l0 k y178 (y178.length : Int) 0))) = some r := h
  clear h
  replace H := Option.bind_eq_some_iff.mp H
  obtain ⟨t177, A20, H⟩ := H
  replace H : ((some (([a0, t177] : List Int) : List Int)).bind fun y178 => (priceofficelaw05_CalendarMonths.l0 k y178 (y178.length : Int) 0)) = some r := H
  have A2 := Aside0.mk A20
  clear A20
  obtain ⟨y178, hy178⟩ : ∃ y_ : List Int, y_ = (([a0, t177] : List Int)) := ⟨_, rfl⟩
  replace H : (priceofficelaw05_CalendarMonths.l0 k y178 (y178.length : Int) 0) = some r := by first | (rw [hy178]; with_reducible exact H) | (have H2_ := (Option.bind_some _ _).symm.trans H; rw [hy178]; with_reducible exact H2_) | (have H2_ := (Option.bind_some _ _).symm.trans H; with_reducible exact H2_) | with_reducible exact H | (rw [hy178]; exact H) | exact H
  have Ny178 := Aside0.mk hy178
  clear hy178
  have H' := Aside0.mk H
  clear H
  go_enter Tryd.func5, Tryd.ntmps5
  go_wp2_with (first | ((with_reducible refine gate_callee (f := 19) rfl ?_); refine goesL_ (some 7) rfl rfl Tryd.func19 (by kernel_rfl) rfl #[.int .i64 a0, .int .i64 6000] rfl (by (try simp only [List.map_toArray, List.map_cons, List.map_nil]); first | done | rfl | (simp only [List.length_drop, List.length_take]; rfl)) ?_; (with_reducible refine (priceofficemake_Fold.calls a0 6000 t177 _ A2.out).mono ?_); rintro e w3 ⟨rfl, hb⟩; refine ⟨_, rfl, ?_⟩; have n0_ := Aside0.mk (below_step (by repeat (first | (with_reducible first | exact HB.out | apply below_alloc | apply pw_below_drewN | apply below_drew1) | exact HB.out)) hb); clear HB; have HB := n0_; clear n0_; (try clear hb); (try clear hb2); (try clear hk); (try clear hi)) | ((with_reducible refine gate_dst (N := 8) rfl ?_); refine Kd.R_lit (Kd.int .i64) _ 3 ?hg (N := 8) ?hd (xs := ([a0, t177] : List Int)) (inner := [.int .i64 a0, .int .i64 t177]) (ok := fun _ => True) (okp := fun _ => True) ?hr ?hp (fun _ hk => hk) trivial (Below.refl _ _) (Nat.le_refl _) (by simp) ?_; (case hd => rfl); (case hg => rfl); (case hr => first | (go_simp; done) | (go_simp; rfl)); (case hp => exact (Reps.one (show Kd.M (Kd.int .i64) _ _ _ a0 [.int .i64 a0] from rfl) (Reps.one (show Kd.M (Kd.int .i64) _ _ _ t177 [.int .i64 t177] from rfl) (Reps.none _ _)))); intro v179 w4 ho5 hb hg_ hnew_; clear hg_ hnew_; (first | rw [← Ny178.out] at ho5 | (simp only [Int.reduceToNat] at ho5; rw [← Ny178.out] at ho5)); have n0_ := Aside0.mk (Kd.R_lower ho5 (below_size (by repeat (first | (with_reducible first | exact HB.out | apply below_alloc | apply pw_below_drewN | apply below_drew1) | exact HB.out)))); have n1_ := Aside0.mk (below_step (by repeat (first | (with_reducible first | exact HB.out | apply below_alloc | apply pw_below_drewN | apply below_drew1) | exact HB.out)) hb); clear HB; have HO180 := n0_; have HB := n1_; clear n0_ n1_; clear hb ho5; obtain ⟨Ao6, co6, eo6⟩ := Kd.R_slice HO180.out; subst eo6))
  go_loopg [10] k (fun kq v10 w' => ∃ (x10_1 : Int), v10 = .int .i64 x10_1 ∧ Aside0 (priceofficelaw05_CalendarMonths.l0 kq y178 (y178.length : Int) x10_1 = some r) ∧ Aside0 (kq ≤ k) ∧ Aside0 (Kd.R (Kd.int .i64) 3 w' w.heap.size (fun _ => True) (.slice Ao6 y178.length co6) y178) ∧ Aside0 (Below w.heap.size w w'))
  case atStart => exact ⟨(0), (by first | rfl | (simp; done) | (simp [*]; done)), H', ⟨Nat.le_refl _⟩, ⟨by (with_reducible repeat (first | apply Kd.R_alloc | apply Kd.R_drewN | apply Kd.R_drew)); exact HO180.out⟩, ⟨by repeat (first | (with_reducible first | exact HB.out | apply below_alloc | apply pw_below_drewN | apply below_drew1) | exact HB.out)⟩⟩
  case round =>
    clear H'
    try clear c1
    try clear p2
    try clear c5
    obtain ⟨x10_1, rfl, HA, HK1, HO_8, HB⟩ := hrel
    cases gk with
    | zero => exact absurd HA.out (by simp [priceofficelaw05_CalendarMonths.l0])
    | succ k1 =>
      have H := HA.out
      clear HA
      simp only [priceofficelaw05_CalendarMonths.l0] at H
      by_cases c7 : x10_1 < (y178.length : Int)
      · rw [if_pos c7] at H
        have c7b0 : decide (x10_1 < (y178.length : Int)) = true := decide_eq_true c7
        clear c7
        by_cases c8 : 0 ≤ x10_1
        · rw [if_pos c8] at H
          have c8b0 : decide (0 ≤ x10_1) = true := decide_eq_true c8
          clear c8
          by_cases c9 : x10_1 < (y178.length : Int)
          · rw [if_pos c9] at H
            have c9b0 : decide (x10_1 < (y178.length : Int)) = true := decide_eq_true c9
            clear c9
            replace H := Option.bind_eq_some_iff.mp H
            obtain ⟨t183, A100, H⟩ := H
            replace H : ((priceofficeref05_Month.f (rd y178 x10_1)).bind fun t184 => (if t183 = t184 then ((calendar_FirstDay.f k1 (rd y178 x10_1)).bind fun t185 => ((priceofficeref05_FirstDay.f k1 (rd y178 x10_1)).bind fun t186 => (if t185 = t186 then ((calendar_LastDay.f k1 (rd y178 x10_1)).bind fun t187 => ((priceofficeref05_LastDay.f k1 (rd y178 x10_1)).bind fun t188 => (if t187 = t188 then ((calendar_December.f (rd y178 x10_1)).bind fun t189 => ((priceofficeref05_December.f (rd y178 x10_1)).bind fun t190 => (if t189 = t190 then (priceofficelaw05_CalendarMonths.l0 k1 y178 (y178.length : Int) (wrap64 (x10_1 + 1))) else (some false)))) else (some false)))) else (some false)))) else (some false))) = some r := H
            have A10 := Aside0.mk A100
            clear A100
            replace H := Option.bind_eq_some_iff.mp H
            obtain ⟨t184, A110, H⟩ := H
            replace H : (if t183 = t184 then ((calendar_FirstDay.f k1 (rd y178 x10_1)).bind fun t185 => ((priceofficeref05_FirstDay.f k1 (rd y178 x10_1)).bind fun t186 => (if t185 = t186 then ((calendar_LastDay.f k1 (rd y178 x10_1)).bind fun t187 => ((priceofficeref05_LastDay.f k1 (rd y178 x10_1)).bind fun t188 => (if t187 = t188 then ((calendar_December.f (rd y178 x10_1)).bind fun t189 => ((priceofficeref05_December.f (rd y178 x10_1)).bind fun t190 => (if t189 = t190 then (priceofficelaw05_CalendarMonths.l0 k1 y178 (y178.length : Int) (wrap64 (x10_1 + 1))) else (some false)))) else (some false)))) else (some false)))) else (some false)) = some r := H
            have A11 := Aside0.mk A110
            clear A110
            by_cases c12 : t183 = t184
            · rw [if_pos c12] at H
              have c12b0 : (t183 == t184) = true := beq_iff_eq.mpr c12
              have c12b1 : (t183 != t184) = false := bne_eq_false_iff_eq.mpr c12
              clear c12
              replace H := Option.bind_eq_some_iff.mp H
              obtain ⟨t185, A130, H⟩ := H
              replace H : ((priceofficeref05_FirstDay.f k1 (rd y178 x10_1)).bind fun t186 => (if t185 = t186 then ((calendar_LastDay.f k1 (rd y178 x10_1)).bind fun t187 => ((priceofficeref05_LastDay.f k1 (rd y178 x10_1)).bind fun t188 => (if t187 = t188 then ((calendar_December.f (rd y178 x10_1)).bind fun t189 => ((priceofficeref05_December.f (rd y178 x10_1)).bind fun t190 => (if t189 = t190 then (priceofficelaw05_CalendarMonths.l0 k1 y178 (y178.length : Int) (wrap64 (x10_1 + 1))) else (some false)))) else (some false)))) else (some false))) = some r := H
              have A13 := Aside0.mk A130
              clear A130
              replace H := Option.bind_eq_some_iff.mp H
              obtain ⟨t186, A140, H⟩ := H
              replace H : (if t185 = t186 then ((calendar_LastDay.f k1 (rd y178 x10_1)).bind fun t187 => ((priceofficeref05_LastDay.f k1 (rd y178 x10_1)).bind fun t188 => (if t187 = t188 then ((calendar_December.f (rd y178 x10_1)).bind fun t189 => ((priceofficeref05_December.f (rd y178 x10_1)).bind fun t190 => (if t189 = t190 then (priceofficelaw05_CalendarMonths.l0 k1 y178 (y178.length : Int) (wrap64 (x10_1 + 1))) else (some false)))) else (some false)))) else (some false)) = some r := H
              have A14 := Aside0.mk A140
              clear A140
              by_cases c15 : t185 = t186
              · rw [if_pos c15] at H
                have c15b0 : (t185 == t186) = true := beq_iff_eq.mpr c15
                have c15b1 : (t185 != t186) = false := bne_eq_false_iff_eq.mpr c15
                clear c15
                replace H := Option.bind_eq_some_iff.mp H
                obtain ⟨t187, A160, H⟩ := H
                replace H : ((priceofficeref05_LastDay.f k1 (rd y178 x10_1)).bind fun t188 => (if t187 = t188 then ((calendar_December.f (rd y178 x10_1)).bind fun t189 => ((priceofficeref05_December.f (rd y178 x10_1)).bind fun t190 => (if t189 = t190 then (priceofficelaw05_CalendarMonths.l0 k1 y178 (y178.length : Int) (wrap64 (x10_1 + 1))) else (some false)))) else (some false))) = some r := H
                have A16 := Aside0.mk A160
                clear A160
                replace H := Option.bind_eq_some_iff.mp H
                obtain ⟨t188, A170, H⟩ := H
                replace H : (if t187 = t188 then ((calendar_December.f (rd y178 x10_1)).bind fun t189 => ((priceofficeref05_December.f (rd y178 x10_1)).bind fun t190 => (if t189 = t190 then (priceofficelaw05_CalendarMonths.l0 k1 y178 (y178.length : Int) (wrap64 (x10_1 + 1))) else (some false)))) else (some false)) = some r := H
                have A17 := Aside0.mk A170
                clear A170
                by_cases c18 : t187 = t188
                · rw [if_pos c18] at H
                  have c18b0 : (t187 == t188) = true := beq_iff_eq.mpr c18
                  have c18b1 : (t187 != t188) = false := bne_eq_false_iff_eq.mpr c18
                  clear c18
                  replace H := Option.bind_eq_some_iff.mp H
                  obtain ⟨t189, A190, H⟩ := H
                  replace H : ((priceofficeref05_December.f (rd y178 x10_1)).bind fun t190 => (if t189 = t190 then (priceofficelaw05_CalendarMonths.l0 k1 y178 (y178.length : Int) (wrap64 (x10_1 + 1))) else (some false))) = some r := H
                  have A19 := Aside0.mk A190
                  clear A190
                  replace H := Option.bind_eq_some_iff.mp H
                  obtain ⟨t190, A200, H⟩ := H
                  replace H : (if t189 = t190 then (priceofficelaw05_CalendarMonths.l0 k1 y178 (y178.length : Int) (wrap64 (x10_1 + 1))) else (some false)) = some r := H
                  have A20 := Aside0.mk A200
                  clear A200
                  by_cases c21 : t189 = t190
                  · rw [if_pos c21] at H
                    have c21b0 : (t189 == t190) = true := beq_iff_eq.mpr c21
                    have c21b1 : (t189 != t190) = false := bne_eq_false_iff_eq.mpr c21
                    clear c21
                    have H' := Aside0.mk H
                    clear H
                    have p182 : 0 ≤ (x10_1 : Int) := of_decide_eq_true (by first | (with_reducible assumption) | assumption)
                    have q182 : x10_1 < (y178.length : Int) := of_decide_eq_true (by first | (with_reducible assumption) | assumption)
                    obtain ⟨ad182, e182, hx182_0⟩ := Kd.at_int (Kd.R_reads' HO_8.out).2.2 x10_1 p182 q182
                    cases e182
                    replace p182 := eq_true p182
                    replace q182 := eq_true q182
                    go_wp2_with (first | ((with_reducible refine gate_callee (f := 23) rfl ?_); refine goesL_ (some 15) rfl rfl Tryd.func23 (by kernel_rfl) rfl #[.int .i64 (rd y178 x10_1)] rfl (by (try simp only [List.map_toArray, List.map_cons, List.map_nil]); first | done | rfl | (simp only [List.length_drop, List.length_take]; rfl)) ?_; (with_reducible refine (calendar_Month.calls (rd y178 x10_1) t183 _ A10.out).mono ?_); rintro e w' ⟨rfl, ⟨nd, rfl⟩⟩; refine ⟨_, rfl, ?_⟩) | ((with_reducible refine gate_callee (f := 24) rfl ?_); refine goesL_ (some 17) rfl rfl Tryd.func24 (by kernel_rfl) rfl #[.int .i64 (rd y178 x10_1)] rfl (by (try simp only [List.map_toArray, List.map_cons, List.map_nil]); first | done | rfl | (simp only [List.length_drop, List.length_take]; rfl)) ?_; (with_reducible refine (priceofficeref05_Month.calls (rd y178 x10_1) t184 _ A11.out).mono ?_); rintro e w' ⟨rfl, ⟨nd, rfl⟩⟩; refine ⟨_, rfl, ?_⟩) | (go_at_call 25; (with_reducible refine (calendar_FirstDay.calls k1 (rd y178 x10_1) t185 _ A13.out).mono ?_); rintro e w22 ⟨rfl, hb⟩; have n0_ := Aside0.mk (Kd.R_below (by (with_reducible repeat (first | apply Kd.R_alloc | apply Kd.R_drewN | apply Kd.R_drew)); exact HO_8.out) hb); have n1_ := Aside0.mk (below_step (by repeat (first | (with_reducible first | exact HB.out | apply below_alloc | apply pw_below_drewN | apply below_drew1) | exact HB.out)) hb); clear HO_8; clear HB; have HO_8 := n0_; have HB := n1_; clear n0_ n1_; (try clear hb); (try clear hb2); (try clear hk); (try clear hi)) | (go_at_call 26; (with_reducible refine (priceofficeref05_FirstDay.calls k1 (rd y178 x10_1) t186 _ A14.out).mono ?_); rintro e w' ⟨rfl, ⟨nd, rfl⟩⟩) | (go_at_call 27; (with_reducible refine (calendar_LastDay.calls k1 (rd y178 x10_1) t187 _ A16.out).mono ?_); rintro e w23 ⟨rfl, hb⟩; have n0_ := Aside0.mk (Kd.R_below (by (with_reducible repeat (first | apply Kd.R_alloc | apply Kd.R_drewN | apply Kd.R_drew)); exact HO_8.out) hb); have n1_ := Aside0.mk (below_step (by repeat (first | (with_reducible first | exact HB.out | apply below_alloc | apply pw_below_drewN | apply below_drew1) | exact HB.out)) hb); clear HO_8; clear HB; have HO_8 := n0_; have HB := n1_; clear n0_ n1_; (try clear hb); (try clear hb2); (try clear hk); (try clear hi)) | (go_at_call 28; (with_reducible refine (priceofficeref05_LastDay.calls k1 (rd y178 x10_1) t188 _ A17.out).mono ?_); rintro e w' ⟨rfl, ⟨nd, rfl⟩⟩) | (go_at_call 29; (with_reducible refine (calendar_December.calls (rd y178 x10_1) t189 _ A19.out).mono ?_); rintro e w24 ⟨rfl, hb⟩; have n0_ := Aside0.mk (Kd.R_below (by (with_reducible repeat (first | apply Kd.R_alloc | apply Kd.R_drewN | apply Kd.R_drew)); exact HO_8.out) hb); have n1_ := Aside0.mk (below_step (by repeat (first | (with_reducible first | exact HB.out | apply below_alloc | apply pw_below_drewN | apply below_drew1) | exact HB.out)) hb); clear HO_8; clear HB; have HO_8 := n0_; have HB := n1_; clear n0_ n1_; (try clear hb); (try clear hb2); (try clear hk); (try clear hi)) | (go_at_call 30; (with_reducible refine (priceofficeref05_December.calls (rd y178 x10_1) t190 _ A20.out).mono ?_); rintro e w' ⟨rfl, ⟨nd, rfl⟩⟩))
                    go_roundg k1
                    case measure => have := HK1.out; omega
                    case rel => exact ⟨(wrap64 (x10_1 + 1)), (by first | rfl | (simp; done) | (simp [*]; done)), H', ⟨by have := HK1.out; omega⟩, ⟨by (with_reducible repeat (first | apply Kd.R_alloc | apply Kd.R_drewN | apply Kd.R_drew)); exact HO_8.out⟩, ⟨by repeat (first | (with_reducible first | exact HB.out | apply below_alloc | apply pw_below_drewN | apply below_drew1) | exact HB.out)⟩⟩
                  · rw [if_neg c21] at H
                    have c21b0 : (t189 == t190) = false := beq_eq_false_iff_ne.mpr c21
                    have c21b1 : (t189 != t190) = true := bne_iff_ne.mpr c21
                    obtain rfl := Option.some.inj H
                    have p182 : 0 ≤ (x10_1 : Int) := of_decide_eq_true (by first | (with_reducible assumption) | assumption)
                    have q182 : x10_1 < (y178.length : Int) := of_decide_eq_true (by first | (with_reducible assumption) | assumption)
                    obtain ⟨ad182, e182, hx182_0⟩ := Kd.at_int (Kd.R_reads' HO_8.out).2.2 x10_1 p182 q182
                    cases e182
                    replace p182 := eq_true p182
                    replace q182 := eq_true q182
                    go_wp2_with (first | ((with_reducible refine gate_callee (f := 23) rfl ?_); refine goesL_ (some 15) rfl rfl Tryd.func23 (by kernel_rfl) rfl #[.int .i64 (rd y178 x10_1)] rfl (by (try simp only [List.map_toArray, List.map_cons, List.map_nil]); first | done | rfl | (simp only [List.length_drop, List.length_take]; rfl)) ?_; (with_reducible refine (calendar_Month.calls (rd y178 x10_1) t183 _ A10.out).mono ?_); rintro e w' ⟨rfl, ⟨nd, rfl⟩⟩; refine ⟨_, rfl, ?_⟩) | ((with_reducible refine gate_callee (f := 24) rfl ?_); refine goesL_ (some 17) rfl rfl Tryd.func24 (by kernel_rfl) rfl #[.int .i64 (rd y178 x10_1)] rfl (by (try simp only [List.map_toArray, List.map_cons, List.map_nil]); first | done | rfl | (simp only [List.length_drop, List.length_take]; rfl)) ?_; (with_reducible refine (priceofficeref05_Month.calls (rd y178 x10_1) t184 _ A11.out).mono ?_); rintro e w' ⟨rfl, ⟨nd, rfl⟩⟩; refine ⟨_, rfl, ?_⟩) | (go_at_call 25; (with_reducible refine (calendar_FirstDay.calls k1 (rd y178 x10_1) t185 _ A13.out).mono ?_); rintro e w25 ⟨rfl, hb⟩; have n0_ := Aside0.mk (Kd.R_below (by (with_reducible repeat (first | apply Kd.R_alloc | apply Kd.R_drewN | apply Kd.R_drew)); exact HO_8.out) hb); have n1_ := Aside0.mk (below_step (by repeat (first | (with_reducible first | exact HB.out | apply below_alloc | apply pw_below_drewN | apply below_drew1) | exact HB.out)) hb); clear HO_8; clear HB; have HO_8 := n0_; have HB := n1_; clear n0_ n1_; (try clear hb); (try clear hb2); (try clear hk); (try clear hi)) | (go_at_call 26; (with_reducible refine (priceofficeref05_FirstDay.calls k1 (rd y178 x10_1) t186 _ A14.out).mono ?_); rintro e w' ⟨rfl, ⟨nd, rfl⟩⟩) | (go_at_call 27; (with_reducible refine (calendar_LastDay.calls k1 (rd y178 x10_1) t187 _ A16.out).mono ?_); rintro e w26 ⟨rfl, hb⟩; have n0_ := Aside0.mk (Kd.R_below (by (with_reducible repeat (first | apply Kd.R_alloc | apply Kd.R_drewN | apply Kd.R_drew)); exact HO_8.out) hb); have n1_ := Aside0.mk (below_step (by repeat (first | (with_reducible first | exact HB.out | apply below_alloc | apply pw_below_drewN | apply below_drew1) | exact HB.out)) hb); clear HO_8; clear HB; have HO_8 := n0_; have HB := n1_; clear n0_ n1_; (try clear hb); (try clear hb2); (try clear hk); (try clear hi)) | (go_at_call 28; (with_reducible refine (priceofficeref05_LastDay.calls k1 (rd y178 x10_1) t188 _ A17.out).mono ?_); rintro e w' ⟨rfl, ⟨nd, rfl⟩⟩) | (go_at_call 29; (with_reducible refine (calendar_December.calls (rd y178 x10_1) t189 _ A19.out).mono ?_); rintro e w27 ⟨rfl, hb⟩; have n0_ := Aside0.mk (Kd.R_below (by (with_reducible repeat (first | apply Kd.R_alloc | apply Kd.R_drewN | apply Kd.R_drew)); exact HO_8.out) hb); have n1_ := Aside0.mk (below_step (by repeat (first | (with_reducible first | exact HB.out | apply below_alloc | apply pw_below_drewN | apply below_drew1) | exact HB.out)) hb); clear HO_8; clear HB; have HO_8 := n0_; have HB := n1_; clear n0_ n1_; (try clear hb); (try clear hb2); (try clear hk); (try clear hi)) | (go_at_call 30; (with_reducible refine (priceofficeref05_December.calls (rd y178 x10_1) t190 _ A20.out).mono ?_); rintro e w' ⟨rfl, ⟨nd, rfl⟩⟩))
                    go_ret
                    exact ⟨by first | rfl | (simp [errW_none, errW_some] <;> rfl) | (simp [*, errW_none, errW_some] <;> rfl), by repeat (first | (with_reducible first | exact HB.out | apply below_alloc | apply pw_below_drewN | apply below_drew1) | exact HB.out)⟩
                · rw [if_neg c18] at H
                  have c18b0 : (t187 == t188) = false := beq_eq_false_iff_ne.mpr c18
                  have c18b1 : (t187 != t188) = true := bne_iff_ne.mpr c18
                  obtain rfl := Option.some.inj H
                  have p182 : 0 ≤ (x10_1 : Int) := of_decide_eq_true (by first | (with_reducible assumption) | assumption)
                  have q182 : x10_1 < (y178.length : Int) := of_decide_eq_true (by first | (with_reducible assumption) | assumption)
                  obtain ⟨ad182, e182, hx182_0⟩ := Kd.at_int (Kd.R_reads' HO_8.out).2.2 x10_1 p182 q182
                  cases e182
                  replace p182 := eq_true p182
                  replace q182 := eq_true q182
                  go_wp2_with (first | ((with_reducible refine gate_callee (f := 23) rfl ?_); refine goesL_ (some 15) rfl rfl Tryd.func23 (by kernel_rfl) rfl #[.int .i64 (rd y178 x10_1)] rfl (by (try simp only [List.map_toArray, List.map_cons, List.map_nil]); first | done | rfl | (simp only [List.length_drop, List.length_take]; rfl)) ?_; (with_reducible refine (calendar_Month.calls (rd y178 x10_1) t183 _ A10.out).mono ?_); rintro e w' ⟨rfl, ⟨nd, rfl⟩⟩; refine ⟨_, rfl, ?_⟩) | ((with_reducible refine gate_callee (f := 24) rfl ?_); refine goesL_ (some 17) rfl rfl Tryd.func24 (by kernel_rfl) rfl #[.int .i64 (rd y178 x10_1)] rfl (by (try simp only [List.map_toArray, List.map_cons, List.map_nil]); first | done | rfl | (simp only [List.length_drop, List.length_take]; rfl)) ?_; (with_reducible refine (priceofficeref05_Month.calls (rd y178 x10_1) t184 _ A11.out).mono ?_); rintro e w' ⟨rfl, ⟨nd, rfl⟩⟩; refine ⟨_, rfl, ?_⟩) | (go_at_call 25; (with_reducible refine (calendar_FirstDay.calls k1 (rd y178 x10_1) t185 _ A13.out).mono ?_); rintro e w28 ⟨rfl, hb⟩; have n0_ := Aside0.mk (Kd.R_below (by (with_reducible repeat (first | apply Kd.R_alloc | apply Kd.R_drewN | apply Kd.R_drew)); exact HO_8.out) hb); have n1_ := Aside0.mk (below_step (by repeat (first | (with_reducible first | exact HB.out | apply below_alloc | apply pw_below_drewN | apply below_drew1) | exact HB.out)) hb); clear HO_8; clear HB; have HO_8 := n0_; have HB := n1_; clear n0_ n1_; (try clear hb); (try clear hb2); (try clear hk); (try clear hi)) | (go_at_call 26; (with_reducible refine (priceofficeref05_FirstDay.calls k1 (rd y178 x10_1) t186 _ A14.out).mono ?_); rintro e w' ⟨rfl, ⟨nd, rfl⟩⟩) | (go_at_call 27; (with_reducible refine (calendar_LastDay.calls k1 (rd y178 x10_1) t187 _ A16.out).mono ?_); rintro e w29 ⟨rfl, hb⟩; have n0_ := Aside0.mk (Kd.R_below (by (with_reducible repeat (first | apply Kd.R_alloc | apply Kd.R_drewN | apply Kd.R_drew)); exact HO_8.out) hb); have n1_ := Aside0.mk (below_step (by repeat (first | (with_reducible first | exact HB.out | apply below_alloc | apply pw_below_drewN | apply below_drew1) | exact HB.out)) hb); clear HO_8; clear HB; have HO_8 := n0_; have HB := n1_; clear n0_ n1_; (try clear hb); (try clear hb2); (try clear hk); (try clear hi)) | (go_at_call 28; (with_reducible refine (priceofficeref05_LastDay.calls k1 (rd y178 x10_1) t188 _ A17.out).mono ?_); rintro e w' ⟨rfl, ⟨nd, rfl⟩⟩))
                  go_ret
                  exact ⟨by first | rfl | (simp [errW_none, errW_some] <;> rfl) | (simp [*, errW_none, errW_some] <;> rfl), by repeat (first | (with_reducible first | exact HB.out | apply below_alloc | apply pw_below_drewN | apply below_drew1) | exact HB.out)⟩
              · rw [if_neg c15] at H
                have c15b0 : (t185 == t186) = false := beq_eq_false_iff_ne.mpr c15
                have c15b1 : (t185 != t186) = true := bne_iff_ne.mpr c15
                obtain rfl := Option.some.inj H
                have p182 : 0 ≤ (x10_1 : Int) := of_decide_eq_true (by first | (with_reducible assumption) | assumption)
                have q182 : x10_1 < (y178.length : Int) := of_decide_eq_true (by first | (with_reducible assumption) | assumption)
                obtain ⟨ad182, e182, hx182_0⟩ := Kd.at_int (Kd.R_reads' HO_8.out).2.2 x10_1 p182 q182
                cases e182
                replace p182 := eq_true p182
                replace q182 := eq_true q182
                go_wp2_with (first | ((with_reducible refine gate_callee (f := 23) rfl ?_); refine goesL_ (some 15) rfl rfl Tryd.func23 (by kernel_rfl) rfl #[.int .i64 (rd y178 x10_1)] rfl (by (try simp only [List.map_toArray, List.map_cons, List.map_nil]); first | done | rfl | (simp only [List.length_drop, List.length_take]; rfl)) ?_; (with_reducible refine (calendar_Month.calls (rd y178 x10_1) t183 _ A10.out).mono ?_); rintro e w' ⟨rfl, ⟨nd, rfl⟩⟩; refine ⟨_, rfl, ?_⟩) | ((with_reducible refine gate_callee (f := 24) rfl ?_); refine goesL_ (some 17) rfl rfl Tryd.func24 (by kernel_rfl) rfl #[.int .i64 (rd y178 x10_1)] rfl (by (try simp only [List.map_toArray, List.map_cons, List.map_nil]); first | done | rfl | (simp only [List.length_drop, List.length_take]; rfl)) ?_; (with_reducible refine (priceofficeref05_Month.calls (rd y178 x10_1) t184 _ A11.out).mono ?_); rintro e w' ⟨rfl, ⟨nd, rfl⟩⟩; refine ⟨_, rfl, ?_⟩) | (go_at_call 25; (with_reducible refine (calendar_FirstDay.calls k1 (rd y178 x10_1) t185 _ A13.out).mono ?_); rintro e w30 ⟨rfl, hb⟩; have n0_ := Aside0.mk (Kd.R_below (by (with_reducible repeat (first | apply Kd.R_alloc | apply Kd.R_drewN | apply Kd.R_drew)); exact HO_8.out) hb); have n1_ := Aside0.mk (below_step (by repeat (first | (with_reducible first | exact HB.out | apply below_alloc | apply pw_below_drewN | apply below_drew1) | exact HB.out)) hb); clear HO_8; clear HB; have HO_8 := n0_; have HB := n1_; clear n0_ n1_; (try clear hb); (try clear hb2); (try clear hk); (try clear hi)) | (go_at_call 26; (with_reducible refine (priceofficeref05_FirstDay.calls k1 (rd y178 x10_1) t186 _ A14.out).mono ?_); rintro e w' ⟨rfl, ⟨nd, rfl⟩⟩))
                go_ret
                exact ⟨by first | rfl | (simp [errW_none, errW_some] <;> rfl) | (simp [*, errW_none, errW_some] <;> rfl), by repeat (first | (with_reducible first | exact HB.out | apply below_alloc | apply pw_below_drewN | apply below_drew1) | exact HB.out)⟩
            · rw [if_neg c12] at H
              have c12b0 : (t183 == t184) = false := beq_eq_false_iff_ne.mpr c12
              have c12b1 : (t183 != t184) = true := bne_iff_ne.mpr c12
              obtain rfl := Option.some.inj H
              have p182 : 0 ≤ (x10_1 : Int) := of_decide_eq_true (by first | (with_reducible assumption) | assumption)
              have q182 : x10_1 < (y178.length : Int) := of_decide_eq_true (by first | (with_reducible assumption) | assumption)
              obtain ⟨ad182, e182, hx182_0⟩ := Kd.at_int (Kd.R_reads' HO_8.out).2.2 x10_1 p182 q182
              cases e182
              replace p182 := eq_true p182
              replace q182 := eq_true q182
              go_wp2_with (first | ((with_reducible refine gate_callee (f := 23) rfl ?_); refine goesL_ (some 15) rfl rfl Tryd.func23 (by kernel_rfl) rfl #[.int .i64 (rd y178 x10_1)] rfl (by (try simp only [List.map_toArray, List.map_cons, List.map_nil]); first | done | rfl | (simp only [List.length_drop, List.length_take]; rfl)) ?_; (with_reducible refine (calendar_Month.calls (rd y178 x10_1) t183 _ A10.out).mono ?_); rintro e w' ⟨rfl, ⟨nd, rfl⟩⟩; refine ⟨_, rfl, ?_⟩) | ((with_reducible refine gate_callee (f := 24) rfl ?_); refine goesL_ (some 17) rfl rfl Tryd.func24 (by kernel_rfl) rfl #[.int .i64 (rd y178 x10_1)] rfl (by (try simp only [List.map_toArray, List.map_cons, List.map_nil]); first | done | rfl | (simp only [List.length_drop, List.length_take]; rfl)) ?_; (with_reducible refine (priceofficeref05_Month.calls (rd y178 x10_1) t184 _ A11.out).mono ?_); rintro e w' ⟨rfl, ⟨nd, rfl⟩⟩; refine ⟨_, rfl, ?_⟩))
              go_ret
              exact ⟨by first | rfl | (simp [errW_none, errW_some] <;> rfl) | (simp [*, errW_none, errW_some] <;> rfl), by repeat (first | (with_reducible first | exact HB.out | apply below_alloc | apply pw_below_drewN | apply below_drew1) | exact HB.out)⟩
          · rw [if_neg c9] at H
            exact absurd H (by simp)
        · rw [if_neg c8] at H
          exact absurd H (by simp)
      · rw [if_neg c7] at H
        have c7b0 : decide (x10_1 < (y178.length : Int)) = false := decide_eq_false c7
        clear c7
        replace H := Option.bind_eq_some_iff.mp H
        obtain ⟨t181, A310, H⟩ := H
        replace H : (some t181) = some r := H
        have A31 := Aside0.mk A310
        clear A310
        obtain rfl := Option.some.inj H
        go_wp2_with (first | ((with_reducible refine gate_callee (f := 18) rfl ?_); refine goesL_ (some 41) rfl rfl Tryd.func18 (by kernel_rfl) rfl #[] rfl (by (try simp only [List.map_toArray, List.map_cons, List.map_nil]); first | done | rfl | (simp only [List.length_drop, List.length_take]; rfl)) ?_; (with_reducible refine (priceofficelaw05_awake.calls k1  t181 _ ?side1 A31.out).mono ?_); (case side1 => first | exact HG.out | exact GT.below HG.out (by repeat (first | (with_reducible first | exact HB.out | apply below_alloc | apply pw_below_drewN | apply below_drew1) | exact HB.out))); rintro e w32 ⟨rfl, hb⟩; refine ⟨_, rfl, ?_⟩; have n0_ := Aside0.mk (Kd.R_below (by (with_reducible repeat (first | apply Kd.R_alloc | apply Kd.R_drewN | apply Kd.R_drew)); exact HO_8.out) hb); have n1_ := Aside0.mk (below_step (by repeat (first | (with_reducible first | exact HB.out | apply below_alloc | apply pw_below_drewN | apply below_drew1) | exact HB.out)) hb); clear HO_8; clear HB; have HO_8 := n0_; have HB := n1_; clear n0_ n1_; (try clear hb); (try clear hb2); (try clear hk); (try clear hi)))
        go_ret
        exact ⟨by first | rfl | (simp [errW_none, errW_some] <;> rfl) | (simp [*, errW_none, errW_some] <;> rfl), by repeat (first | (with_reducible first | exact HB.out | apply below_alloc | apply pw_below_drewN | apply below_drew1) | exact HB.out)⟩

end Go.Proofs.YtpbkdbicdimfhaaDoor.P
