/- Lean functions with the same answers as the program's Go functions, and for each the proof that the call comes to these answers; written by a program of mine out of the translation, the functions marked 'by hand' by me. -/
import Derived.Test.YtpbkdbicdimfhaaDoorP0
import Derived.Test.YtpbkdbicdimfhaaDoorP7
import Derived.Test.YtpbkdbicdimfhaaDoorP9
import Derived.Test.YtpbkdbicdimfhaaDoorP18
namespace Go.Proofs.YtpbkdbicdimfhaaDoor.P
open Go.RowKit Go.Proofs.YtpbkdbicdimfhaaDoorW.PrintWords Go.Proofs.YtpbkdbicdimfhaaDoorW.PrintLast Go.Proofs.YtpbkdbicdimfhaaDoorW.PrintMore
attribute [local go_sem] max2_int min2_int max_two min_two max_three min_three max_four min_four   -- for this text's walks alone
set_option linter.unusedVariables false
set_option linter.unusedSimpArgs false

/-! ### priceofficelaw05_CalendarLimits: function 8 -/
def priceofficelaw05_CalendarLimits.l0 : Nat → Bool → Int → Int → List Int → Int → Int → Option (Bool)
  | 0, _, _, _, _, _, _ => none
  | k + 1, x2, x7, x8, x9, x27, x28 => if x28 < x27 then (if 0 ≤ x28 then (if x28 < (x9.length : Int) then (priceofficelaw05_CalendarLimits.l0 k x2 x7 x8 (x9.set (x28 : Int).toNat (wrap64 (x7 + x28))) x27 (wrap64 (x28 + 1))) else (none)) else (none)) else (if x2 = true then ((calendar_Shift.f x7 (wrap64 (-x8)) x9).bind fun bt325 => ((priceofficeref05_Shift.f k x7 (wrap64 (-x8)) x9).bind fun bt327 => (if bt325.1 = bt327.1 then (if bt325.2 = bt327.2 then ((priceofficelaw05_awake.f k).bind fun t329 => (some t329)) else (some false)) else (some false)))) else ((calendar_Shift.f x7 x8 x9).bind fun bt330 => ((priceofficeref05_Shift.f k x7 x8 x9).bind fun bt332 => (if bt330.1 = bt332.1 then (if bt330.2 = bt332.2 then ((priceofficelaw05_awake.f k).bind fun t334 => (some t334)) else (some false)) else (some false)))))
def priceofficelaw05_CalendarLimits.f (k : Nat) (a0 : Int) (a1 : Int) (a2 : Bool) : Option (Bool) := (priceofficemake_Fold.f a0 100000).bind fun t318 => ((priceofficemake_Fold.f a1 3).bind fun t319 => ((priceofficemake_Fold.f (wrap64 (Int.tdiv a1 3)) 3).bind fun t320 => (if 0 ≤ (wrap64 (399 + t320)) then (if (wrap64 (399 + t320) : Int).toNat ≤ 35184372088832 then ((some (List.replicate (wrap64 (399 + t320) : Int).toNat 0 : List Int)).bind fun y321 => (priceofficelaw05_CalendarLimits.l0 k a2 (wrap64 (10000 + t318)) (wrap64 (999 + t319)) y321 (y321.length : Int) 0)) else (none)) else (none))))
theorem priceofficelaw05_CalendarLimits.mono_l : ∀ k, (∀ y0 y1 y2 y3 y4 y5, LeO (priceofficelaw05_CalendarLimits.l0 k y0 y1 y2 y3 y4 y5) (priceofficelaw05_CalendarLimits.l0 (k + 1) y0 y1 y2 y3 y4 y5))
  | 0 => fun _ _ _ _ _ _ r h => by simp [priceofficelaw05_CalendarLimits.l0] at h
  | k + 1 => by
    have ih0 := priceofficelaw05_CalendarLimits.mono_l k
    · intro y0 y1 y2 y3 y4 y5
      unfold priceofficelaw05_CalendarLimits.l0
      repeat' first
      | (with_reducible exact ih0 _ _ _ _ _ _)
      | (with_reducible exact priceofficelaw05_awake.mono _)
      | (with_reducible exact priceofficeref05_Shift.mono _ _ _ _)
      | (with_reducible exact LeO.refl _)
      | (with_reducible exact LeO.none _)
      | (with_reducible refine LeO.ite ?_ ?_)
      | (with_reducible refine LeO.bind ?_ (fun _ => ?_))
      | exact ih0 _ _ _ _ _ _
      | exact priceofficelaw05_awake.mono _
      | exact priceofficeref05_Shift.mono _ _ _ _
      | exact LeO.none _
      | refine LeO.ite ?_ ?_
      | refine LeO.bind ?_ (fun _ => ?_)
theorem priceofficelaw05_CalendarLimits.mono : ∀ a0 a1 a2 k, LeO (priceofficelaw05_CalendarLimits.f k a0 a1 a2) (priceofficelaw05_CalendarLimits.f (k + 1) a0 a1 a2) := by
  intro a0 a1 a2 k
  have ih0 := priceofficelaw05_CalendarLimits.mono_l k
  unfold priceofficelaw05_CalendarLimits.f
  repeat' first
      | (with_reducible exact ih0 _ _ _ _ _ _)
      | (with_reducible exact priceofficelaw05_awake.mono _)
      | (with_reducible exact priceofficeref05_Shift.mono _ _ _ _)
      | (with_reducible exact LeO.refl _)
      | (with_reducible exact LeO.none _)
      | (with_reducible refine LeO.ite ?_ ?_)
      | (with_reducible refine LeO.bind ?_ (fun _ => ?_))
      | exact ih0 _ _ _ _ _ _
      | exact priceofficelaw05_awake.mono _
      | exact priceofficeref05_Shift.mono _ _ _ _
      | exact LeO.none _
      | refine LeO.ite ?_ ?_
      | refine LeO.bind ?_ (fun _ => ?_)
set_option maxHeartbeats 8000000 in
set_option maxRecDepth 100000 in
theorem priceofficelaw05_CalendarLimits.calls (k : Nat) (a0 : Int) (a1 : Int) (a2 : Bool) (r : Bool) (w : World) (hG : GT w) (h : priceofficelaw05_CalendarLimits.f k a0 a1 a2 = some r) :
    Calls Tryd.prog 8 #[.int .i64 a0, .int .i64 a1, .bool a2] w fun e w' => e = .returned (.bool r) ∧ Below w.heap.size w w' := by
  have HG := Aside0.mk hG
  clear hG
  have HB := Aside0.mk (Below.refl w.heap.size w)
  have H : ((priceofficemake_Fold.f a0 100000).bind fun t318 => ((priceofficemake_Fold.f a1 3).bind fun t319 => ((priceofficemake_Fold.f (wrap64 (Int.tdiv a1 3)) 3).bind fun t320 => (if 0 ≤ (wrap64 (399 + t320)) then (if (wrap64 (399 + t320) : Int).toNat ≤ 35184372088832 then ((some (List.replicate (wrap64 (399 + t320) : Int).toNat 0 : List Int)).bind fun y321 => (priceofficelaw05_CalendarLimits.l0 k a2 (wrap64 (10000 + t318)) (wrap64 (999 + t319)) y321 (y321.length : Int) 0)) else (none)) else (none))))) = some r := h
  clear h
  replace H := Option.bind_eq_some_iff.mp H
  obtain ⟨t318, A40, H⟩ := H
  replace H : ((priceofficemake_Fold.f a1 3).bind fun t319 => ((priceofficemake_Fold.f (wrap64 (Int.tdiv a1 3)) 3).bind fun t320 => (if 0 ≤ (wrap64 (399 + t320)) then (if (wrap64 (399 + t320) : Int).toNat ≤ 35184372088832 then ((some (List.replicate (wrap64 (399 + t320) : Int).toNat 0 : List Int)).bind fun y321 => (priceofficelaw05_CalendarLimits.l0 k a2 (wrap64 (10000 + t318)) (wrap64 (999 + t319)) y321 (y321.length : Int) 0)) else (none)) else (none)))) = some r := H
  have A4 := Aside0.mk A40
  clear A40
  replace H := Option.bind_eq_some_iff.mp H
  obtain ⟨t319, A50, H⟩ := H
  replace H : ((priceofficemake_Fold.f (wrap64 (Int.tdiv a1 3)) 3).bind fun t320 => (if 0 ≤ (wrap64 (399 + t320)) then (if (wrap64 (399 + t320) : Int).toNat ≤ 35184372088832 then ((some (List.replicate (wrap64 (399 + t320) : Int).toNat 0 : List Int)).bind fun y321 => (priceofficelaw05_CalendarLimits.l0 k a2 (wrap64 (10000 + t318)) (wrap64 (999 + t319)) y321 (y321.length : Int) 0)) else (none)) else (none))) = some r := H
  have A5 := Aside0.mk A50
  clear A50
  replace H := Option.bind_eq_some_iff.mp H
  obtain ⟨t320, A60, H⟩ := H
  replace H : (if 0 ≤ (wrap64 (399 + t320)) then (if (wrap64 (399 + t320) : Int).toNat ≤ 35184372088832 then ((some (List.replicate (wrap64 (399 + t320) : Int).toNat 0 : List Int)).bind fun y321 => (priceofficelaw05_CalendarLimits.l0 k a2 (wrap64 (10000 + t318)) (wrap64 (999 + t319)) y321 (y321.length : Int) 0)) else (none)) else (none)) = some r := H
  have A6 := Aside0.mk A60
  clear A60
  obtain ⟨ji7, hji7⟩ : ∃ j_ : Int, (wrap64 (399 + t320)) = j_ := ⟨_, rfl⟩
  replace H : (if 0 ≤ (ji7) then (if (ji7 : Int).toNat ≤ 35184372088832 then ((some (List.replicate (ji7 : Int).toNat 0 : List Int)).bind fun y321 => (priceofficelaw05_CalendarLimits.l0 k a2 (wrap64 (10000 + t318)) (wrap64 (999 + t319)) y321 (y321.length : Int) 0)) else (none)) else (none)) = some r := by first | (rw [hji7] at H; exact H) | (simp only [hji7] at H ⊢; exact H)
  (try rw [hji7] at A4)
  (try rw [hji7] at A5)
  (try rw [hji7] at A6)
  have hji7w : (IntKind.i64.wrap (399 + t320)) = ji7 := (i64_w _).trans hji7
  by_cases c8 : 0 ≤ (ji7)
  · rw [if_pos c8] at H
    have c8b0 := eq_true c8
    have c8b1 : decide (0 ≤ (ji7)) = true := decide_eq_true c8
    clear c8
    by_cases c9 : (ji7 : Int).toNat ≤ 35184372088832
    · rw [if_pos c9] at H
      have c9b0 := eq_true c9
      have c9b1 : decide ((ji7 : Int).toNat ≤ 35184372088832) = true := decide_eq_true c9
      clear c9
      obtain ⟨y321, hy321⟩ : ∃ y_ : List Int, y_ = (List.replicate (ji7 : Int).toNat 0) := ⟨_, rfl⟩
      replace H : (priceofficelaw05_CalendarLimits.l0 k a2 (wrap64 (10000 + t318)) (wrap64 (999 + t319)) y321 (y321.length : Int) 0) = some r := by first | (rw [hy321]; with_reducible exact H) | (have H2_ := (Option.bind_some _ _).symm.trans H; rw [hy321]; with_reducible exact H2_) | (have H2_ := (Option.bind_some _ _).symm.trans H; with_reducible exact H2_) | with_reducible exact H | (rw [hy321]; exact H) | exact H
      have Ny321 := Aside0.mk hy321
      clear hy321
      have H' := Aside0.mk H
      clear H
      go_enter Tryd.func8, Tryd.ntmps8
      go_wp2_with (first | ((with_reducible refine gate_callee (f := 19) rfl ?_); refine goesL_ (some 16) rfl rfl Tryd.func19 (by kernel_rfl) rfl #[.int .i64 a0, .int .i64 100000] rfl (by (try simp only [List.map_toArray, List.map_cons, List.map_nil]); first | done | rfl | (simp only [List.length_drop, List.length_take]; rfl)) ?_; (with_reducible refine (priceofficemake_Fold.calls a0 100000 t318 _ A4.out).mono ?_); rintro e w10 ⟨rfl, hb⟩; refine ⟨_, rfl, ?_⟩; have n0_ := Aside0.mk (below_step (by repeat (first | (with_reducible first | exact HB.out | apply below_alloc | apply pw_below_drewN | apply below_drew1) | exact HB.out)) hb); clear HB; have HB := n0_; clear n0_; (try clear hb); (try clear hb2); (try clear hk); (try clear hi)) | ((with_reducible refine gate_callee (f := 19) rfl ?_); refine goesL_ (some 19) rfl rfl Tryd.func19 (by kernel_rfl) rfl #[.int .i64 a1, .int .i64 3] rfl (by (try simp only [List.map_toArray, List.map_cons, List.map_nil]); first | done | rfl | (simp only [List.length_drop, List.length_take]; rfl)) ?_; (with_reducible refine (priceofficemake_Fold.calls a1 3 t319 _ A5.out).mono ?_); rintro e w11 ⟨rfl, hb⟩; refine ⟨_, rfl, ?_⟩; have n0_ := Aside0.mk (below_step (by repeat (first | (with_reducible first | exact HB.out | apply below_alloc | apply pw_below_drewN | apply below_drew1) | exact HB.out)) hb); clear HB; have HB := n0_; clear n0_; (try clear hb); (try clear hb2); (try clear hk); (try clear hi)) | ((with_reducible refine gate_callee (f := 19) rfl ?_); refine goesL_ (some 23) rfl rfl Tryd.func19 (by kernel_rfl) rfl #[.int .i64 (wrap64 (Int.tdiv a1 3)), .int .i64 3] rfl (by (try simp only [List.map_toArray, List.map_cons, List.map_nil]); first | done | rfl | (simp only [List.length_drop, List.length_take]; rfl)) ?_; (with_reducible refine (priceofficemake_Fold.calls (wrap64 (Int.tdiv a1 3)) 3 t320 _ A6.out).mono ?_); rintro e w12 ⟨rfl, hb⟩; refine ⟨_, rfl, ?_⟩; have n0_ := Aside0.mk (below_step (by repeat (first | (with_reducible first | exact HB.out | apply below_alloc | apply pw_below_drewN | apply below_drew1) | exact HB.out)) hb); clear HB; have HB := n0_; clear n0_; (try clear hb); (try clear hb2); (try clear hk); (try clear hi)) | ((with_reducible refine gate_dst (N := 25) rfl ?_); refine Kd.R_make (Kd.int .i64) _ 3 rfl (N := 25) rfl 27 _ _ rfl ji7 rfl rfl Tryd.underlying27 (.int .i64 0) 8 info3 rfl (by decide) (by omega) 0 (ok := fun _ => True) (okp := fun _ => True) rfl (fun _ hk => hk) trivial (of_decide_eq_true (by first | (with_reducible assumption) | assumption)) (Nat.le_trans (Nat.mul_le_mul_right _ (of_decide_eq_true (by first | (with_reducible assumption) | assumption) : ji7.toNat ≤ 35184372088832)) (by omega)) (Below.refl _ _) (Nat.le_refl _) ?_; intro v322 w13 ho14 hb hg_ hnew_; clear hg_ hnew_; (first | rw [← Ny321.out] at ho14 | (simp only [Int.reduceToNat] at ho14; rw [← Ny321.out] at ho14)); have n0_ := Aside0.mk (Kd.R_lower ho14 (below_size (by repeat (first | (with_reducible first | exact HB.out | apply below_alloc | apply pw_below_drewN | apply below_drew1) | exact HB.out)))); have n1_ := Aside0.mk (below_step (by repeat (first | (with_reducible first | exact HB.out | apply below_alloc | apply pw_below_drewN | apply below_drew1) | exact HB.out)) hb); clear HB; have HO323 := n0_; have HB := n1_; clear n0_ n1_; clear hb ho14; obtain ⟨Ao15, co15, eo15⟩ := Kd.R_slice HO323.out; subst eo15))
      go_loopg [28] k (fun kq v28 w' => ∃ (x9_1 : List Int) (x28_1 : Int), v28 = .int .i64 x28_1 ∧ Aside0 (priceofficelaw05_CalendarLimits.l0 kq a2 (wrap64 (10000 + t318)) (wrap64 (999 + t319)) x9_1 (y321.length : Int) x28_1 = some r) ∧ Aside0 (kq ≤ k) ∧ Aside0 (Kd.R (Kd.int .i64) 3 w' w.heap.size (fun _ => True) (.slice Ao15 y321.length co15) x9_1) ∧ Aside0 (Below w.heap.size w w'))
      case atStart => exact ⟨(y321), (0), (by first | rfl | (simp; done) | (simp [*]; done)), H', ⟨Nat.le_refl _⟩, ⟨by (with_reducible repeat (first | apply Kd.R_alloc | apply Kd.R_drewN | apply Kd.R_drew)); exact HO323.out⟩, ⟨by repeat (first | (with_reducible first | exact HB.out | apply below_alloc | apply pw_below_drewN | apply below_drew1) | exact HB.out)⟩⟩
      case round =>
        clear H'
        try clear c1
        try clear p2
        try clear p6
        try clear c8
        try clear c8b0
        try clear c8b1
        try clear c9
        try clear c9b0
        try clear c9b1
        obtain ⟨x9_1, x28_1, rfl, HA, HK1, HO_9, HB⟩ := hrel
        have hl9_1 := (Kd.R_reads' HO_9.out).1
        rw [hl9_1] at HO_9
        (try simp only [hl9_1])
        cases gk with
        | zero => exact absurd HA.out (by simp [priceofficelaw05_CalendarLimits.l0])
        | succ k1 =>
          have H := HA.out
          clear HA
          simp only [priceofficelaw05_CalendarLimits.l0] at H
          by_cases c16 : x28_1 < (y321.length : Int)
          · rw [if_pos c16] at H
            have c16b0 : decide (x28_1 < (y321.length : Int)) = true := decide_eq_true c16
            (try simp only [hl9_1] at c16b0)
            clear c16
            by_cases c17 : 0 ≤ x28_1
            · rw [if_pos c17] at H
              have c17b0 : decide (0 ≤ x28_1) = true := decide_eq_true c17
              clear c17
              by_cases c18 : x28_1 < (x9_1.length : Int)
              · rw [if_pos c18] at H
                have c18b0 : decide (x28_1 < (x9_1.length : Int)) = true := decide_eq_true c18
                clear c18
                obtain ⟨y324, hy324⟩ : ∃ y_ : List Int, y_ = (x9_1.set (x28_1 : Int).toNat (wrap64 ((wrap64 (10000 + t318)) + x28_1))) := ⟨_, rfl⟩
                replace H : (priceofficelaw05_CalendarLimits.l0 k1 a2 (wrap64 (10000 + t318)) (wrap64 (999 + t319)) y324 (y321.length : Int) (wrap64 (x28_1 + 1))) = some r := by first | (rw [hy324]; with_reducible exact H) | (have H2_ := (Option.bind_some _ _).symm.trans H; rw [hy324]; with_reducible exact H2_) | (have H2_ := (Option.bind_some _ _).symm.trans H; with_reducible exact H2_) | with_reducible exact H | (rw [hy324]; exact H) | exact H
                have Ny324 := Aside0.mk hy324
                clear hy324
                have H' := Aside0.mk H
                clear H
                have p19 : 0 ≤ (x28_1 : Int) := of_decide_eq_true (by first | (with_reducible assumption) | assumption)
                have q19 : (x28_1 : Int) < ((x9_1.length : Int) : Int) := of_decide_eq_true (by first | (with_reducible assumption) | assumption)
                obtain ⟨go19, co19, eo19, gb19, gl19, cl19, HG19⟩ := Kd.R_form HO_9.out (by omega)
                (first | cases eo19 | (injection eo19 with ea_ en_ ec_; (first | subst ea_ | (injection ea_ with ea_; subst ea_)); subst ec_; clear en_))
                have GB19 := Aside0.mk gb19
                have GG19 := Aside0.mk HG19
                clear gb19 gl19 HG19
                obtain ⟨hx19_0, hf19_0⟩ := Kd.R_celln 0 HO_9.out (x28_1 : Int) p19 q19
                replace p19 := eq_true p19
                replace q19 := eq_true q19
                have HP20 := Kd.R_putg HO_9.out (x28_1 : Int) (wrap64 ((wrap64 (10000 + t318)) + x28_1))
                go_wp2_with (first | ((with_reducible refine gate_store (t := 3) (p := 36) rfl ?_); refine store_event (t := 3) (p := 36) (v := ?vo_w21) (w1 := (wr.setCell ⟨go19, (x28_1 : Int).toNat, none⟩ (.int .i64 (wrap64 ((wrap64 (10000 + t318)) + x28_1))))) ?hg ?ho ?hn ?hr ?_; (case ho => rfl); (case hg => rfl); (case hn => rfl); (case hr => first | (go_simp; done) | (go_simp; rfl)); intro w21 hw; have hg : wr.grownBy w21 (some go19) := (by rw [hw]; exact HP20.2); have hp_ : Kd.R (Kd.int .i64) 3 w21 w.heap.size (fun _ => True) (.slice (some ⟨go19, 0, none⟩) x9_1.length co15) y324 := (by rw [hw, Ny324.out]; exact HP20.1); clear HP20; have n0_ := Aside0.mk (hp_); have n1_ := Aside0.mk ((by rw [hw]; exact below_set (HB.out) GB19.out : Below w.heap.size w w21)); clear HO_9; clear HB; have HO_9 := n0_; have HB := n1_; clear n0_ n1_; clear hg hw hp_))
                (try simp only [← hl9_1])
                go_roundg k1
                case measure => have := HK1.out; omega
                case rel => exact ⟨(y324), (wrap64 (x28_1 + 1)), (by first | rfl | (simp; done) | (simp [*]; done)), H', ⟨by have := HK1.out; omega⟩, ⟨by (try simp only [hl9_1]); (with_reducible repeat (first | apply Kd.R_alloc | apply Kd.R_drewN | apply Kd.R_drew)); exact HO_9.out⟩, ⟨by repeat (first | (with_reducible first | exact HB.out | apply below_alloc | apply pw_below_drewN | apply below_drew1) | exact HB.out)⟩⟩
              · rw [if_neg c18] at H
                exact absurd H (by simp)
            · rw [if_neg c17] at H
              exact absurd H (by simp)
          · rw [if_neg c16] at H
            have c16b0 : decide (x28_1 < (y321.length : Int)) = false := decide_eq_false c16
            (try simp only [hl9_1] at c16b0)
            clear c16
            by_cases c22 : a2 = true
            · subst c22
              have H1 : ((calendar_Shift.f (wrap64 (10000 + t318)) (wrap64 (-(wrap64 (999 + t319)))) x9_1).bind fun bt325 => ((priceofficeref05_Shift.f k1 (wrap64 (10000 + t318)) (wrap64 (-(wrap64 (999 + t319)))) x9_1).bind fun bt327 => (if bt325.1 = bt327.1 then (if bt325.2 = bt327.2 then ((priceofficelaw05_awake.f k1).bind fun t329 => (some t329)) else (some false)) else (some false)))) = some r := by rw [if_pos rfl] at H; exact H
              clear H
              have H := H1
              clear H1
              replace H := Option.bind_eq_some_iff.mp H
              obtain ⟨⟨t325, t326⟩, A230, H⟩ := H
              replace H : ((priceofficeref05_Shift.f k1 (wrap64 (10000 + t318)) (wrap64 (-(wrap64 (999 + t319)))) x9_1).bind fun bt327 => (if t325 = bt327.1 then (if t326 = bt327.2 then ((priceofficelaw05_awake.f k1).bind fun t329 => (some t329)) else (some false)) else (some false))) = some r := H
              have A23 := Aside0.mk A230
              clear A230
              replace H := Option.bind_eq_some_iff.mp H
              obtain ⟨⟨t327, t328⟩, A240, H⟩ := H
              replace H : (if t325 = t327 then (if t326 = t328 then ((priceofficelaw05_awake.f k1).bind fun t329 => (some t329)) else (some false)) else (some false)) = some r := H
              have A24 := Aside0.mk A240
              clear A240
              by_cases c25 : t325 = t327
              · rw [if_pos c25] at H
                have c25b0 : (t325 == t327) = true := beq_iff_eq.mpr c25
                have c25b1 : (t325 != t327) = false := bne_eq_false_iff_eq.mpr c25
                clear c25
                by_cases c26 : t326 = t328
                · rw [if_pos c26] at H
                  have c26b0 : (t326 == t328) = true := beq_iff_eq.mpr c26
                  have c26b1 : (t326 != t328) = false := bne_eq_false_iff_eq.mpr c26
                  clear c26
                  replace H := Option.bind_eq_some_iff.mp H
                  obtain ⟨t329, A270, H⟩ := H
                  replace H : (some t329) = some r := H
                  have A27 := Aside0.mk A270
                  clear A270
                  obtain rfl := Option.some.inj H
                  go_wp2_with (first | ((with_reducible refine gate_callee (f := 37) rfl ?_); refine goesL_ (some 45) rfl rfl Tryd.func37 (by kernel_rfl) rfl #[.int .i64 (wrap64 (10000 + t318)), .int .i64 (wrap64 (-(wrap64 (999 + t319)))), .slice Ao15 x9_1.length co15] rfl (by (try simp only [List.map_toArray, List.map_cons, List.map_nil]); first | done | rfl | (simp only [List.length_drop, List.length_take]; rfl)) ?_; (with_reducible refine (calendar_Shift.calls (wrap64 (10000 + t318)) (wrap64 (-(wrap64 (999 + t319)))) _ _ x9_1 t325 t326 _ ?side1 ?side2 A23.out).mono ?_); (case side1 => repeat (first | exact (Kd.R_reads' HO_9.out).2.2 | (with_reducible refine Kd.C_alloc ?_ _) | (with_reducible refine Kd.C_drewN ?_ _) | (with_reducible refine Kd.C_drew ?_))); (case side2 => exact (Kd.R_reads' HO_9.out).2.1); rintro e w28 ⟨rfl, hb⟩; refine ⟨_, rfl, ?_⟩; have n0_ := Aside0.mk (Kd.R_below (by (with_reducible repeat (first | apply Kd.R_alloc | apply Kd.R_drewN | apply Kd.R_drew)); exact HO_9.out) hb); have n1_ := Aside0.mk (below_step (by repeat (first | (with_reducible first | exact HB.out | apply below_alloc | apply pw_below_drewN | apply below_drew1) | exact HB.out)) hb); clear HO_9; clear HB; have HO_9 := n0_; have HB := n1_; clear n0_ n1_; (try clear hb); (try clear hb2); (try clear hk); (try clear hi)) | ((with_reducible refine gate_callee (f := 38) rfl ?_); refine goesL_ (some 52) rfl rfl Tryd.func38 (by kernel_rfl) rfl #[.int .i64 (wrap64 (10000 + t318)), .int .i64 (wrap64 (-(wrap64 (999 + t319)))), .slice Ao15 x9_1.length co15] rfl (by (try simp only [List.map_toArray, List.map_cons, List.map_nil]); first | done | rfl | (simp only [List.length_drop, List.length_take]; rfl)) ?_; (with_reducible refine (priceofficeref05_Shift.calls k1 (wrap64 (10000 + t318)) (wrap64 (-(wrap64 (999 + t319)))) _ _ x9_1 t327 t328 _ ?side1 ?side2 A24.out).mono ?_); (case side1 => repeat (first | exact (Kd.R_reads' HO_9.out).2.2 | (with_reducible refine Kd.C_alloc ?_ _) | (with_reducible refine Kd.C_drewN ?_ _) | (with_reducible refine Kd.C_drew ?_))); (case side2 => exact (Kd.R_reads' HO_9.out).2.1); rintro e w29 ⟨rfl, hb⟩; refine ⟨_, rfl, ?_⟩; have n0_ := Aside0.mk (Kd.R_below (by (with_reducible repeat (first | apply Kd.R_alloc | apply Kd.R_drewN | apply Kd.R_drew)); exact HO_9.out) hb); have n1_ := Aside0.mk (below_step (by repeat (first | (with_reducible first | exact HB.out | apply below_alloc | apply pw_below_drewN | apply below_drew1) | exact HB.out)) hb); clear HO_9; clear HB; have HO_9 := n0_; have HB := n1_; clear n0_ n1_; (try clear hb); (try clear hb2); (try clear hk); (try clear hi)) | (go_at_call 18; (with_reducible refine (priceofficelaw05_awake.calls k1  t329 _ ?side1 A27.out).mono ?_); (case side1 => first | exact HG.out | exact GT.below HG.out (by repeat (first | (with_reducible first | exact HB.out | apply below_alloc | apply pw_below_drewN | apply below_drew1) | exact HB.out))); rintro e w30 ⟨rfl, hb⟩; have n0_ := Aside0.mk (Kd.R_below (by (with_reducible repeat (first | apply Kd.R_alloc | apply Kd.R_drewN | apply Kd.R_drew)); exact HO_9.out) hb); have n1_ := Aside0.mk (below_step (by repeat (first | (with_reducible first | exact HB.out | apply below_alloc | apply pw_below_drewN | apply below_drew1) | exact HB.out)) hb); clear HO_9; clear HB; have HO_9 := n0_; have HB := n1_; clear n0_ n1_; (try clear hb); (try clear hb2); (try clear hk); (try clear hi)))
                  go_ret
                  exact ⟨by first | rfl | (simp [errW_none, errW_some] <;> rfl) | (simp only [← hji7]; first | rfl | (simp [errW_none, errW_some] <;> rfl)) | (simp [*, errW_none, errW_some] <;> rfl), by repeat (first | (with_reducible first | exact HB.out | apply below_alloc | apply pw_below_drewN | apply below_drew1) | exact HB.out)⟩
                · rw [if_neg c26] at H
                  have c26b0 : (t326 == t328) = false := beq_eq_false_iff_ne.mpr c26
                  have c26b1 : (t326 != t328) = true := bne_iff_ne.mpr c26
                  obtain rfl := Option.some.inj H
                  go_wp2_with (first | ((with_reducible refine gate_callee (f := 37) rfl ?_); refine goesL_ (some 45) rfl rfl Tryd.func37 (by kernel_rfl) rfl #[.int .i64 (wrap64 (10000 + t318)), .int .i64 (wrap64 (-(wrap64 (999 + t319)))), .slice Ao15 x9_1.length co15] rfl (by (try simp only [List.map_toArray, List.map_cons, List.map_nil]); first | done | rfl | (simp only [List.length_drop, List.length_take]; rfl)) ?_; (with_reducible refine (calendar_Shift.calls (wrap64 (10000 + t318)) (wrap64 (-(wrap64 (999 + t319)))) _ _ x9_1 t325 t326 _ ?side1 ?side2 A23.out).mono ?_); (case side1 => repeat (first | exact (Kd.R_reads' HO_9.out).2.2 | (with_reducible refine Kd.C_alloc ?_ _) | (with_reducible refine Kd.C_drewN ?_ _) | (with_reducible refine Kd.C_drew ?_))); (case side2 => exact (Kd.R_reads' HO_9.out).2.1); rintro e w31 ⟨rfl, hb⟩; refine ⟨_, rfl, ?_⟩; have n0_ := Aside0.mk (Kd.R_below (by (with_reducible repeat (first | apply Kd.R_alloc | apply Kd.R_drewN | apply Kd.R_drew)); exact HO_9.out) hb); have n1_ := Aside0.mk (below_step (by repeat (first | (with_reducible first | exact HB.out | apply below_alloc | apply pw_below_drewN | apply below_drew1) | exact HB.out)) hb); clear HO_9; clear HB; have HO_9 := n0_; have HB := n1_; clear n0_ n1_; (try clear hb); (try clear hb2); (try clear hk); (try clear hi)) | ((with_reducible refine gate_callee (f := 38) rfl ?_); refine goesL_ (some 52) rfl rfl Tryd.func38 (by kernel_rfl) rfl #[.int .i64 (wrap64 (10000 + t318)), .int .i64 (wrap64 (-(wrap64 (999 + t319)))), .slice Ao15 x9_1.length co15] rfl (by (try simp only [List.map_toArray, List.map_cons, List.map_nil]); first | done | rfl | (simp only [List.length_drop, List.length_take]; rfl)) ?_; (with_reducible refine (priceofficeref05_Shift.calls k1 (wrap64 (10000 + t318)) (wrap64 (-(wrap64 (999 + t319)))) _ _ x9_1 t327 t328 _ ?side1 ?side2 A24.out).mono ?_); (case side1 => repeat (first | exact (Kd.R_reads' HO_9.out).2.2 | (with_reducible refine Kd.C_alloc ?_ _) | (with_reducible refine Kd.C_drewN ?_ _) | (with_reducible refine Kd.C_drew ?_))); (case side2 => exact (Kd.R_reads' HO_9.out).2.1); rintro e w32 ⟨rfl, hb⟩; refine ⟨_, rfl, ?_⟩; have n0_ := Aside0.mk (Kd.R_below (by (with_reducible repeat (first | apply Kd.R_alloc | apply Kd.R_drewN | apply Kd.R_drew)); exact HO_9.out) hb); have n1_ := Aside0.mk (below_step (by repeat (first | (with_reducible first | exact HB.out | apply below_alloc | apply pw_below_drewN | apply below_drew1) | exact HB.out)) hb); clear HO_9; clear HB; have HO_9 := n0_; have HB := n1_; clear n0_ n1_; (try clear hb); (try clear hb2); (try clear hk); (try clear hi)))
                  go_ret
                  exact ⟨by first | rfl | (simp [errW_none, errW_some] <;> rfl) | (simp only [← hji7]; first | rfl | (simp [errW_none, errW_some] <;> rfl)) | (simp [*, errW_none, errW_some] <;> rfl), by repeat (first | (with_reducible first | exact HB.out | apply below_alloc | apply pw_below_drewN | apply below_drew1) | exact HB.out)⟩
              · rw [if_neg c25] at H
                have c25b0 : (t325 == t327) = false := beq_eq_false_iff_ne.mpr c25
                have c25b1 : (t325 != t327) = true := bne_iff_ne.mpr c25
                obtain rfl := Option.some.inj H
                go_wp2_with (first | ((with_reducible refine gate_callee (f := 37) rfl ?_); refine goesL_ (some 45) rfl rfl Tryd.func37 (by kernel_rfl) rfl #[.int .i64 (wrap64 (10000 + t318)), .int .i64 (wrap64 (-(wrap64 (999 + t319)))), .slice Ao15 x9_1.length co15] rfl (by (try simp only [List.map_toArray, List.map_cons, List.map_nil]); first | done | rfl | (simp only [List.length_drop, List.length_take]; rfl)) ?_; (with_reducible refine (calendar_Shift.calls (wrap64 (10000 + t318)) (wrap64 (-(wrap64 (999 + t319)))) _ _ x9_1 t325 t326 _ ?side1 ?side2 A23.out).mono ?_); (case side1 => repeat (first | exact (Kd.R_reads' HO_9.out).2.2 | (with_reducible refine Kd.C_alloc ?_ _) | (with_reducible refine Kd.C_drewN ?_ _) | (with_reducible refine Kd.C_drew ?_))); (case side2 => exact (Kd.R_reads' HO_9.out).2.1); rintro e w33 ⟨rfl, hb⟩; refine ⟨_, rfl, ?_⟩; have n0_ := Aside0.mk (Kd.R_below (by (with_reducible repeat (first | apply Kd.R_alloc | apply Kd.R_drewN | apply Kd.R_drew)); exact HO_9.out) hb); have n1_ := Aside0.mk (below_step (by repeat (first | (with_reducible first | exact HB.out | apply below_alloc | apply pw_below_drewN | apply below_drew1) | exact HB.out)) hb); clear HO_9; clear HB; have HO_9 := n0_; have HB := n1_; clear n0_ n1_; (try clear hb); (try clear hb2); (try clear hk); (try clear hi)) | ((with_reducible refine gate_callee (f := 38) rfl ?_); refine goesL_ (some 52) rfl rfl Tryd.func38 (by kernel_rfl) rfl #[.int .i64 (wrap64 (10000 + t318)), .int .i64 (wrap64 (-(wrap64 (999 + t319)))), .slice Ao15 x9_1.length co15] rfl (by (try simp only [List.map_toArray, List.map_cons, List.map_nil]); first | done | rfl | (simp only [List.length_drop, List.length_take]; rfl)) ?_; (with_reducible refine (priceofficeref05_Shift.calls k1 (wrap64 (10000 + t318)) (wrap64 (-(wrap64 (999 + t319)))) _ _ x9_1 t327 t328 _ ?side1 ?side2 A24.out).mono ?_); (case side1 => repeat (first | exact (Kd.R_reads' HO_9.out).2.2 | (with_reducible refine Kd.C_alloc ?_ _) | (with_reducible refine Kd.C_drewN ?_ _) | (with_reducible refine Kd.C_drew ?_))); (case side2 => exact (Kd.R_reads' HO_9.out).2.1); rintro e w34 ⟨rfl, hb⟩; refine ⟨_, rfl, ?_⟩; have n0_ := Aside0.mk (Kd.R_below (by (with_reducible repeat (first | apply Kd.R_alloc | apply Kd.R_drewN | apply Kd.R_drew)); exact HO_9.out) hb); have n1_ := Aside0.mk (below_step (by repeat (first | (with_reducible first | exact HB.out | apply below_alloc | apply pw_below_drewN | apply below_drew1) | exact HB.out)) hb); clear HO_9; clear HB; have HO_9 := n0_; have HB := n1_; clear n0_ n1_; (try clear hb); (try clear hb2); (try clear hk); (try clear hi)))
                go_ret
                exact ⟨by first | rfl | (simp [errW_none, errW_some] <;> rfl) | (simp only [← hji7]; first | rfl | (simp [errW_none, errW_some] <;> rfl)) | (simp [*, errW_none, errW_some] <;> rfl), by repeat (first | (with_reducible first | exact HB.out | apply below_alloc | apply pw_below_drewN | apply below_drew1) | exact HB.out)⟩
            · replace c22 := Bool.eq_false_iff.mpr c22
              subst c22
              have H1 : ((calendar_Shift.f (wrap64 (10000 + t318)) (wrap64 (999 + t319)) x9_1).bind fun bt330 => ((priceofficeref05_Shift.f k1 (wrap64 (10000 + t318)) (wrap64 (999 + t319)) x9_1).bind fun bt332 => (if bt330.1 = bt332.1 then (if bt330.2 = bt332.2 then ((priceofficelaw05_awake.f k1).bind fun t334 => (some t334)) else (some false)) else (some false)))) = some r := by rw [if_neg (show ¬ (false = true) by decide)] at H; exact H
              clear H
              have H := H1
              clear H1
              replace H := Option.bind_eq_some_iff.mp H
              obtain ⟨⟨t330, t331⟩, A350, H⟩ := H
              replace H : ((priceofficeref05_Shift.f k1 (wrap64 (10000 + t318)) (wrap64 (999 + t319)) x9_1).bind fun bt332 => (if t330 = bt332.1 then (if t331 = bt332.2 then ((priceofficelaw05_awake.f k1).bind fun t334 => (some t334)) else (some false)) else (some false))) = some r := H
              have A35 := Aside0.mk A350
              clear A350
              replace H := Option.bind_eq_some_iff.mp H
              obtain ⟨⟨t332, t333⟩, A360, H⟩ := H
              replace H : (if t330 = t332 then (if t331 = t333 then ((priceofficelaw05_awake.f k1).bind fun t334 => (some t334)) else (some false)) else (some false)) = some r := H
              have A36 := Aside0.mk A360
              clear A360
              by_cases c37 : t330 = t332
              · rw [if_pos c37] at H
                have c37b0 : (t330 == t332) = true := beq_iff_eq.mpr c37
                have c37b1 : (t330 != t332) = false := bne_eq_false_iff_eq.mpr c37
                clear c37
                by_cases c38 : t331 = t333
                · rw [if_pos c38] at H
                  have c38b0 : (t331 == t333) = true := beq_iff_eq.mpr c38
                  have c38b1 : (t331 != t333) = false := bne_eq_false_iff_eq.mpr c38
                  clear c38
                  replace H := Option.bind_eq_some_iff.mp H
                  obtain ⟨t334, A390, H⟩ := H
                  replace H : (some t334) = some r := H
                  have A39 := Aside0.mk A390
                  clear A390
                  obtain rfl := Option.some.inj H
                  go_wp2_with (first | ((with_reducible refine gate_callee (f := 37) rfl ?_); refine goesL_ (some 45) rfl rfl Tryd.func37 (by kernel_rfl) rfl #[.int .i64 (wrap64 (10000 + t318)), .int .i64 (wrap64 (999 + t319)), .slice Ao15 x9_1.length co15] rfl (by (try simp only [List.map_toArray, List.map_cons, List.map_nil]); first | done | rfl | (simp only [List.length_drop, List.length_take]; rfl)) ?_; (with_reducible refine (calendar_Shift.calls (wrap64 (10000 + t318)) (wrap64 (999 + t319)) _ _ x9_1 t330 t331 _ ?side1 ?side2 A35.out).mono ?_); (case side1 => repeat (first | exact (Kd.R_reads' HO_9.out).2.2 | (with_reducible refine Kd.C_alloc ?_ _) | (with_reducible refine Kd.C_drewN ?_ _) | (with_reducible refine Kd.C_drew ?_))); (case side2 => exact (Kd.R_reads' HO_9.out).2.1); rintro e w40 ⟨rfl, hb⟩; refine ⟨_, rfl, ?_⟩; have n0_ := Aside0.mk (Kd.R_below (by (with_reducible repeat (first | apply Kd.R_alloc | apply Kd.R_drewN | apply Kd.R_drew)); exact HO_9.out) hb); have n1_ := Aside0.mk (below_step (by repeat (first | (with_reducible first | exact HB.out | apply below_alloc | apply pw_below_drewN | apply below_drew1) | exact HB.out)) hb); clear HO_9; clear HB; have HO_9 := n0_; have HB := n1_; clear n0_ n1_; (try clear hb); (try clear hb2); (try clear hk); (try clear hi)) | ((with_reducible refine gate_callee (f := 38) rfl ?_); refine goesL_ (some 52) rfl rfl Tryd.func38 (by kernel_rfl) rfl #[.int .i64 (wrap64 (10000 + t318)), .int .i64 (wrap64 (999 + t319)), .slice Ao15 x9_1.length co15] rfl (by (try simp only [List.map_toArray, List.map_cons, List.map_nil]); first | done | rfl | (simp only [List.length_drop, List.length_take]; rfl)) ?_; (with_reducible refine (priceofficeref05_Shift.calls k1 (wrap64 (10000 + t318)) (wrap64 (999 + t319)) _ _ x9_1 t332 t333 _ ?side1 ?side2 A36.out).mono ?_); (case side1 => repeat (first | exact (Kd.R_reads' HO_9.out).2.2 | (with_reducible refine Kd.C_alloc ?_ _) | (with_reducible refine Kd.C_drewN ?_ _) | (with_reducible refine Kd.C_drew ?_))); (case side2 => exact (Kd.R_reads' HO_9.out).2.1); rintro e w41 ⟨rfl, hb⟩; refine ⟨_, rfl, ?_⟩; have n0_ := Aside0.mk (Kd.R_below (by (with_reducible repeat (first | apply Kd.R_alloc | apply Kd.R_drewN | apply Kd.R_drew)); exact HO_9.out) hb); have n1_ := Aside0.mk (below_step (by repeat (first | (with_reducible first | exact HB.out | apply below_alloc | apply pw_below_drewN | apply below_drew1) | exact HB.out)) hb); clear HO_9; clear HB; have HO_9 := n0_; have HB := n1_; clear n0_ n1_; (try clear hb); (try clear hb2); (try clear hk); (try clear hi)) | (go_at_call 18; (with_reducible refine (priceofficelaw05_awake.calls k1  t334 _ ?side1 A39.out).mono ?_); (case side1 => first | exact HG.out | exact GT.below HG.out (by repeat (first | (with_reducible first | exact HB.out | apply below_alloc | apply pw_below_drewN | apply below_drew1) | exact HB.out))); rintro e w42 ⟨rfl, hb⟩; have n0_ := Aside0.mk (Kd.R_below (by (with_reducible repeat (first | apply Kd.R_alloc | apply Kd.R_drewN | apply Kd.R_drew)); exact HO_9.out) hb); have n1_ := Aside0.mk (below_step (by repeat (first | (with_reducible first | exact HB.out | apply below_alloc | apply pw_below_drewN | apply below_drew1) | exact HB.out)) hb); clear HO_9; clear HB; have HO_9 := n0_; have HB := n1_; clear n0_ n1_; (try clear hb); (try clear hb2); (try clear hk); (try clear hi)))
                  go_ret
                  exact ⟨by first | rfl | (simp [errW_none, errW_some] <;> rfl) | (simp only [← hji7]; first | rfl | (simp [errW_none, errW_some] <;> rfl)) | (simp [*, errW_none, errW_some] <;> rfl), by repeat (first | (with_reducible first | exact HB.out | apply below_alloc | apply pw_below_drewN | apply below_drew1) | exact HB.out)⟩
                · rw [if_neg c38] at H
                  have c38b0 : (t331 == t333) = false := beq_eq_false_iff_ne.mpr c38
                  have c38b1 : (t331 != t333) = true := bne_iff_ne.mpr c38
                  obtain rfl := Option.some.inj H
                  go_wp2_with (first | ((with_reducible refine gate_callee (f := 37) rfl ?_); refine goesL_ (some 45) rfl rfl Tryd.func37 (by kernel_rfl) rfl #[.int .i64 (wrap64 (10000 + t318)), .int .i64 (wrap64 (999 + t319)), .slice Ao15 x9_1.length co15] rfl (by (try simp only [List.map_toArray, List.map_cons, List.map_nil]); first | done | rfl | (simp only [List.length_drop, List.length_take]; rfl)) ?_; (with_reducible refine (calendar_Shift.calls (wrap64 (10000 + t318)) (wrap64 (999 + t319)) _ _ x9_1 t330 t331 _ ?side1 ?side2 A35.out).mono ?_); (case side1 => repeat (first | exact (Kd.R_reads' HO_9.out).2.2 | (with_reducible refine Kd.C_alloc ?_ _) | (with_reducible refine Kd.C_drewN ?_ _) | (with_reducible refine Kd.C_drew ?_))); (case side2 => exact (Kd.R_reads' HO_9.out).2.1); rintro e w43 ⟨rfl, hb⟩; refine ⟨_, rfl, ?_⟩; have n0_ := Aside0.mk (Kd.R_below (by (with_reducible repeat (first | apply Kd.R_alloc | apply Kd.R_drewN | apply Kd.R_drew)); exact HO_9.out) hb); have n1_ := Aside0.mk (below_step (by repeat (first | (with_reducible first | exact HB.out | apply below_alloc | apply pw_below_drewN | apply below_drew1) | exact HB.out)) hb); clear HO_9; clear HB; have HO_9 := n0_; have HB := n1_; clear n0_ n1_; (try clear hb); (try clear hb2); (try clear hk); (try clear hi)) | ((with_reducible refine gate_callee (f := 38) rfl ?_); refine goesL_ (some 52) rfl rfl Tryd.func38 (by kernel_rfl) rfl #[.int .i64 (wrap64 (10000 + t318)), .int .i64 (wrap64 (999 + t319)), .slice Ao15 x9_1.length co15] rfl (by (try simp only [List.map_toArray, List.map_cons, List.map_nil]); first | done | rfl | (simp only [List.length_drop, List.length_take]; rfl)) ?_; (with_reducible refine (priceofficeref05_Shift.calls k1 (wrap64 (10000 + t318)) (wrap64 (999 + t319)) _ _ x9_1 t332 t333 _ ?side1 ?side2 A36.out).mono ?_); (case side1 => repeat (first | exact (Kd.R_reads' HO_9.out).2.2 | (with_reducible refine Kd.C_alloc ?_ _) | (with_reducible refine Kd.C_drewN ?_ _) | (with_reducible refine Kd.C_drew ?_))); (case side2 => exact (Kd.R_reads' HO_9.out).2.1); rintro e w44 ⟨rfl, hb⟩; refine ⟨_, rfl, ?_⟩; have n0_ := Aside0.mk (Kd.R_below (by (with_reducible repeat (first | apply Kd.R_alloc | apply Kd.R_drewN | apply Kd.R_drew)); exact HO_9.out) hb); have n1_ := Aside0.mk (below_step (by repeat (first | (with_reducible first | exact HB.out | apply below_alloc | apply pw_below_drewN | apply below_drew1) | exact HB.out)) hb); clear HO_9; clear HB; have HO_9 := n0_; have HB := n1_; clear n0_ n1_; (try clear hb); (try clear hb2); (try clear hk); (try clear hi)))
                  go_ret
                  exact ⟨by first | rfl | (simp [errW_none, errW_some] <;> rfl) | (simp only [← hji7]; first | rfl | (simp [errW_none, errW_some] <;> rfl)) | (simp [*, errW_none, errW_some] <;> rfl), by repeat (first | (with_reducible first | exact HB.out | apply below_alloc | apply pw_below_drewN | apply below_drew1) | exact HB.out)⟩
              · rw [if_neg c37] at H
                have c37b0 : (t330 == t332) = false := beq_eq_false_iff_ne.mpr c37
                have c37b1 : (t330 != t332) = true := bne_iff_ne.mpr c37
                obtain rfl := Option.some.inj H
                go_wp2_with (first | ((with_reducible refine gate_callee (f := 37) rfl ?_); refine goesL_ (some 45) rfl rfl Tryd.func37 (by kernel_rfl) rfl #[.int .i64 (wrap64 (10000 + t318)), .int .i64 (wrap64 (999 + t319)), .slice Ao15 x9_1.length co15] rfl (by (try simp only [List.map_toArray, List.map_cons, List.map_nil]); first | done | rfl | (simp only [List.length_drop, List.length_take]; rfl)) ?_; (with_reducible refine (calendar_Shift.calls (wrap64 (10000 + t318)) (wrap64 (999 + t319)) _ _ x9_1 t330 t331 _ ?side1 ?side2 A35.out).mono ?_); (case side1 => repeat (first | exact (Kd.R_reads' HO_9.out).2.2 | (with_reducible refine Kd.C_alloc ?_ _) | (with_reducible refine Kd.C_drewN ?_ _) | (with_reducible refine Kd.C_drew ?_))); (case side2 => exact (Kd.R_reads' HO_9.out).2.1); rintro e w45 ⟨rfl, hb⟩; refine ⟨_, rfl, ?_⟩; have n0_ := Aside0.mk (Kd.R_below (by (with_reducible repeat (first | apply Kd.R_alloc | apply Kd.R_drewN | apply Kd.R_drew)); exact HO_9.out) hb); have n1_ := Aside0.mk (below_step (by repeat (first | (with_reducible first | exact HB.out | apply below_alloc | apply pw_below_drewN | apply below_drew1) | exact HB.out)) hb); clear HO_9; clear HB; have HO_9 := n0_; have HB := n1_; clear n0_ n1_; (try clear hb); (try clear hb2); (try clear hk); (try clear hi)) | ((with_reducible refine gate_callee (f := 38) rfl ?_); refine goesL_ (some 52) rfl rfl Tryd.func38 (by kernel_rfl) rfl #[.int .i64 (wrap64 (10000 + t318)), .int .i64 (wrap64 (999 + t319)), .slice Ao15 x9_1.length co15] rfl (by (try simp only [List.map_toArray, List.map_cons, List.map_nil]); first | done | rfl | (simp only [List.length_drop, List.length_take]; rfl)) ?_; (with_reducible refine (priceofficeref05_Shift.calls k1 (wrap64 (10000 + t318)) (wrap64 (999 + t319)) _ _ x9_1 t332 t333 _ ?side1 ?side2 A36.out).mono ?_); (case side1 => repeat (first | exact (Kd.R_reads' HO_9.out).2.2 | (with_reducible refine Kd.C_alloc ?_ _) | (with_reducible refine Kd.C_drewN ?_ _) | (with_reducible refine Kd.C_drew ?_))); (case side2 => exact (Kd.R_reads' HO_9.out).2.1); rintro e w46 ⟨rfl, hb⟩; refine ⟨_, rfl, ?_⟩; have n0_ := Aside0.mk (Kd.R_below (by (with_reducible repeat (first | apply Kd.R_alloc | apply Kd.R_drewN | apply Kd.R_drew)); exact HO_9.out) hb); have n1_ := Aside0.mk (below_step (by repeat (first | (with_reducible first | exact HB.out | apply below_alloc | apply pw_below_drewN | apply below_drew1) | exact HB.out)) hb); clear HO_9; clear HB; have HO_9 := n0_; have HB := n1_; clear n0_ n1_; (try clear hb); (try clear hb2); (try clear hk); (try clear hi)))
                go_ret
                exact ⟨by first | rfl | (simp [errW_none, errW_some] <;> rfl) | (simp only [← hji7]; first | rfl | (simp [errW_none, errW_some] <;> rfl)) | (simp [*, errW_none, errW_some] <;> rfl), by repeat (first | (with_reducible first | exact HB.out | apply below_alloc | apply pw_below_drewN | apply below_drew1) | exact HB.out)⟩
    · rw [if_neg c9] at H
      exact absurd H (by simp)
  · rw [if_neg c8] at H
    exact absurd H (by simp)

end Go.Proofs.YtpbkdbicdimfhaaDoor.P
