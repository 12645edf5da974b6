/- Lean functions with the same answers as the program's Go functions, and for each the proof that the call comes to these answers; written by a program of mine out of the translation, the functions marked 'by hand' by me. -/
import Derived.Test.YtpbkdbicdimfhaaDoorP0
import Derived.Test.YtpbkdbicdimfhaaDoorP6
namespace Go.Proofs.YtpbkdbicdimfhaaDoor.P
open Go.RowKit Go.Proofs.YtpbkdbicdimfhaaDoorW.PrintWords Go.Proofs.YtpbkdbicdimfhaaDoorW.PrintLast Go.Proofs.YtpbkdbicdimfhaaDoorW.PrintMore
attribute [local go_sem] max2_int min2_int max_two min_two max_three min_three max_four min_four   -- for this text's walks alone
set_option linter.unusedVariables false
set_option linter.unusedSimpArgs false

/-! ### priceofficelaw05_awake: function 18 -/
def priceofficelaw05_awake.f (k : Nat)  : Option (Bool) := (calendar_Number.f k 2000 2 29).bind fun t129 => (if t129 = 36583 then ((calendar_FormatPeriod.f k 1201).bind fun t130 => (some (t130.toList == ([50, 48, 48, 48, 45, 48, 50] : List UInt8)))) else (some false))
theorem priceofficelaw05_awake.mono : ∀ k, LeO (priceofficelaw05_awake.f k ) (priceofficelaw05_awake.f (k + 1) ) := by
  intro  k
  unfold priceofficelaw05_awake.f
  repeat' first
      | (with_reducible exact calendar_FormatPeriod.mono _ _)
      | (with_reducible exact calendar_Number.mono _ _ _ _)
      | (with_reducible exact LeO.refl _)
      | (with_reducible exact LeO.none _)
      | (with_reducible refine LeO.ite ?_ ?_)
      | (with_reducible refine LeO.bind ?_ (fun _ => ?_))
      | exact calendar_FormatPeriod.mono _ _
      | exact calendar_Number.mono _ _ _ _
      | exact LeO.none _
      | refine LeO.ite ?_ ?_
      | refine LeO.bind ?_ (fun _ => ?_)
set_option maxHeartbeats 8000000 in
set_option maxRecDepth 100000 in
theorem priceofficelaw05_awake.calls (k : Nat)  (r : Bool) (w : World) (hG : GT w) (h : priceofficelaw05_awake.f k  = some r) :
    Calls Tryd.prog 18 #[] w fun e w' => e = .returned (.bool r) ∧ Below w.heap.size w w' := by
  have HG := Aside0.mk hG
  clear hG
  have hu23 := Tryd.underlying23
  have HB := Aside0.mk (Below.refl w.heap.size w)
  have H : ((calendar_Number.f k 2000 2 29).bind fun t129 => (if t129 = 36583 then ((calendar_FormatPeriod.f k 1201).bind fun t130 => (some (t130.toList == ([50, 48, 48, 48, 45, 48, 50] : List UInt8)))) else (some false))) = some r := h
  clear h
  replace H := Option.bind_eq_some_iff.mp H
  obtain ⟨t129, A10, H⟩ := H
  replace H : (if t129 = 36583 then ((calendar_FormatPeriod.f k 1201).bind fun t130 => (some (t130.toList == ([50, 48, 48, 48, 45, 48, 50] : List UInt8)))) else (some false)) = some r := H
  have A1 := Aside0.mk A10
  clear A10
  by_cases c2 : t129 = 36583
  · rw [if_pos c2] at H
    have c2b0 : (t129 == 36583) = true := beq_iff_eq.mpr c2
    have c2b1 : (t129 != 36583) = false := bne_eq_false_iff_eq.mpr c2
    clear c2
    replace H := Option.bind_eq_some_iff.mp H
    obtain ⟨t130, A30, H⟩ := H
    replace H : (some (t130.toList == ([50, 48, 48, 48, 45, 48, 50] : List UInt8))) = some r := H
    have A3 := Aside0.mk A30
    clear A30
    obtain rfl := Option.some.inj H
    go_enter Tryd.func18, Tryd.ntmps18
    go_wp2_with (first | ((with_reducible refine gate_callee (f := 16) rfl ?_); refine goesL_ (some 2) rfl rfl Tryd.func16 (by kernel_rfl) rfl #[.agg #[.int .i64 2000, .int .i64 2, .int .i64 29]] rfl (by (try simp only [List.map_toArray, List.map_cons, List.map_nil]); first | done | rfl | (simp only [List.length_drop, List.length_take]; rfl)) ?_; (with_reducible refine (calendar_Number.calls k 2000 2 29 t129 _ A1.out).mono ?_); rintro e w4 ⟨rfl, hb⟩; refine ⟨_, rfl, ?_⟩; have n0_ := Aside0.mk (below_step (by repeat (first | (with_reducible first | exact HB.out | apply below_alloc | apply pw_below_drewN | apply below_drew1) | exact HB.out)) hb); clear HB; have HB := n0_; clear n0_; (try clear hb); (try clear hb2); (try clear hk); (try clear hi)) | (go_at_call 40; (with_reducible refine (calendar_FormatPeriod.calls k 1201 t130 _ ?side1 A3.out).mono ?_); (case side1 => first | exact HG.out | exact GT.below HG.out (by repeat (first | (with_reducible first | exact HB.out | apply below_alloc | apply pw_below_drewN | apply below_drew1) | exact HB.out))); rintro e w5 ⟨rfl, hb⟩; have n0_ := Aside0.mk (below_step (by repeat (first | (with_reducible first | exact HB.out | apply below_alloc | apply pw_below_drewN | apply below_drew1) | exact HB.out)) hb); clear HB; have HB := n0_; clear n0_; (try clear hb); (try clear hb2); (try clear hk); (try clear hi)))
    go_ret
    exact ⟨by first | rfl | (simp [errW_none, errW_some] <;> rfl) | (simp [*, errW_none, errW_some] <;> rfl), by repeat (first | (with_reducible first | exact HB.out | apply below_alloc | apply pw_below_drewN | apply below_drew1) | exact HB.out)⟩
  · rw [if_neg c2] at H
    have c2b0 : (t129 == 36583) = false := beq_eq_false_iff_ne.mpr c2
    have c2b1 : (t129 != 36583) = true := bne_iff_ne.mpr c2
    obtain rfl := Option.some.inj H
    go_enter Tryd.func18, Tryd.ntmps18
    go_wp2_with (first | ((with_reducible refine gate_callee (f := 16) rfl ?_); refine goesL_ (some 2) rfl rfl Tryd.func16 (by kernel_rfl) rfl #[.agg #[.int .i64 2000, .int .i64 2, .int .i64 29]] rfl (by (try simp only [List.map_toArray, List.map_cons, List.map_nil]); first | done | rfl | (simp only [List.length_drop, List.length_take]; rfl)) ?_; (with_reducible refine (calendar_Number.calls k 2000 2 29 t129 _ A1.out).mono ?_); rintro e w6 ⟨rfl, hb⟩; refine ⟨_, rfl, ?_⟩; have n0_ := Aside0.mk (below_step (by repeat (first | (with_reducible first | exact HB.out | apply below_alloc | apply pw_below_drewN | apply below_drew1) | exact HB.out)) hb); clear HB; have HB := n0_; clear n0_; (try clear hb); (try clear hb2); (try clear hk); (try clear hi)))
    go_ret
    exact ⟨by first | rfl | (simp [errW_none, errW_some] <;> rfl) | (simp [*, errW_none, errW_some] <;> rfl), by repeat (first | (with_reducible first | exact HB.out | apply below_alloc | apply pw_below_drewN | apply below_drew1) | exact HB.out)⟩

end Go.Proofs.YtpbkdbicdimfhaaDoor.P
