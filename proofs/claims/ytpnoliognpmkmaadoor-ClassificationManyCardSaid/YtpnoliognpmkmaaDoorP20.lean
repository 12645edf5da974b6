/- Lean functions with the same answers as the program's Go functions, and for each the proof that the call comes to these answers; written by a program of mine out of the translation, the functions marked 'by hand' by me. -/
import Derived.Test.YtpnoliognpmkmaaDoorP0
namespace Go.Proofs.YtpnoliognpmkmaaDoor.P
open Go.RowKit Go.Proofs.YtpnoliognpmkmaaDoorW.PrintWords Go.Proofs.YtpnoliognpmkmaaDoorW.PrintLast Go.Proofs.YtpnoliognpmkmaaDoorW.PrintMore
attribute [local go_sem] max2_int min2_int max_two min_two max_three min_three max_four min_four   -- for this text's walks alone
set_option linter.unusedVariables false
set_option linter.unusedSimpArgs false

/-! ### priceofficemake_Fold: function 40 -/
def priceofficemake_Fold.f (a0 : Int) (a1 : Int) : Option (Int) := if (IntKind.u64.wrap (mx a1 1)) = 0 then (none) else (some (wrap64 (Int.tmod (IntKind.u64.wrap (a0)) (IntKind.u64.wrap (mx a1 1)))))
set_option maxHeartbeats 8000000 in
set_option maxRecDepth 100000 in
theorem priceofficemake_Fold.calls (a0 : Int) (a1 : Int) (r : Int) (w : World) (h : priceofficemake_Fold.f a0 a1 = some r) :
    Calls Tryd.prog 40 #[.int .i64 a0, .int .i64 a1] w fun e w' => e = .returned (.int .i64 r) ∧ Below w.heap.size w w' := by
  have HB := Aside0.mk (Below.refl w.heap.size w)
  have H : (if (IntKind.u64.wrap (mx a1 1)) = 0 then (none) else (some (wrap64 (Int.tmod (IntKind.u64.wrap (a0)) (IntKind.u64.wrap (mx a1 1)))))) = some r := h
  clear h
  obtain ⟨ji3, hji3⟩ : ∃ j_ : Int, (mx a1 1) = j_ := ⟨_, rfl⟩
  replace H : (if (IntKind.u64.wrap (ji3)) = 0 then (none) else (some (wrap64 (Int.tmod (IntKind.u64.wrap (a0)) (IntKind.u64.wrap (ji3)))))) = some r := by first | (rw [hji3] at H; exact H) | (simp only [hji3] at H ⊢; exact H)
  (try (have hji3l : 1 ≤ ji3 := by (rw [← hji3]; unfold mx; (repeat' split) <;> omega)))
  (try (have hji3m : 0 ≤ ji3 := by omega))
  have hji3_ : (if a1 < 1 then 1 else a1) = ji3 := hji3
  by_cases c4 : (IntKind.u64.wrap (ji3)) = 0
  · rw [if_pos c4] at H
    exact absurd H (by simp)
  · rw [if_neg c4] at H
    have c4b0 : ((IntKind.u64.wrap (ji3)) == 0) = false := beq_eq_false_iff_ne.mpr c4
    have c4b1 : ((IntKind.u64.wrap (ji3)) != 0) = true := bne_iff_ne.mpr c4
    obtain rfl := Option.some.inj H
    go_enter Tryd.func40, Tryd.ntmps40
    go_wp2
    go_ret
    exact ⟨by first | rfl | (simp [errW_none, errW_some] <;> rfl) | (simp only [← hji3]; first | rfl | (simp [errW_none, errW_some] <;> rfl)) | (simp [*, errW_none, errW_some] <;> rfl), by repeat (first | (with_reducible first | exact HB.out | apply below_alloc | apply pw_below_drewN | apply below_drew1) | exact HB.out)⟩

end Go.Proofs.YtpnoliognpmkmaaDoor.P
