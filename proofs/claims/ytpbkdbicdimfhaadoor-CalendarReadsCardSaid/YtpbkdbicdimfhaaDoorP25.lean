/- Lean functions with the same answers as the program's Go functions, and for each the proof that the call comes to these answers; written by a program of mine out of the translation, the functions marked 'by hand' by me. -/
import Derived.Test.YtpbkdbicdimfhaaDoorP0
import Derived.Test.YtpbkdbicdimfhaaDoorP24
namespace Go.Proofs.YtpbkdbicdimfhaaDoor.P
open Go.RowKit Go.Proofs.YtpbkdbicdimfhaaDoorW.PrintWords Go.Proofs.YtpbkdbicdimfhaaDoorW.PrintLast Go.Proofs.YtpbkdbicdimfhaaDoorW.PrintMore
attribute [local go_sem] max2_int min2_int max_two min_two max_three min_three max_four min_four   -- for this text's walks alone
set_option linter.unusedVariables false
set_option linter.unusedSimpArgs false

/-! ### calendar_ParsePeriod: function 43 -/
def calendar_ParsePeriod.f (k : Nat) (a0 : ByteArray) : Option (Int × Int) := if a0.size + 3 ≤ 9223372036854775807 then ((calendar_ParseDate.f k (a0 ++ (⟨#[45, 48, 49]⟩ : ByteArray))).bind fun bt399 => (if bt399.2.2.2 = 0 then (some (wrap64 ((wrap64 ((wrap64 (12 * (wrap64 (bt399.1 - 1900)))) + bt399.2.1)) - 1), 0)) else (some (0, 54)))) else (none)
theorem calendar_ParsePeriod.mono : ∀ a0 k, LeO (calendar_ParsePeriod.f k a0) (calendar_ParsePeriod.f (k + 1) a0) := by
  intro a0 k
  unfold calendar_ParsePeriod.f
  repeat' first
      | (with_reducible exact calendar_ParseDate.mono _ _)
      | (with_reducible exact LeO.refl _)
      | (with_reducible exact LeO.none _)
      | (with_reducible refine LeO.ite ?_ ?_)
      | (with_reducible refine LeO.bind ?_ (fun _ => ?_))
      | exact calendar_ParseDate.mono _ _
      | exact LeO.none _
      | refine LeO.ite ?_ ?_
      | refine LeO.bind ?_ (fun _ => ?_)
set_option maxHeartbeats 8000000 in
set_option maxRecDepth 100000 in
theorem calendar_ParsePeriod.calls (k : Nat) (a0 : ByteArray) (r1 : Int) (r2 : Int) (w : World) (hG : GL w) (h : calendar_ParsePeriod.f k a0 = some (r1, r2)) :
    Calls Tryd.prog 43 #[.string a0] w fun e w' => e = .returned (.tuple #[.int .i64 r1, .int .i64 r2]) ∧ Below w.heap.size w w' := by
  have HG := Aside0.mk hG
  clear hG
  have hu23 := Tryd.underlying23
  have HB := Aside0.mk (Below.refl w.heap.size w)
  have H : (if a0.size + 3 ≤ 9223372036854775807 then ((calendar_ParseDate.f k (a0 ++ (⟨#[45, 48, 49]⟩ : ByteArray))).bind fun bt399 => (if bt399.2.2.2 = 0 then (some (wrap64 ((wrap64 ((wrap64 (12 * (wrap64 (bt399.1 - 1900)))) + bt399.2.1)) - 1), 0)) else (some (0, 54)))) else (none)) = some (r1, r2) := h
  clear h
  by_cases c2 : a0.size + 3 ≤ 9223372036854775807
  · rw [if_pos c2] at H
    have c2b0 := eq_true c2
    have c2b1 : decide (a0.size + 3 ≤ 9223372036854775807) = true := decide_eq_true c2
    try have c2b2 : (9223372036854775807 < a0.size + 3) = False := eq_false (Nat.not_lt.2 c2)
    replace H := Option.bind_eq_some_iff.mp H
    obtain ⟨⟨t399, t400, t401, t402⟩, A30, H⟩ := H
    replace H : (if t402 = 0 then (some (wrap64 ((wrap64 ((wrap64 (12 * (wrap64 (t399 - 1900)))) + t400)) - 1), 0)) else (some (0, 54))) = some (r1, r2) := H
    have A3 := Aside0.mk A30
    clear A30
    by_cases c4 : t402 = 0
    · rw [if_pos c4] at H
      have c4b0 : (t402 == 0) = true := beq_iff_eq.mpr c4
      have c4b1 : (t402 != 0) = false := bne_eq_false_iff_eq.mpr c4
      clear c4
      simp only [Option.some.injEq, Prod.mk.injEq] at H
      obtain ⟨rfl, rfl⟩ := H
      go_enter Tryd.func43, Tryd.ntmps43
      go_wp2_with (first | ((with_reducible refine gate_callee (f := 44) rfl ?_); refine goesL_ (some 9) rfl rfl Tryd.func44 (by kernel_rfl) rfl #[.string (a0 ++ (⟨#[45, 48, 49]⟩ : ByteArray))] rfl (by (try simp only [List.map_toArray, List.map_cons, List.map_nil]); first | done | rfl | (simp only [List.length_drop, List.length_take]; rfl)) ?_; (with_reducible refine (calendar_ParseDate.calls k (a0 ++ (⟨#[45, 48, 49]⟩ : ByteArray)) t399 t400 t401 t402 _ ?side1 A3.out).mono ?_); (case side1 => first | exact HG.out | exact GL.below HG.out (by repeat (first | (with_reducible first | exact HB.out | apply below_alloc | apply pw_below_drewN | apply below_drew1) | exact HB.out))); rintro e w5 ⟨rfl, hb⟩; refine ⟨_, rfl, ?_⟩; have n0_ := Aside0.mk (below_step (by repeat (first | (with_reducible first | exact HB.out | apply below_alloc | apply pw_below_drewN | apply below_drew1) | exact HB.out)) hb); clear HB; have HB := n0_; clear n0_; (try clear hb); (try clear hb2); (try clear hk); (try clear hi)) | ((with_reducible refine gate_dst (N := 4) rfl ?_); refine box_event ?hg (N := 4) ?hd (cs := #[.int .i64 0, .int .i64 0, .int .i64 0]) (t := 23) ?hr ?_; (case hd => rfl); (case hg => rfl); (case hr => first | (go_simp; done) | (go_simp; rfl)); intro gb403 hg w6 hbox hb; have n0_ := Aside0.mk (below_step (by repeat (first | (with_reducible first | exact HB.out | apply below_alloc | apply pw_below_drewN | apply below_drew1) | exact HB.out)) hb); have n1_ := Aside0.mk (hbox); have n2_ := Aside0.mk ((by rw [hg]; exact (below_size (by repeat (first | (with_reducible first | exact HB.out | apply below_alloc | apply pw_below_drewN | apply below_drew1) | exact HB.out))) : w.heap.size ≤ gb403)); have n3_ := Aside0.mk ((by rw [hg]; exact (below_size (by repeat (first | (with_reducible first | exact HB.out | apply below_alloc | apply pw_below_drewN | apply below_drew1) | exact HB.out))) : w.heap.size ≤ gb403)); clear HB; have HB := n0_; have BK403 := n1_; have GW403 := n2_; have GE403 := n3_; clear n0_ n1_ n2_ n3_; clear hb hbox hg; have hcz7_0 : w6.cell? ⟨gb403, 0, none⟩ = some (.int .i64 0) := (blk_cell BK403.out 0).trans rfl; have hcz7_1 : w6.cell? ⟨gb403, 1, none⟩ = some (.int .i64 0) := (blk_cell BK403.out 1).trans rfl; have hcz7_2 : w6.cell? ⟨gb403, 2, none⟩ = some (.int .i64 0) := (blk_cell BK403.out 2).trans rfl; have hfz7_0 := blk_frozen BK403.out 0; have hfz7_1 := blk_frozen BK403.out 1; have hfz7_2 := blk_frozen BK403.out 2))
      go_ret2
      exact ⟨by first | rfl | (simp [errW_none, errW_some] <;> rfl) | (simp [*, errW_none, errW_some] <;> rfl), by repeat (first | (with_reducible first | exact HB.out | apply below_alloc | apply pw_below_drewN | apply below_drew1 | refine below_set ?_ GE403.out) | exact HB.out)⟩
    · rw [if_neg c4] at H
      have c4b0 : (t402 == 0) = false := beq_eq_false_iff_ne.mpr c4
      have c4b1 : (t402 != 0) = true := bne_iff_ne.mpr c4
      simp only [Option.some.injEq, Prod.mk.injEq] at H
      obtain ⟨rfl, rfl⟩ := H
      go_enter Tryd.func43, Tryd.ntmps43
      go_wp2_with (first | ((with_reducible refine gate_callee (f := 44) rfl ?_); refine goesL_ (some 9) rfl rfl Tryd.func44 (by kernel_rfl) rfl #[.string (a0 ++ (⟨#[45, 48, 49]⟩ : ByteArray))] rfl (by (try simp only [List.map_toArray, List.map_cons, List.map_nil]); first | done | rfl | (simp only [List.length_drop, List.length_take]; rfl)) ?_; (with_reducible refine (calendar_ParseDate.calls k (a0 ++ (⟨#[45, 48, 49]⟩ : ByteArray)) t399 t400 t401 t402 _ ?side1 A3.out).mono ?_); (case side1 => first | exact HG.out | exact GL.below HG.out (by repeat (first | (with_reducible first | exact HB.out | apply below_alloc | apply pw_below_drewN | apply below_drew1) | exact HB.out))); rintro e w8 ⟨rfl, hb⟩; refine ⟨_, rfl, ?_⟩; have n0_ := Aside0.mk (below_step (by repeat (first | (with_reducible first | exact HB.out | apply below_alloc | apply pw_below_drewN | apply below_drew1) | exact HB.out)) hb); clear HB; have HB := n0_; clear n0_; (try clear hb); (try clear hb2); (try clear hk); (try clear hi)) | ((with_reducible refine gate_dst (N := 4) rfl ?_); refine box_event ?hg (N := 4) ?hd (cs := #[.int .i64 0, .int .i64 0, .int .i64 0]) (t := 23) ?hr ?_; (case hd => rfl); (case hg => rfl); (case hr => first | (go_simp; done) | (go_simp; rfl)); intro gb403 hg w9 hbox hb; have n0_ := Aside0.mk (below_step (by repeat (first | (with_reducible first | exact HB.out | apply below_alloc | apply pw_below_drewN | apply below_drew1) | exact HB.out)) hb); have n1_ := Aside0.mk (hbox); have n2_ := Aside0.mk ((by rw [hg]; exact (below_size (by repeat (first | (with_reducible first | exact HB.out | apply below_alloc | apply pw_below_drewN | apply below_drew1) | exact HB.out))) : w.heap.size ≤ gb403)); have n3_ := Aside0.mk ((by rw [hg]; exact (below_size (by repeat (first | (with_reducible first | exact HB.out | apply below_alloc | apply pw_below_drewN | apply below_drew1) | exact HB.out))) : w.heap.size ≤ gb403)); clear HB; have HB := n0_; have BK403 := n1_; have GW403 := n2_; have GE403 := n3_; clear n0_ n1_ n2_ n3_; clear hb hbox hg; have hcz10_0 : w9.cell? ⟨gb403, 0, none⟩ = some (.int .i64 0) := (blk_cell BK403.out 0).trans rfl; have hcz10_1 : w9.cell? ⟨gb403, 1, none⟩ = some (.int .i64 0) := (blk_cell BK403.out 1).trans rfl; have hcz10_2 : w9.cell? ⟨gb403, 2, none⟩ = some (.int .i64 0) := (blk_cell BK403.out 2).trans rfl; have hfz10_0 := blk_frozen BK403.out 0; have hfz10_1 := blk_frozen BK403.out 1; have hfz10_2 := blk_frozen BK403.out 2))
      go_ret2
      exact ⟨by first | rfl | (simp [errW_none, errW_some] <;> rfl) | (simp [*, errW_none, errW_some] <;> rfl), by repeat (first | (with_reducible first | exact HB.out | apply below_alloc | apply pw_below_drewN | apply below_drew1 | refine below_set ?_ GE403.out) | exact HB.out)⟩
  · rw [if_neg c2] at H
    exact absurd H (by simp)

end Go.Proofs.YtpbkdbicdimfhaaDoor.P
