/- Lean functions with the same answers as the program's Go functions, and for each the proof that the call comes to these answers; written by a program of mine out of the translation, the functions marked 'by hand' by me. -/
import Derived.Test.YtpnoliognpmkmaaGreatDoorP0
import Derived.Test.YtpnoliognpmkmaaGreatDoorP4
namespace Go.Proofs.YtpnoliognpmkmaaGreatDoor.P
open Go.RowKit Go.Proofs.YtpnoliognpmkmaaGreatDoorW.PrintWords Go.Proofs.YtpnoliognpmkmaaGreatDoorW.PrintLast Go.Proofs.YtpnoliognpmkmaaGreatDoorW.PrintMore
attribute [local go_sem] max2_int min2_int max_two min_two max_three min_three max_four min_four   -- for this text's walks alone
set_option linter.unusedVariables false
set_option linter.unusedSimpArgs false

/-! ### r6_Compare: function 26 -/
mutual
def r6_Compare.l0 : Nat → List Int → List Int → Int → Option (Int)
 | 0, _, _, _ => none
 | k + 1, x6, x8, x10 => if x10 < (x6.length : Int) then (r6_Compare.j1 k x6 x8 x10 (decide (x10 < (x8.length : Int)))) else (r6_Compare.j1 k x6 x8 x10 false)
def r6_Compare.j1 : Nat → List Int → List Int → Int → Bool → Option (Int)
 | 0, _, _, _, _ => none
 | k + 1, x6, x8, x10, x41 => if x41 = true then (if 0 ≤ x10 then (if x10 < (x6.length : Int) then (if x10 < (x8.length : Int) then (if (rd x6 x10) = (rd x8 x10) then (r6_Compare.l0 k x6 x8 (wrap64 (x10 + 1))) else ((r6_order.f (rd x6 x10) (rd x8 x10)).bind fun t185 => (some t185))) else (none)) else (none)) else (none)) else ((r6_order.f (x6.length : Int) (x8.length : Int)).bind fun t186 => (some t186))
end
def r6_Compare.f (k : Nat) (a0 : ByteArray) (a1 : ByteArray) : Option (Int) := (r6_rank.f k a0).bind fun t169 => ((r6_rank.f k a1).bind fun t170 => ((r6_order.f t169 t170).bind fun t171 => (if t171 = 0 then ((r6_rank.f k a0).bind fun t172 => (if t172 = 1 then ((r6_Parse.f k a0).bind fun bt173 => ((r6_Parse.f k a1).bind fun bt177 => (r6_Compare.l0 k bt173.1 bt177.1 0))) else (if (Op.bytesLess a0.toList a1.toList) = true then (some (-1)) else (if (Op.bytesLess a1.toList a0.toList) = true then (some 1) else (some 0))))) else (some t171))))
theorem r6_Compare.mono_l : ∀ k, (∀ y0 y1 y2, LeO (r6_Compare.l0 k y0 y1 y2) (r6_Compare.l0 (k + 1) y0 y1 y2)) ∧ (∀ y0 y1 y2 y3, LeO (r6_Compare.j1 k y0 y1 y2 y3) (r6_Compare.j1 (k + 1) y0 y1 y2 y3))
 | 0 => ⟨fun _ _ _ r h => by simp [r6_Compare.l0] at h, fun _ _ _ _ r h => by simp [r6_Compare.j1] at h⟩
 | k + 1 => by
  obtain ⟨ih0, ih1⟩ := r6_Compare.mono_l k
  refine ⟨?_, ?_⟩
  ·intro y0 y1 y2
   unfold r6_Compare.l0
   repeat' first
   | (with_reducible exact ih0 _ _ _)
   | (with_reducible exact ih1 _ _ _ _)
   | (with_reducible exact r6_Parse.mono _ _)
   | (with_reducible exact r6_rank.mono _ _)
   | (with_reducible exact LeO.refl _)
   | (with_reducible exact LeO.none _)
   | (with_reducible refine LeO.ite ?_ ?_)
   | (with_reducible refine LeO.bind ?_ (fun _ => ?_))
  ·intro y0 y1 y2 y3
   unfold r6_Compare.j1
   repeat' first
   | (with_reducible exact ih0 _ _ _)
   | (with_reducible exact ih1 _ _ _ _)
   | (with_reducible exact r6_Parse.mono _ _)
   | (with_reducible exact r6_rank.mono _ _)
   | (with_reducible exact LeO.refl _)
   | (with_reducible exact LeO.none _)
   | (with_reducible refine LeO.ite ?_ ?_)
   | (with_reducible refine LeO.bind ?_ (fun _ => ?_))
theorem r6_Compare.mono : ∀ a0 a1 k, LeO (r6_Compare.f k a0 a1) (r6_Compare.f (k + 1) a0 a1) := by
 intro a0 a1 k
 obtain ⟨ih0, ih1⟩ := r6_Compare.mono_l k
 unfold r6_Compare.f
 repeat' first
   | (with_reducible exact ih0 _ _ _)
   | (with_reducible exact ih1 _ _ _ _)
   | (with_reducible exact r6_Parse.mono _ _)
   | (with_reducible exact r6_rank.mono _ _)
   | (with_reducible exact LeO.refl _)
   | (with_reducible exact LeO.none _)
   | (with_reducible refine LeO.ite ?_ ?_)
   | (with_reducible refine LeO.bind ?_ (fun _ => ?_))
set_option maxHeartbeats 8000000 in
set_option maxRecDepth 100000 in
theorem r6_Compare.calls (k : Nat) (a0 : ByteArray) (a1 : ByteArray) (r : Int) (w : World) (h : r6_Compare.f k a0 a1 = some r) :
  Calls Tryz.prog 26 #[.string a0, .string a1] w fun e w' => e = .returned (.int .i64 r) ∧ Below w.heap.size w w' := by
 have HB := mk0 (Below.refl w.heap.size w)
 have hgt9 := gtr_str 9 a0 a1
 have H : ((r6_rank.f k a0).bind fun t169 => ((r6_rank.f k a1).bind fun t170 => ((r6_order.f t169 t170).bind fun t171 => (if t171 = 0 then ((r6_rank.f k a0).bind fun t172 => (if t172 = 1 then ((r6_Parse.f k a0).bind fun bt173 => ((r6_Parse.f k a1).bind fun bt177 => (r6_Compare.l0 k bt173.1 bt177.1 0))) else (if (Op.bytesLess a0.toList a1.toList) = true then (some (-1)) else (if (Op.bytesLess a1.toList a0.toList) = true then (some 1) else (some 0))))) else (some t171))))) = some r := h
 clear h
 replace H := Option.bind_eq_some_iff.mp H
 obtain ⟨t169, A30, H⟩ := H
 replace H : ((r6_rank.f k a1).bind fun t170 => ((r6_order.f t169 t170).bind fun t171 => (if t171 = 0 then ((r6_rank.f k a0).bind fun t172 => (if t172 = 1 then ((r6_Parse.f k a0).bind fun bt173 => ((r6_Parse.f k a1).bind fun bt177 => (r6_Compare.l0 k bt173.1 bt177.1 0))) else (if (Op.bytesLess a0.toList a1.toList) = true then (some (-1)) else (if (Op.bytesLess a1.toList a0.toList) = true then (some 1) else (some 0))))) else (some t171)))) = some r := H
 have A3 := mk0 A30
 clear A30
 replace H := Option.bind_eq_some_iff.mp H
 obtain ⟨t170, A40, H⟩ := H
 replace H : ((r6_order.f t169 t170).bind fun t171 => (if t171 = 0 then ((r6_rank.f k a0).bind fun t172 => (if t172 = 1 then ((r6_Parse.f k a0).bind fun bt173 => ((r6_Parse.f k a1).bind fun bt177 => (r6_Compare.l0 k bt173.1 bt177.1 0))) else (if (Op.bytesLess a0.toList a1.toList) = true then (some (-1)) else (if (Op.bytesLess a1.toList a0.toList) = true then (some 1) else (some 0))))) else (some t171))) = some r := H
 have A4 := mk0 A40
 clear A40
 replace H := Option.bind_eq_some_iff.mp H
 obtain ⟨t171, A50, H⟩ := H
 replace H : (if t171 = 0 then ((r6_rank.f k a0).bind fun t172 => (if t172 = 1 then ((r6_Parse.f k a0).bind fun bt173 => ((r6_Parse.f k a1).bind fun bt177 => (r6_Compare.l0 k bt173.1 bt177.1 0))) else (if (Op.bytesLess a0.toList a1.toList) = true then (some (-1)) else (if (Op.bytesLess a1.toList a0.toList) = true then (some 1) else (some 0))))) else (some t171)) = some r := H
 have A5 := mk0 A50
 clear A50
 by_cases c6 : t171 = 0
 ·rw [if_pos c6] at H
  have c6b0 : (t171 == 0) = true := beq_iff_eq.mpr c6
  have c6b1 : (t171 != 0) = false := bne_eq_false_iff_eq.mpr c6
  clear c6
  replace H := Option.bind_eq_some_iff.mp H
  obtain ⟨t172, A70, H⟩ := H
  replace H : (if t172 = 1 then ((r6_Parse.f k a0).bind fun bt173 => ((r6_Parse.f k a1).bind fun bt177 => (r6_Compare.l0 k bt173.1 bt177.1 0))) else (if (Op.bytesLess a0.toList a1.toList) = true then (some (-1)) else (if (Op.bytesLess a1.toList a0.toList) = true then (some 1) else (some 0)))) = some r := H
  have A7 := mk0 A70
  have esame := Option.some.inj (A70.symm.trans A3.out)
  clear A70
  by_cases c8 : t172 = 1
  ·rw [if_pos c8] at H
   have c8b0 : (t172 == 1) = true := beq_iff_eq.mpr c8
   (try have c8b0x := c8b0)
   (try rw [esame] at c8b0x)
   have c8b1 : (t172 != 1) = false := bne_eq_false_iff_eq.mpr c8
   (try have c8b1x := c8b1)
   (try rw [esame] at c8b1x)
   clear c8
   replace H := Option.bind_eq_some_iff.mp H
   obtain ⟨⟨t173, t174⟩, A90, H⟩ := H
   replace H : ((r6_Parse.f k a1).bind fun bt177 => (r6_Compare.l0 k t173 bt177.1 0)) = some r := H
   have A9 := mk0 A90
   clear A90
   replace H := Option.bind_eq_some_iff.mp H
   obtain ⟨⟨t177, t178⟩, A100, H⟩ := H
   replace H : (r6_Compare.l0 k t173 t177 0) = some r := H
   have A10 := mk0 A100
   clear A100
   have H' := mk0 H
   clear H
   go_enter Tryz.func26, Tryz.ntmps26
   go_wp2_with (first | (go_at_call 42; (with_reducible refine (r6_rank.calls k a0 t169 _ A3.out).mono ?_); rintro e w11 ⟨rfl, hb⟩; have n0_ := mk0 (below_step (by repeat (with_reducible first | exact HB.out | apply b_a | apply b_n | apply b_d)) hb); clear HB; have HB := n0_; clear n0_; (try clear hb); (try clear hb2); (try clear hk); (try clear hi)) | (go_at_call 42; (with_reducible refine (r6_rank.calls k a1 t170 _ A4.out).mono ?_); rintro e w12 ⟨rfl, hb⟩; have n0_ := mk0 (below_step (by repeat (with_reducible first | exact HB.out | apply b_a | apply b_n | apply b_d)) hb); clear HB; have HB := n0_; clear n0_; (try clear hb); (try clear hb2); (try clear hk); (try clear hi)) | (go_at_call 41; (with_reducible refine (r6_order.calls t169 t170 t171 _ A5.out).mono ?_); rintro e w' ⟨rfl, ⟨nd, rfl⟩⟩; (try first | exact ⟨rfl, _, World.drewN_drewN _ _ _⟩ | exact ⟨rfl, _, Eq.trans (World.drewN_drewN _ _ _) (congrArg (World.drewN _) (Nat.add_assoc _ _ _))⟩)) | (go_at_call 42; (with_reducible refine (r6_rank.calls k a0 t172 _ A7.out).mono ?_); rintro e w13 ⟨rfl, hb⟩; have n0_ := mk0 (below_step (by repeat (with_reducible first | exact HB.out | apply b_a | apply b_n | apply b_d)) hb); clear HB; have HB := n0_; clear n0_; (try clear hb); (try clear hb2); (try clear hk); (try clear hi)) | (go_at_call 27; (with_reducible refine (r6_Parse.calls k a0 t173 t174 _ A9.out).mono ?_); rintro e w14 ⟨v175, rfl, ho0, hb⟩; have n0_ := mk0 (Kd.R_lower ho0 (below_size (by repeat (with_reducible first | exact HB.out | apply b_a | apply b_n | apply b_d)))); have n1_ := mk0 (below_step (by repeat (with_reducible first | exact HB.out | apply b_a | apply b_n | apply b_d)) hb); clear HB; have HO176 := n0_; have HB := n1_; clear n0_ n1_; (try clear hb); (try clear hb2); (try clear hk); (try clear hi); (try clear ho0)) | (go_at_call 27; (with_reducible refine (r6_Parse.calls k a1 t177 t178 _ A10.out).mono ?_); rintro e w15 ⟨v179, rfl, ho0, hb⟩; have n0_ := mk0 (Kd.R_elder' (by (with_reducible repeat (first | apply r_a | apply r_n | apply r_d)); exact HO176.out) (Kd.R_base ho0) hb); have n1_ := mk0 (Kd.R_lower (Kd.R_new' ho0 (Kd.R_lt (by (with_reducible repeat (first | apply r_a | apply r_n | apply r_d)); exact HO176.out))) (below_size (by repeat (with_reducible first | exact HB.out | apply b_a | apply b_n | apply b_d)))); have n2_ := mk0 (below_step (by repeat (with_reducible first | exact HB.out | apply b_a | apply b_n | apply b_d)) hb); clear HO176; clear HB; have HO176 := n0_; have HO180 := n1_; have HB := n2_; clear n0_ n1_ n2_; (try clear hb); (try clear hb2); (try clear hk); (try clear hi); (try clear ho0)))
   repeat (go_quiet (first | (go_at_call 42; (with_reducible refine (r6_rank.calls k a0 t169 _ A3.out).mono ?_); rintro e w11 ⟨rfl, hb⟩; have n0_ := mk0 (below_step (by repeat (with_reducible first | exact HB.out | apply b_a | apply b_n | apply b_d)) hb); clear HB; have HB := n0_; clear n0_; (try clear hb); (try clear hb2); (try clear hk); (try clear hi)) | (go_at_call 42; (with_reducible refine (r6_rank.calls k a1 t170 _ A4.out).mono ?_); rintro e w12 ⟨rfl, hb⟩; have n0_ := mk0 (below_step (by repeat (with_reducible first | exact HB.out | apply b_a | apply b_n | apply b_d)) hb); clear HB; have HB := n0_; clear n0_; (try clear hb); (try clear hb2); (try clear hk); (try clear hi)) | (go_at_call 41; (with_reducible refine (r6_order.calls t169 t170 t171 _ A5.out).mono ?_); rintro e w' ⟨rfl, ⟨nd, rfl⟩⟩; (try first | exact ⟨rfl, _, World.drewN_drewN _ _ _⟩ | exact ⟨rfl, _, Eq.trans (World.drewN_drewN _ _ _) (congrArg (World.drewN _) (Nat.add_assoc _ _ _))⟩)) | (go_at_call 42; (with_reducible refine (r6_rank.calls k a0 t172 _ A7.out).mono ?_); rintro e w13 ⟨rfl, hb⟩; have n0_ := mk0 (below_step (by repeat (with_reducible first | exact HB.out | apply b_a | apply b_n | apply b_d)) hb); clear HB; have HB := n0_; clear n0_; (try clear hb); (try clear hb2); (try clear hk); (try clear hi)) | (go_at_call 27; (with_reducible refine (r6_Parse.calls k a0 t173 t174 _ A9.out).mono ?_); rintro e w14 ⟨v175, rfl, ho0, hb⟩; have n0_ := mk0 (Kd.R_lower ho0 (below_size (by repeat (with_reducible first | exact HB.out | apply b_a | apply b_n | apply b_d)))); have n1_ := mk0 (below_step (by repeat (with_reducible first | exact HB.out | apply b_a | apply b_n | apply b_d)) hb); clear HB; have HO176 := n0_; have HB := n1_; clear n0_ n1_; (try clear hb); (try clear hb2); (try clear hk); (try clear hi); (try clear ho0)) | (go_at_call 27; (with_reducible refine (r6_Parse.calls k a1 t177 t178 _ A10.out).mono ?_); rintro e w15 ⟨v179, rfl, ho0, hb⟩; have n0_ := mk0 (Kd.R_elder' (by (with_reducible repeat (first | apply r_a | apply r_n | apply r_d)); exact HO176.out) (Kd.R_base ho0) hb); have n1_ := mk0 (Kd.R_lower (Kd.R_new' ho0 (Kd.R_lt (by (with_reducible repeat (first | apply r_a | apply r_n | apply r_d)); exact HO176.out))) (below_size (by repeat (with_reducible first | exact HB.out | apply b_a | apply b_n | apply b_d)))); have n2_ := mk0 (below_step (by repeat (with_reducible first | exact HB.out | apply b_a | apply b_n | apply b_d)) hb); clear HO176; clear HB; have HO176 := n0_; have HO180 := n1_; have HB := n2_; clear n0_ n1_ n2_; (try clear hb); (try clear hb2); (try clear hk); (try clear hi); (try clear ho0))); try go_wp2_with (first | (go_at_call 42; (with_reducible refine (r6_rank.calls k a0 t169 _ A3.out).mono ?_); rintro e w11 ⟨rfl, hb⟩; have n0_ := mk0 (below_step (by repeat (with_reducible first | exact HB.out | apply b_a | apply b_n | apply b_d)) hb); clear HB; have HB := n0_; clear n0_; (try clear hb); (try clear hb2); (try clear hk); (try clear hi)) | (go_at_call 42; (with_reducible refine (r6_rank.calls k a1 t170 _ A4.out).mono ?_); rintro e w12 ⟨rfl, hb⟩; have n0_ := mk0 (below_step (by repeat (with_reducible first | exact HB.out | apply b_a | apply b_n | apply b_d)) hb); clear HB; have HB := n0_; clear n0_; (try clear hb); (try clear hb2); (try clear hk); (try clear hi)) | (go_at_call 41; (with_reducible refine (r6_order.calls t169 t170 t171 _ A5.out).mono ?_); rintro e w' ⟨rfl, ⟨nd, rfl⟩⟩; (try first | exact ⟨rfl, _, World.drewN_drewN _ _ _⟩ | exact ⟨rfl, _, Eq.trans (World.drewN_drewN _ _ _) (congrArg (World.drewN _) (Nat.add_assoc _ _ _))⟩)) | (go_at_call 42; (with_reducible refine (r6_rank.calls k a0 t172 _ A7.out).mono ?_); rintro e w13 ⟨rfl, hb⟩; have n0_ := mk0 (below_step (by repeat (with_reducible first | exact HB.out | apply b_a | apply b_n | apply b_d)) hb); clear HB; have HB := n0_; clear n0_; (try clear hb); (try clear hb2); (try clear hk); (try clear hi)) | (go_at_call 27; (with_reducible refine (r6_Parse.calls k a0 t173 t174 _ A9.out).mono ?_); rintro e w14 ⟨v175, rfl, ho0, hb⟩; have n0_ := mk0 (Kd.R_lower ho0 (below_size (by repeat (with_reducible first | exact HB.out | apply b_a | apply b_n | apply b_d)))); have n1_ := mk0 (below_step (by repeat (with_reducible first | exact HB.out | apply b_a | apply b_n | apply b_d)) hb); clear HB; have HO176 := n0_; have HB := n1_; clear n0_ n1_; (try clear hb); (try clear hb2); (try clear hk); (try clear hi); (try clear ho0)) | (go_at_call 27; (with_reducible refine (r6_Parse.calls k a1 t177 t178 _ A10.out).mono ?_); rintro e w15 ⟨v179, rfl, ho0, hb⟩; have n0_ := mk0 (Kd.R_elder' (by (with_reducible repeat (first | apply r_a | apply r_n | apply r_d)); exact HO176.out) (Kd.R_base ho0) hb); have n1_ := mk0 (Kd.R_lower (Kd.R_new' ho0 (Kd.R_lt (by (with_reducible repeat (first | apply r_a | apply r_n | apply r_d)); exact HO176.out))) (below_size (by repeat (with_reducible first | exact HB.out | apply b_a | apply b_n | apply b_d)))); have n2_ := mk0 (below_step (by repeat (with_reducible first | exact HB.out | apply b_a | apply b_n | apply b_d)) hb); clear HO176; clear HB; have HO176 := n0_; have HO180 := n1_; have HB := n2_; clear n0_ n1_ n2_; (try clear hb); (try clear hb2); (try clear hk); (try clear hi); (try clear ho0))))
   go_loopg [10] k (fun kq v10 w' => ∃ (x10_1 : Int), v10 = .int .i64 x10_1 ∧ Aside0 (r6_Compare.l0 kq t173 t177 x10_1 = some r) ∧ Aside0 (kq ≤ k) ∧ Aside0 (Kd.R (Kd.int .i64) 3 w' w.heap.size (fun k_ => some k_ ≠ (v179 : Value).ownBlock) v175 t173) ∧ Aside0 (Kd.R (Kd.int .i64) 3 w' w.heap.size (fun k_ => some k_ ≠ (v175 : Value).ownBlock) v179 t177) ∧ Aside0 (Below w.heap.size w w'))
   case atStart => exact ⟨(0), (by first | rfl | (simp; done) | (simp [*]; done)), H', ⟨Nat.le_refl _⟩, ⟨by (with_reducible repeat (first | apply r_a | apply r_n | apply r_d)); exact Kd.R_mono HO176.out (fun _ hk => hk.2)⟩, ⟨by (with_reducible repeat (first | apply r_a | apply r_n | apply r_d)); exact Kd.R_mono HO180.out (fun _ hk => hk.2)⟩, ⟨by repeat (first | (with_reducible first | exact HB.out | apply b_a | apply b_n | apply b_d) | exact HB.out)⟩⟩
   case round =>
    clear H'
    try clear c2
    try clear p2
    try clear c6
    try clear c6b0
    try clear c6b1
    try clear c8
    try clear c8b0
    try clear c8b1
    obtain ⟨x10_1, rfl, HA, HK1, HO_6, HO_8, HB⟩ := hrel
    cases gk with
    | zero => exact absurd HA.out (by simp [r6_Compare.l0])
    | succ k1 =>
     have H := HA.out
     clear HA
     simp only [r6_Compare.l0] at H
     have HC16 := mk0 H
     clear H
     go_upto_region 8 with (fail)
     repeat (go_quiet (fail); go_upto_region 8 with (fail))
     go_cut [41] (fun v41 wc => ∃ (kq : Nat) (x41_55 : Bool), v41 = .bool x41_55 ∧ Aside0 (r6_Compare.j1 kq t173 t177 x10_1 x41_55 = some r) ∧ Aside0 (kq ≤ k1) ∧ Aside0 (Kd.R (Kd.int .i64) 3 wc w.heap.size (fun k_ => some k_ ≠ (v179 : Value).ownBlock) v175 t173) ∧ Aside0 (Kd.R (Kd.int .i64) 3 wc w.heap.size (fun k_ => some k_ ≠ (v175 : Value).ownBlock) v179 t177) ∧ Aside0 (Below w.heap.size w wc))
     case first =>
      have H := HC16.out
      clear HC16
      by_cases c17 : x10_1 < (t173.length : Int)
      ·rw [if_pos c17] at H
       have c17b0 : decide (x10_1 < (t173.length : Int)) = true := decide_eq_true c17
       clear c17
       (first | rw [c17b0] | (simp only [i64_w, i32_w]; rw [c17b0]) | skip)
       have H' := mk0 H
       clear H
       obtain ⟨Ao18, co18, eo18⟩ := Kd.R_slice HO_6.out
       subst eo18
       obtain ⟨Ao19, co19, eo19⟩ := Kd.R_slice HO_8.out
       subst eo19
       go_wp2
       repeat (go_quiet (fail); try go_wp2)
       go_meet
       case rel => exact ⟨_, (decide (x10_1 < (t177.length : Int))), (by first | rfl | (simp; done) | (simp [*]; done)), H', ⟨by have := HK1.out; first | omega | exact Nat.le_refl _⟩, ⟨by (with_reducible repeat (first | apply r_a | apply r_n | apply r_d)); exact HO_6.out⟩, ⟨by (with_reducible repeat (first | apply r_a | apply r_n | apply r_d)); exact HO_8.out⟩, ⟨by repeat (first | (with_reducible first | exact HB.out | apply b_a | apply b_n | apply b_d) | exact HB.out)⟩⟩
      ·rw [if_neg c17] at H
       have c17b0 : decide (x10_1 < (t173.length : Int)) = false := decide_eq_false c17
       clear c17
       (first | rw [c17b0] | (simp only [i64_w, i32_w]; rw [c17b0]) | skip)
       have H' := mk0 H
       clear H
       obtain ⟨Ao20, co20, eo20⟩ := Kd.R_slice HO_6.out
       subst eo20
       go_wp2
       repeat (go_quiet (fail); try go_wp2)
       go_meet
       case rel => exact ⟨_, (false), (by first | rfl | (simp; done) | (simp [*]; done)), H', ⟨by have := HK1.out; first | omega | exact Nat.le_refl _⟩, ⟨by (with_reducible repeat (first | apply r_a | apply r_n | apply r_d)); exact HO_6.out⟩, ⟨by (with_reducible repeat (first | apply r_a | apply r_n | apply r_d)); exact HO_8.out⟩, ⟨by repeat (first | (with_reducible first | exact HB.out | apply b_a | apply b_n | apply b_d) | exact HB.out)⟩⟩
     case rest =>
      clear HC16
      try clear c1
      try clear c2
      try clear p2
      try clear c6
      try clear c6b0
      try clear c6b1
      try clear c8
      try clear c8b0
      try clear c8b1
      try clear c17
      try clear c17b0
      try clear p2
      obtain ⟨kq, x41_55, rfl, HA, HJ55, HO_6, HO_8, HB⟩ := hcut
      cases kq with
      | zero => exact absurd HA.out (by simp [r6_Compare.j1])
      | succ kj55 =>
       have H := HA.out
       clear HA
       simp only [r6_Compare.j1] at H
       by_cases c21 : x41_55 = true
       ·subst c21
        have H1 : (if 0 ≤ x10_1 then (if x10_1 < (t173.length : Int) then (if x10_1 < (t177.length : Int) then (if (rd t173 x10_1) = (rd t177 x10_1) then (r6_Compare.l0 kj55 t173 t177 (wrap64 (x10_1 + 1))) else ((r6_order.f (rd t173 x10_1) (rd t177 x10_1)).bind fun t185 => (some t185))) else (none)) else (none)) else (none)) = some r := by rw [if_pos rfl] at H; exact H
        clear H
        have H := H1
        clear H1
        by_cases c22 : 0 ≤ x10_1
        ·rw [if_pos c22] at H
         have c22b0 : decide (0 ≤ x10_1) = true := decide_eq_true c22
         clear c22
         by_cases c23 : x10_1 < (t173.length : Int)
         ·rw [if_pos c23] at H
          have c23b0 : decide (x10_1 < (t173.length : Int)) = true := decide_eq_true c23
          clear c23
          by_cases c24 : x10_1 < (t177.length : Int)
          ·rw [if_pos c24] at H
           have c24b0 : decide (x10_1 < (t177.length : Int)) = true := decide_eq_true c24
           clear c24
           by_cases c25 : (rd t173 x10_1) = (rd t177 x10_1)
           ·rw [if_pos c25] at H
            have c25b0 : ((rd t173 x10_1) == (rd t177 x10_1)) = true := beq_iff_eq.mpr c25
            have c25b1 : ((rd t173 x10_1) != (rd t177 x10_1)) = false := bne_eq_false_iff_eq.mpr c25
            clear c25
            have H' := mk0 H
            clear H
            obtain ⟨Ao26, co26, eo26⟩ := Kd.R_slice HO_6.out
            subst eo26
            have p181 : 0 ≤ (x10_1 : Int) := of_decide_eq_true (by assumption)
            have q181 : x10_1 < (t173.length : Int) := of_decide_eq_true (by assumption)
            obtain ⟨ad181, e181, hx181_0⟩ := Kd.at_int (Kd.R_reads' HO_6.out).2.2 x10_1 p181 q181
            cases e181
            replace p181 := eq_true p181
            replace q181 := eq_true q181
            obtain ⟨Ao27, co27, eo27⟩ := Kd.R_slice HO_8.out
            subst eo27
            have p182 : 0 ≤ (x10_1 : Int) := of_decide_eq_true (by assumption)
            have q182 : x10_1 < (t177.length : Int) := of_decide_eq_true (by assumption)
            obtain ⟨ad182, e182, hx182_0⟩ := Kd.at_int (Kd.R_reads' HO_8.out).2.2 x10_1 p182 q182
            cases e182
            replace p182 := eq_true p182
            replace q182 := eq_true q182
            go_wp2
            repeat (go_quiet (fail); try go_wp2)
            go_roundg kj55
            case measure => have := HK1.out; have := HJ55.out; omega
            case rel => exact ⟨(wrap64 (x10_1 + 1)), (by first | rfl | (simp; done) | (simp [*]; done)), H', ⟨by have := HK1.out; have := HJ55.out; omega⟩, ⟨by (with_reducible repeat (first | apply r_a | apply r_n | apply r_d)); exact HO_6.out⟩, ⟨by (with_reducible repeat (first | apply r_a | apply r_n | apply r_d)); exact HO_8.out⟩, ⟨by repeat (first | (with_reducible first | exact HB.out | apply b_a | apply b_n | apply b_d) | exact HB.out)⟩⟩
           ·rw [if_neg c25] at H
            have c25b0 : ((rd t173 x10_1) == (rd t177 x10_1)) = false := beq_eq_false_iff_ne.mpr c25
            have c25b1 : ((rd t173 x10_1) != (rd t177 x10_1)) = true := bne_iff_ne.mpr c25
            replace H := Option.bind_eq_some_iff.mp H
            obtain ⟨t185, A280, H⟩ := H
            replace H : (some t185) = some r := H
            have A28 := mk0 A280
            clear A280
            obtain rfl := Option.some.inj H
            obtain ⟨Ao29, co29, eo29⟩ := Kd.R_slice HO_6.out
            subst eo29
            have p181 : 0 ≤ (x10_1 : Int) := of_decide_eq_true (by assumption)
            have q181 : x10_1 < (t173.length : Int) := of_decide_eq_true (by assumption)
            obtain ⟨ad181, e181, hx181_0⟩ := Kd.at_int (Kd.R_reads' HO_6.out).2.2 x10_1 p181 q181
            cases e181
            replace p181 := eq_true p181
            replace q181 := eq_true q181
            obtain ⟨Ao30, co30, eo30⟩ := Kd.R_slice HO_8.out
            subst eo30
            have p182 : 0 ≤ (x10_1 : Int) := of_decide_eq_true (by assumption)
            have q182 : x10_1 < (t177.length : Int) := of_decide_eq_true (by assumption)
            obtain ⟨ad182, e182, hx182_0⟩ := Kd.at_int (Kd.R_reads' HO_8.out).2.2 x10_1 p182 q182
            cases e182
            replace p182 := eq_true p182
            replace q182 := eq_true q182
            have p183 : 0 ≤ (x10_1 : Int) := of_decide_eq_true (by assumption)
            have q183 : x10_1 < (t173.length : Int) := of_decide_eq_true (by assumption)
            obtain ⟨ad183, e183, hx183_0⟩ := Kd.at_int (Kd.R_reads' HO_6.out).2.2 x10_1 p183 q183
            obtain rfl : ad181 = ad183 := (by injection e183)
            replace p183 := eq_true p183
            replace q183 := eq_true q183
            have p184 : 0 ≤ (x10_1 : Int) := of_decide_eq_true (by assumption)
            have q184 : x10_1 < (t177.length : Int) := of_decide_eq_true (by assumption)
            obtain ⟨ad184, e184, hx184_0⟩ := Kd.at_int (Kd.R_reads' HO_8.out).2.2 x10_1 p184 q184
            obtain rfl : ad182 = ad184 := (by injection e184)
            replace p184 := eq_true p184
            replace q184 := eq_true q184
            go_wp2_with (first | (go_at_call 41; (with_reducible refine (r6_order.calls (rd t173 x10_1) (rd t177 x10_1) t185 _ A28.out).mono ?_); rintro e w' ⟨rfl, ⟨nd, rfl⟩⟩; (try first | exact ⟨rfl, _, World.drewN_drewN _ _ _⟩ | exact ⟨rfl, _, Eq.trans (World.drewN_drewN _ _ _) (congrArg (World.drewN _) (Nat.add_assoc _ _ _))⟩)))
            repeat (go_quiet (first | (go_at_call 41; (with_reducible refine (r6_order.calls (rd t173 x10_1) (rd t177 x10_1) t185 _ A28.out).mono ?_); rintro e w' ⟨rfl, ⟨nd, rfl⟩⟩; (try first | exact ⟨rfl, _, World.drewN_drewN _ _ _⟩ | exact ⟨rfl, _, Eq.trans (World.drewN_drewN _ _ _) (congrArg (World.drewN _) (Nat.add_assoc _ _ _))⟩))); try go_wp2_with (first | (go_at_call 41; (with_reducible refine (r6_order.calls (rd t173 x10_1) (rd t177 x10_1) t185 _ A28.out).mono ?_); rintro e w' ⟨rfl, ⟨nd, rfl⟩⟩; (try first | exact ⟨rfl, _, World.drewN_drewN _ _ _⟩ | exact ⟨rfl, _, Eq.trans (World.drewN_drewN _ _ _) (congrArg (World.drewN _) (Nat.add_assoc _ _ _))⟩))))
            go_ret
            exact ⟨by first | rfl | (simp [errW_none, errW_some] <;> rfl) | (simp [*, errW_none, errW_some] <;> rfl), by repeat (first | (with_reducible first | exact HB.out | apply b_a | apply b_n | apply b_d) | exact HB.out)⟩
          ·rw [if_neg c24] at H
           exact absurd H (by simp)
         ·rw [if_neg c23] at H
          exact absurd H (by simp)
        ·rw [if_neg c22] at H
         exact absurd H (by simp)
       ·replace c21 := Bool.eq_false_iff.mpr c21
        subst c21
        have H1 : ((r6_order.f (t173.length : Int) (t177.length : Int)).bind fun t186 => (some t186)) = some r := by rw [if_neg (show ¬ (false = true) by decide)] at H; exact H
        clear H
        have H := H1
        clear H1
        replace H := Option.bind_eq_some_iff.mp H
        obtain ⟨t186, A310, H⟩ := H
        replace H : (some t186) = some r := H
        have A31 := mk0 A310
        clear A310
        obtain rfl := Option.some.inj H
        obtain ⟨Ao32, co32, eo32⟩ := Kd.R_slice HO_6.out
        subst eo32
        obtain ⟨Ao33, co33, eo33⟩ := Kd.R_slice HO_8.out
        subst eo33
        go_wp2_with (first | (go_at_call 41; (with_reducible refine (r6_order.calls (t173.length : Int) (t177.length : Int) t186 _ A31.out).mono ?_); rintro e w' ⟨rfl, ⟨nd, rfl⟩⟩; (try first | exact ⟨rfl, _, World.drewN_drewN _ _ _⟩ | exact ⟨rfl, _, Eq.trans (World.drewN_drewN _ _ _) (congrArg (World.drewN _) (Nat.add_assoc _ _ _))⟩)))
        repeat (go_quiet (first | (go_at_call 41; (with_reducible refine (r6_order.calls (t173.length : Int) (t177.length : Int) t186 _ A31.out).mono ?_); rintro e w' ⟨rfl, ⟨nd, rfl⟩⟩; (try first | exact ⟨rfl, _, World.drewN_drewN _ _ _⟩ | exact ⟨rfl, _, Eq.trans (World.drewN_drewN _ _ _) (congrArg (World.drewN _) (Nat.add_assoc _ _ _))⟩))); try go_wp2_with (first | (go_at_call 41; (with_reducible refine (r6_order.calls (t173.length : Int) (t177.length : Int) t186 _ A31.out).mono ?_); rintro e w' ⟨rfl, ⟨nd, rfl⟩⟩; (try first | exact ⟨rfl, _, World.drewN_drewN _ _ _⟩ | exact ⟨rfl, _, Eq.trans (World.drewN_drewN _ _ _) (congrArg (World.drewN _) (Nat.add_assoc _ _ _))⟩))))
        go_ret
        exact ⟨by first | rfl | (simp [errW_none, errW_some] <;> rfl) | (simp [*, errW_none, errW_some] <;> rfl), by repeat (first | (with_reducible first | exact HB.out | apply b_a | apply b_n | apply b_d) | exact HB.out)⟩
  ·rw [if_neg c8] at H
   have c8b0 : (t172 == 1) = false := beq_eq_false_iff_ne.mpr c8
   (try have c8b0x := c8b0)
   (try rw [esame] at c8b0x)
   have c8b1 : (t172 != 1) = true := bne_iff_ne.mpr c8
   (try have c8b1x := c8b1)
   (try rw [esame] at c8b1x)
   by_cases c34 : (Op.bytesLess a0.toList a1.toList) = true
   ·rw [if_pos c34] at H
    have c34b0 : (Op.bytesLess a0.toList a1.toList) = true := c34
    clear c34
    obtain rfl := Option.some.inj H
    go_enter Tryz.func26, Tryz.ntmps26
    go_wp2_with (first | (go_at_call 42; (with_reducible refine (r6_rank.calls k a0 t169 _ A3.out).mono ?_); rintro e w35 ⟨rfl, hb⟩; have n0_ := mk0 (below_step (by repeat (with_reducible first | exact HB.out | apply b_a | apply b_n | apply b_d)) hb); clear HB; have HB := n0_; clear n0_; (try clear hb); (try clear hb2); (try clear hk); (try clear hi)) | (go_at_call 42; (with_reducible refine (r6_rank.calls k a1 t170 _ A4.out).mono ?_); rintro e w36 ⟨rfl, hb⟩; have n0_ := mk0 (below_step (by repeat (with_reducible first | exact HB.out | apply b_a | apply b_n | apply b_d)) hb); clear HB; have HB := n0_; clear n0_; (try clear hb); (try clear hb2); (try clear hk); (try clear hi)) | (go_at_call 41; (with_reducible refine (r6_order.calls t169 t170 t171 _ A5.out).mono ?_); rintro e w' ⟨rfl, ⟨nd, rfl⟩⟩; (try first | exact ⟨rfl, _, World.drewN_drewN _ _ _⟩ | exact ⟨rfl, _, Eq.trans (World.drewN_drewN _ _ _) (congrArg (World.drewN _) (Nat.add_assoc _ _ _))⟩)) | (go_at_call 42; (with_reducible refine (r6_rank.calls k a0 t172 _ A7.out).mono ?_); rintro e w37 ⟨rfl, hb⟩; have n0_ := mk0 (below_step (by repeat (with_reducible first | exact HB.out | apply b_a | apply b_n | apply b_d)) hb); clear HB; have HB := n0_; clear n0_; (try clear hb); (try clear hb2); (try clear hk); (try clear hi)))
    repeat (go_quiet (first | (go_at_call 42; (with_reducible refine (r6_rank.calls k a0 t169 _ A3.out).mono ?_); rintro e w35 ⟨rfl, hb⟩; have n0_ := mk0 (below_step (by repeat (with_reducible first | exact HB.out | apply b_a | apply b_n | apply b_d)) hb); clear HB; have HB := n0_; clear n0_; (try clear hb); (try clear hb2); (try clear hk); (try clear hi)) | (go_at_call 42; (with_reducible refine (r6_rank.calls k a1 t170 _ A4.out).mono ?_); rintro e w36 ⟨rfl, hb⟩; have n0_ := mk0 (below_step (by repeat (with_reducible first | exact HB.out | apply b_a | apply b_n | apply b_d)) hb); clear HB; have HB := n0_; clear n0_; (try clear hb); (try clear hb2); (try clear hk); (try clear hi)) | (go_at_call 41; (with_reducible refine (r6_order.calls t169 t170 t171 _ A5.out).mono ?_); rintro e w' ⟨rfl, ⟨nd, rfl⟩⟩; (try first | exact ⟨rfl, _, World.drewN_drewN _ _ _⟩ | exact ⟨rfl, _, Eq.trans (World.drewN_drewN _ _ _) (congrArg (World.drewN _) (Nat.add_assoc _ _ _))⟩)) | (go_at_call 42; (with_reducible refine (r6_rank.calls k a0 t172 _ A7.out).mono ?_); rintro e w37 ⟨rfl, hb⟩; have n0_ := mk0 (below_step (by repeat (with_reducible first | exact HB.out | apply b_a | apply b_n | apply b_d)) hb); clear HB; have HB := n0_; clear n0_; (try clear hb); (try clear hb2); (try clear hk); (try clear hi))); try go_wp2_with (first | (go_at_call 42; (with_reducible refine (r6_rank.calls k a0 t169 _ A3.out).mono ?_); rintro e w35 ⟨rfl, hb⟩; have n0_ := mk0 (below_step (by repeat (with_reducible first | exact HB.out | apply b_a | apply b_n | apply b_d)) hb); clear HB; have HB := n0_; clear n0_; (try clear hb); (try clear hb2); (try clear hk); (try clear hi)) | (go_at_call 42; (with_reducible refine (r6_rank.calls k a1 t170 _ A4.out).mono ?_); rintro e w36 ⟨rfl, hb⟩; have n0_ := mk0 (below_step (by repeat (with_reducible first | exact HB.out | apply b_a | apply b_n | apply b_d)) hb); clear HB; have HB := n0_; clear n0_; (try clear hb); (try clear hb2); (try clear hk); (try clear hi)) | (go_at_call 41; (with_reducible refine (r6_order.calls t169 t170 t171 _ A5.out).mono ?_); rintro e w' ⟨rfl, ⟨nd, rfl⟩⟩; (try first | exact ⟨rfl, _, World.drewN_drewN _ _ _⟩ | exact ⟨rfl, _, Eq.trans (World.drewN_drewN _ _ _) (congrArg (World.drewN _) (Nat.add_assoc _ _ _))⟩)) | (go_at_call 42; (with_reducible refine (r6_rank.calls k a0 t172 _ A7.out).mono ?_); rintro e w37 ⟨rfl, hb⟩; have n0_ := mk0 (below_step (by repeat (with_reducible first | exact HB.out | apply b_a | apply b_n | apply b_d)) hb); clear HB; have HB := n0_; clear n0_; (try clear hb); (try clear hb2); (try clear hk); (try clear hi))))
    go_ret
    exact ⟨by first | rfl | (simp [errW_none, errW_some] <;> rfl) | (simp [*, errW_none, errW_some] <;> rfl), by repeat (first | (with_reducible first | exact HB.out | apply b_a | apply b_n | apply b_d) | exact HB.out)⟩
   ·rw [if_neg c34] at H
    have c34b0 : (Op.bytesLess a0.toList a1.toList) = false := by simpa using c34
    clear c34
    by_cases c38 : (Op.bytesLess a1.toList a0.toList) = true
    ·rw [if_pos c38] at H
     have c38b0 : (Op.bytesLess a1.toList a0.toList) = true := c38
     clear c38
     obtain rfl := Option.some.inj H
     go_enter Tryz.func26, Tryz.ntmps26
     go_wp2_with (first | (go_at_call 42; (with_reducible refine (r6_rank.calls k a0 t169 _ A3.out).mono ?_); rintro e w39 ⟨rfl, hb⟩; have n0_ := mk0 (below_step (by repeat (with_reducible first | exact HB.out | apply b_a | apply b_n | apply b_d)) hb); clear HB; have HB := n0_; clear n0_; (try clear hb); (try clear hb2); (try clear hk); (try clear hi)) | (go_at_call 42; (with_reducible refine (r6_rank.calls k a1 t170 _ A4.out).mono ?_); rintro e w40 ⟨rfl, hb⟩; have n0_ := mk0 (below_step (by repeat (with_reducible first | exact HB.out | apply b_a | apply b_n | apply b_d)) hb); clear HB; have HB := n0_; clear n0_; (try clear hb); (try clear hb2); (try clear hk); (try clear hi)) | (go_at_call 41; (with_reducible refine (r6_order.calls t169 t170 t171 _ A5.out).mono ?_); rintro e w' ⟨rfl, ⟨nd, rfl⟩⟩; (try first | exact ⟨rfl, _, World.drewN_drewN _ _ _⟩ | exact ⟨rfl, _, Eq.trans (World.drewN_drewN _ _ _) (congrArg (World.drewN _) (Nat.add_assoc _ _ _))⟩)) | (go_at_call 42; (with_reducible refine (r6_rank.calls k a0 t172 _ A7.out).mono ?_); rintro e w41 ⟨rfl, hb⟩; have n0_ := mk0 (below_step (by repeat (with_reducible first | exact HB.out | apply b_a | apply b_n | apply b_d)) hb); clear HB; have HB := n0_; clear n0_; (try clear hb); (try clear hb2); (try clear hk); (try clear hi)))
     repeat (go_quiet (first | (go_at_call 42; (with_reducible refine (r6_rank.calls k a0 t169 _ A3.out).mono ?_); rintro e w39 ⟨rfl, hb⟩; have n0_ := mk0 (below_step (by repeat (with_reducible first | exact HB.out | apply b_a | apply b_n | apply b_d)) hb); clear HB; have HB := n0_; clear n0_; (try clear hb); (try clear hb2); (try clear hk); (try clear hi)) | (go_at_call 42; (with_reducible refine (r6_rank.calls k a1 t170 _ A4.out).mono ?_); rintro e w40 ⟨rfl, hb⟩; have n0_ := mk0 (below_step (by repeat (with_reducible first | exact HB.out | apply b_a | apply b_n | apply b_d)) hb); clear HB; have HB := n0_; clear n0_; (try clear hb); (try clear hb2); (try clear hk); (try clear hi)) | (go_at_call 41; (with_reducible refine (r6_order.calls t169 t170 t171 _ A5.out).mono ?_); rintro e w' ⟨rfl, ⟨nd, rfl⟩⟩; (try first | exact ⟨rfl, _, World.drewN_drewN _ _ _⟩ | exact ⟨rfl, _, Eq.trans (World.drewN_drewN _ _ _) (congrArg (World.drewN _) (Nat.add_assoc _ _ _))⟩)) | (go_at_call 42; (with_reducible refine (r6_rank.calls k a0 t172 _ A7.out).mono ?_); rintro e w41 ⟨rfl, hb⟩; have n0_ := mk0 (below_step (by repeat (with_reducible first | exact HB.out | apply b_a | apply b_n | apply b_d)) hb); clear HB; have HB := n0_; clear n0_; (try clear hb); (try clear hb2); (try clear hk); (try clear hi))); try go_wp2_with (first | (go_at_call 42; (with_reducible refine (r6_rank.calls k a0 t169 _ A3.out).mono ?_); rintro e w39 ⟨rfl, hb⟩; have n0_ := mk0 (below_step (by repeat (with_reducible first | exact HB.out | apply b_a | apply b_n | apply b_d)) hb); clear HB; have HB := n0_; clear n0_; (try clear hb); (try clear hb2); (try clear hk); (try clear hi)) | (go_at_call 42; (with_reducible refine (r6_rank.calls k a1 t170 _ A4.out).mono ?_); rintro e w40 ⟨rfl, hb⟩; have n0_ := mk0 (below_step (by repeat (with_reducible first | exact HB.out | apply b_a | apply b_n | apply b_d)) hb); clear HB; have HB := n0_; clear n0_; (try clear hb); (try clear hb2); (try clear hk); (try clear hi)) | (go_at_call 41; (with_reducible refine (r6_order.calls t169 t170 t171 _ A5.out).mono ?_); rintro e w' ⟨rfl, ⟨nd, rfl⟩⟩; (try first | exact ⟨rfl, _, World.drewN_drewN _ _ _⟩ | exact ⟨rfl, _, Eq.trans (World.drewN_drewN _ _ _) (congrArg (World.drewN _) (Nat.add_assoc _ _ _))⟩)) | (go_at_call 42; (with_reducible refine (r6_rank.calls k a0 t172 _ A7.out).mono ?_); rintro e w41 ⟨rfl, hb⟩; have n0_ := mk0 (below_step (by repeat (with_reducible first | exact HB.out | apply b_a | apply b_n | apply b_d)) hb); clear HB; have HB := n0_; clear n0_; (try clear hb); (try clear hb2); (try clear hk); (try clear hi))))
     go_ret
     exact ⟨by first | rfl | (simp [errW_none, errW_some] <;> rfl) | (simp [*, errW_none, errW_some] <;> rfl), by repeat (first | (with_reducible first | exact HB.out | apply b_a | apply b_n | apply b_d) | exact HB.out)⟩
    ·rw [if_neg c38] at H
     have c38b0 : (Op.bytesLess a1.toList a0.toList) = false := by simpa using c38
     clear c38
     obtain rfl := Option.some.inj H
     go_enter Tryz.func26, Tryz.ntmps26
     go_wp2_with (first | (go_at_call 42; (with_reducible refine (r6_rank.calls k a0 t169 _ A3.out).mono ?_); rintro e w42 ⟨rfl, hb⟩; have n0_ := mk0 (below_step (by repeat (with_reducible first | exact HB.out | apply b_a | apply b_n | apply b_d)) hb); clear HB; have HB := n0_; clear n0_; (try clear hb); (try clear hb2); (try clear hk); (try clear hi)) | (go_at_call 42; (with_reducible refine (r6_rank.calls k a1 t170 _ A4.out).mono ?_); rintro e w43 ⟨rfl, hb⟩; have n0_ := mk0 (below_step (by repeat (with_reducible first | exact HB.out | apply b_a | apply b_n | apply b_d)) hb); clear HB; have HB := n0_; clear n0_; (try clear hb); (try clear hb2); (try clear hk); (try clear hi)) | (go_at_call 41; (with_reducible refine (r6_order.calls t169 t170 t171 _ A5.out).mono ?_); rintro e w' ⟨rfl, ⟨nd, rfl⟩⟩; (try first | exact ⟨rfl, _, World.drewN_drewN _ _ _⟩ | exact ⟨rfl, _, Eq.trans (World.drewN_drewN _ _ _) (congrArg (World.drewN _) (Nat.add_assoc _ _ _))⟩)) | (go_at_call 42; (with_reducible refine (r6_rank.calls k a0 t172 _ A7.out).mono ?_); rintro e w44 ⟨rfl, hb⟩; have n0_ := mk0 (below_step (by repeat (with_reducible first | exact HB.out | apply b_a | apply b_n | apply b_d)) hb); clear HB; have HB := n0_; clear n0_; (try clear hb); (try clear hb2); (try clear hk); (try clear hi)))
     repeat (go_quiet (first | (go_at_call 42; (with_reducible refine (r6_rank.calls k a0 t169 _ A3.out).mono ?_); rintro e w42 ⟨rfl, hb⟩; have n0_ := mk0 (below_step (by repeat (with_reducible first | exact HB.out | apply b_a | apply b_n | apply b_d)) hb); clear HB; have HB := n0_; clear n0_; (try clear hb); (try clear hb2); (try clear hk); (try clear hi)) | (go_at_call 42; (with_reducible refine (r6_rank.calls k a1 t170 _ A4.out).mono ?_); rintro e w43 ⟨rfl, hb⟩; have n0_ := mk0 (below_step (by repeat (with_reducible first | exact HB.out | apply b_a | apply b_n | apply b_d)) hb); clear HB; have HB := n0_; clear n0_; (try clear hb); (try clear hb2); (try clear hk); (try clear hi)) | (go_at_call 41; (with_reducible refine (r6_order.calls t169 t170 t171 _ A5.out).mono ?_); rintro e w' ⟨rfl, ⟨nd, rfl⟩⟩; (try first | exact ⟨rfl, _, World.drewN_drewN _ _ _⟩ | exact ⟨rfl, _, Eq.trans (World.drewN_drewN _ _ _) (congrArg (World.drewN _) (Nat.add_assoc _ _ _))⟩)) | (go_at_call 42; (with_reducible refine (r6_rank.calls k a0 t172 _ A7.out).mono ?_); rintro e w44 ⟨rfl, hb⟩; have n0_ := mk0 (below_step (by repeat (with_reducible first | exact HB.out | apply b_a | apply b_n | apply b_d)) hb); clear HB; have HB := n0_; clear n0_; (try clear hb); (try clear hb2); (try clear hk); (try clear hi))); try go_wp2_with (first | (go_at_call 42; (with_reducible refine (r6_rank.calls k a0 t169 _ A3.out).mono ?_); rintro e w42 ⟨rfl, hb⟩; have n0_ := mk0 (below_step (by repeat (with_reducible first | exact HB.out | apply b_a | apply b_n | apply b_d)) hb); clear HB; have HB := n0_; clear n0_; (try clear hb); (try clear hb2); (try clear hk); (try clear hi)) | (go_at_call 42; (with_reducible refine (r6_rank.calls k a1 t170 _ A4.out).mono ?_); rintro e w43 ⟨rfl, hb⟩; have n0_ := mk0 (below_step (by repeat (with_reducible first | exact HB.out | apply b_a | apply b_n | apply b_d)) hb); clear HB; have HB := n0_; clear n0_; (try clear hb); (try clear hb2); (try clear hk); (try clear hi)) | (go_at_call 41; (with_reducible refine (r6_order.calls t169 t170 t171 _ A5.out).mono ?_); rintro e w' ⟨rfl, ⟨nd, rfl⟩⟩; (try first | exact ⟨rfl, _, World.drewN_drewN _ _ _⟩ | exact ⟨rfl, _, Eq.trans (World.drewN_drewN _ _ _) (congrArg (World.drewN _) (Nat.add_assoc _ _ _))⟩)) | (go_at_call 42; (with_reducible refine (r6_rank.calls k a0 t172 _ A7.out).mono ?_); rintro e w44 ⟨rfl, hb⟩; have n0_ := mk0 (below_step (by repeat (with_reducible first | exact HB.out | apply b_a | apply b_n | apply b_d)) hb); clear HB; have HB := n0_; clear n0_; (try clear hb); (try clear hb2); (try clear hk); (try clear hi))))
     go_ret
     exact ⟨by first | rfl | (simp [errW_none, errW_some] <;> rfl) | (simp [*, errW_none, errW_some] <;> rfl), by repeat (first | (with_reducible first | exact HB.out | apply b_a | apply b_n | apply b_d) | exact HB.out)⟩
 ·rw [if_neg c6] at H
  have c6b0 : (t171 == 0) = false := beq_eq_false_iff_ne.mpr c6
  have c6b1 : (t171 != 0) = true := bne_iff_ne.mpr c6
  obtain rfl := Option.some.inj H
  go_enter Tryz.func26, Tryz.ntmps26
  go_wp2_with (first | (go_at_call 42; (with_reducible refine (r6_rank.calls k a0 t169 _ A3.out).mono ?_); rintro e w45 ⟨rfl, hb⟩; have n0_ := mk0 (below_step (by repeat (with_reducible first | exact HB.out | apply b_a | apply b_n | apply b_d)) hb); clear HB; have HB := n0_; clear n0_; (try clear hb); (try clear hb2); (try clear hk); (try clear hi)) | (go_at_call 42; (with_reducible refine (r6_rank.calls k a1 t170 _ A4.out).mono ?_); rintro e w46 ⟨rfl, hb⟩; have n0_ := mk0 (below_step (by repeat (with_reducible first | exact HB.out | apply b_a | apply b_n | apply b_d)) hb); clear HB; have HB := n0_; clear n0_; (try clear hb); (try clear hb2); (try clear hk); (try clear hi)) | (go_at_call 41; (with_reducible refine (r6_order.calls t169 t170 t171 _ A5.out).mono ?_); rintro e w' ⟨rfl, ⟨nd, rfl⟩⟩; (try first | exact ⟨rfl, _, World.drewN_drewN _ _ _⟩ | exact ⟨rfl, _, Eq.trans (World.drewN_drewN _ _ _) (congrArg (World.drewN _) (Nat.add_assoc _ _ _))⟩)))
  repeat (go_quiet (first | (go_at_call 42; (with_reducible refine (r6_rank.calls k a0 t169 _ A3.out).mono ?_); rintro e w45 ⟨rfl, hb⟩; have n0_ := mk0 (below_step (by repeat (with_reducible first | exact HB.out | apply b_a | apply b_n | apply b_d)) hb); clear HB; have HB := n0_; clear n0_; (try clear hb); (try clear hb2); (try clear hk); (try clear hi)) | (go_at_call 42; (with_reducible refine (r6_rank.calls k a1 t170 _ A4.out).mono ?_); rintro e w46 ⟨rfl, hb⟩; have n0_ := mk0 (below_step (by repeat (with_reducible first | exact HB.out | apply b_a | apply b_n | apply b_d)) hb); clear HB; have HB := n0_; clear n0_; (try clear hb); (try clear hb2); (try clear hk); (try clear hi)) | (go_at_call 41; (with_reducible refine (r6_order.calls t169 t170 t171 _ A5.out).mono ?_); rintro e w' ⟨rfl, ⟨nd, rfl⟩⟩; (try first | exact ⟨rfl, _, World.drewN_drewN _ _ _⟩ | exact ⟨rfl, _, Eq.trans (World.drewN_drewN _ _ _) (congrArg (World.drewN _) (Nat.add_assoc _ _ _))⟩))); try go_wp2_with (first | (go_at_call 42; (with_reducible refine (r6_rank.calls k a0 t169 _ A3.out).mono ?_); rintro e w45 ⟨rfl, hb⟩; have n0_ := mk0 (below_step (by repeat (with_reducible first | exact HB.out | apply b_a | apply b_n | apply b_d)) hb); clear HB; have HB := n0_; clear n0_; (try clear hb); (try clear hb2); (try clear hk); (try clear hi)) | (go_at_call 42; (with_reducible refine (r6_rank.calls k a1 t170 _ A4.out).mono ?_); rintro e w46 ⟨rfl, hb⟩; have n0_ := mk0 (below_step (by repeat (with_reducible first | exact HB.out | apply b_a | apply b_n | apply b_d)) hb); clear HB; have HB := n0_; clear n0_; (try clear hb); (try clear hb2); (try clear hk); (try clear hi)) | (go_at_call 41; (with_reducible refine (r6_order.calls t169 t170 t171 _ A5.out).mono ?_); rintro e w' ⟨rfl, ⟨nd, rfl⟩⟩; (try first | exact ⟨rfl, _, World.drewN_drewN _ _ _⟩ | exact ⟨rfl, _, Eq.trans (World.drewN_drewN _ _ _) (congrArg (World.drewN _) (Nat.add_assoc _ _ _))⟩))))
  go_ret
  exact ⟨by first | rfl | (simp [errW_none, errW_some] <;> rfl) | (simp [*, errW_none, errW_some] <;> rfl), by repeat (first | (with_reducible first | exact HB.out | apply b_a | apply b_n | apply b_d) | exact HB.out)⟩

end Go.Proofs.YtpnoliognpmkmaaGreatDoor.P
