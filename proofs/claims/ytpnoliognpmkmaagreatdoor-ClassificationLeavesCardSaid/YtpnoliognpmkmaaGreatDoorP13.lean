/- Lean functions with the same answers as the program's Go functions, and for each the proof that the call comes to these answers; written by a program of mine out of the translation, the functions marked 'by hand' by me. -/
import Derived.Test.YtpnoliognpmkmaaGreatDoorP0
import Derived.Test.YtpnoliognpmkmaaGreatDoorP2
import Derived.Test.YtpnoliognpmkmaaGreatDoorP4
import Derived.Test.YtpnoliognpmkmaaGreatDoorP5
namespace Go.Proofs.YtpnoliognpmkmaaGreatDoor.P
open Go.RowKit Go.Proofs.YtpnoliognpmkmaaGreatDoorW.PrintWords Go.Proofs.YtpnoliognpmkmaaGreatDoorW.PrintLast Go.Proofs.YtpnoliognpmkmaaGreatDoorW.PrintMore
attribute [local go_sem] max2_int min2_int max_two min_two max_three min_three max_four min_four   -- for this text's walks alone
set_option linter.unusedVariables false
set_option linter.unusedSimpArgs false

/-! ### r6_Path: function 32 -/
def r6_Path.l0 : Nat → List Int → List ByteArray → Int → Int → Option (List ByteArray)
 | 0, _, _, _, _ => none
 | k + 1, x3, x5, x17, x18 => if x18 < x17 then (if 0 ≤ (wrap64 (x18 + 1)) then (if (wrap64 (x18 + 1)) ≤ (x3.length : Int) then ((r6_Format.f k (x3.take ((wrap64 (x18 + 1)) : Int).toNat)).bind fun bt366 => (if x5.length < 8796093022208 then (r6_Path.l0 k x3 (x5 ++ [bt366.1]) x17 (wrap64 (x18 + 1))) else (none))) else (none)) else (none)) else (some x5)
def r6_Path.f (k : Nat) (a0 : ByteArray) : Option (List ByteArray) := (r6_Parse.f k a0).bind fun bt358 => (if bt358.2 = 0 then (r6_Path.l0 k bt358.1 ([] : List ByteArray) (bt358.1.length : Int) 0) else (some ([] : List ByteArray)))
theorem r6_Path.mono_l : ∀ k, (∀ y0 y1 y2 y3, LeO (r6_Path.l0 k y0 y1 y2 y3) (r6_Path.l0 (k + 1) y0 y1 y2 y3))
 | 0 => fun _ _ _ _ r h => by simp [r6_Path.l0] at h
 | k + 1 => by
  have ih0 := r6_Path.mono_l k
  ·intro y0 y1 y2 y3
   unfold r6_Path.l0
   repeat' first
   | (with_reducible exact ih0 _ _ _ _)
   | (with_reducible exact r6_Format.mono _ _)
   | (with_reducible exact r6_Parse.mono _ _)
   | (with_reducible exact LeO.refl _)
   | (with_reducible exact LeO.none _)
   | (with_reducible refine LeO.ite ?_ ?_)
   | (with_reducible refine LeO.bind ?_ (fun _ => ?_))
theorem r6_Path.mono : ∀ a0 k, LeO (r6_Path.f k a0) (r6_Path.f (k + 1) a0) := by
 intro a0 k
 have ih0 := r6_Path.mono_l k
 unfold r6_Path.f
 repeat' first
   | (with_reducible exact ih0 _ _ _ _)
   | (with_reducible exact r6_Format.mono _ _)
   | (with_reducible exact r6_Parse.mono _ _)
   | (with_reducible exact LeO.refl _)
   | (with_reducible exact LeO.none _)
   | (with_reducible refine LeO.ite ?_ ?_)
   | (with_reducible refine LeO.bind ?_ (fun _ => ?_))
set_option maxHeartbeats 8000000 in
set_option maxRecDepth 100000 in
theorem r6_Path.calls (k : Nat) (a0 : ByteArray) (r : List ByteArray) (w : World) (h : r6_Path.f k a0 = some r) :
  Calls Tryz.prog 32 #[.string a0] w fun e w' => ∃ v0_ : Value, e = .returned (v0_) ∧ Kd.R Kd.string 9 w' w.heap.size (fun _ => True) v0_ r ∧ Below w.heap.size w w' := by
 have HB := mk0 (Below.refl w.heap.size w)
 have H : ((r6_Parse.f k a0).bind fun bt358 => (if bt358.2 = 0 then (r6_Path.l0 k bt358.1 ([] : List ByteArray) (bt358.1.length : Int) 0) else (some ([] : List ByteArray)))) = some r := h
 clear h
 replace H := Option.bind_eq_some_iff.mp H
 obtain ⟨⟨t358, t359⟩, A20, H⟩ := H
 replace H : (if t359 = 0 then (r6_Path.l0 k t358 ([] : List ByteArray) (t358.length : Int) 0) else (some ([] : List ByteArray))) = some r := H
 have A2 := mk0 A20
 clear A20
 by_cases c3 : t359 = 0
 ·rw [if_pos c3] at H
  have c3b0 : (t359 == 0) = true := beq_iff_eq.mpr c3
  have c3b1 : (t359 != 0) = false := bne_eq_false_iff_eq.mpr c3
  clear c3
  have H' := mk0 H
  clear H
  go_enter Tryz.func32, Tryz.ntmps32
  go_wp2_with (first | ((with_reducible refine gate_callee (f := 27) rfl ?_); refine goesL_ (some 11) rfl rfl Tryz.func27 (by kernel_rfl) rfl #[.string a0] rfl (by (try simp only [List.map_toArray, List.map_cons, List.map_nil]); first | done | rfl) ?_; (with_reducible refine (r6_Parse.calls k a0 t358 t359 _ A2.out).mono ?_); rintro e w4 ⟨v360, rfl, ho0, hb⟩; refine ⟨_, rfl, ?_⟩; have n0_ := mk0 (Kd.R_lower ho0 (below_size (by repeat (with_reducible first | exact HB.out | apply b_a | apply b_n | apply b_d)))); have n1_ := mk0 (below_step (by repeat (with_reducible first | exact HB.out | apply b_a | apply b_n | apply b_d)) hb); clear HB; have HO361 := n0_; have HB := n1_; clear n0_ n1_; (try clear hb); (try clear hb2); (try clear hk); (try clear hi); (try clear ho0); obtain ⟨Ao5, co5, eo5⟩ := Kd.R_slice HO361.out; subst eo5))
  go_loopg [5, 18] k (fun kq v5 v18 w' => ∃ (x5_1 : List ByteArray) (x18_1 : Int), v18 = .int .i64 x18_1 ∧ Aside0 (r6_Path.l0 kq t358 x5_1 (t358.length : Int) x18_1 = some r) ∧ Aside0 (kq ≤ k) ∧ Aside0 (Kd.R (Kd.int .i64) 3 w' w.heap.size (fun _ => True) (.slice Ao5 t358.length co5) t358) ∧ Aside0 (Kd.R Kd.string 9 w' w.heap.size (fun _ => True) v5 x5_1) ∧ Aside0 (Below w.heap.size w w'))
  case atStart => exact ⟨(([] : List ByteArray)), (0), (by first | rfl | (simp; done) | (simp [*]; done)), H', ⟨Nat.le_refl _⟩, ⟨by (with_reducible repeat (first | apply r_a | apply r_n | apply r_d)); exact HO361.out⟩, ⟨by first | exact Kd.R_nil _ _ _ _ _ | exact Kd.N_nil _ _ _ _ _ | exact Kd.V_nil _ _ _ _ _ | exact Kd.Q_nil _ _ _ _ _ | exact Kd.S_nil _ _ _ _ _⟩, ⟨by repeat (first | (with_reducible first | exact HB.out | apply b_a | apply b_n | apply b_d) | exact HB.out)⟩⟩
  case round =>
   clear H'
   try clear c2
   try clear p2
   try clear c3
   try clear c3b0
   try clear c3b1
   obtain ⟨x5_1, x18_1, rfl, HA, HK1, HO_3, HO_5, HB⟩ := hrel
   cases gk with
   | zero => exact absurd HA.out (by simp [r6_Path.l0])
   | succ k1 =>
    have H := HA.out
    clear HA
    simp only [r6_Path.l0] at H
    by_cases c6 : x18_1 < (t358.length : Int)
    ·rw [if_pos c6] at H
     have c6b0 : decide (x18_1 < (t358.length : Int)) = true := decide_eq_true c6
     clear c6
     obtain ⟨ji7, hji7⟩ : ∃ j_ : Int, (wrap64 (x18_1 + 1)) = j_ := ⟨_, rfl⟩
     replace H : (if 0 ≤ (ji7) then (if (ji7) ≤ (t358.length : Int) then ((r6_Format.f k1 (t358.take ((ji7) : Int).toNat)).bind fun bt366 => (if x5_1.length < 8796093022208 then (r6_Path.l0 k1 t358 (x5_1 ++ [bt366.1]) (t358.length : Int) ji7) else (none))) else (none)) else (none)) = some r := by first | (rw [hji7] at H; exact H) | (simp only [hji7] at H ⊢; exact H)
     have hji7w : (IntKind.i64.wrap (x18_1 + 1)) = ji7 := (i64_w _).trans hji7
     by_cases c8 : 0 ≤ (ji7)
     ·rw [if_pos c8] at H
      have c8b0 := eq_true c8
      have c8b1 : decide (0 ≤ (ji7)) = true := decide_eq_true c8
      clear c8
      by_cases c9 : (ji7) ≤ (t358.length : Int)
      ·rw [if_pos c9] at H
       have c9b0 := eq_true c9
       have c9b1 : decide ((ji7) ≤ (t358.length : Int)) = true := decide_eq_true c9
       clear c9
       obtain ⟨y362, hy362⟩ : ∃ y_ : List Int, y_ = (t358.take ((ji7) : Int).toNat) := ⟨_, rfl⟩
       replace H : ((r6_Format.f k1 y362).bind fun bt366 => (if x5_1.length < 8796093022208 then (r6_Path.l0 k1 t358 (x5_1 ++ [bt366.1]) (t358.length : Int) ji7) else (none))) = some r := by first | (rw [hy362]; with_reducible exact H) | (have H2_ := (Option.bind_some _ _).symm.trans H; rw [hy362]; with_reducible exact H2_) | (have H2_ := (Option.bind_some _ _).symm.trans H; with_reducible exact H2_) | with_reducible exact H | (rw [hy362]; exact H) | exact H
       have Ny362 := mk0 hy362
       clear hy362
       replace H := Option.bind_eq_some_iff.mp H
       obtain ⟨⟨t366, t367⟩, A100, H⟩ := H
       replace H : (if x5_1.length < 8796093022208 then (r6_Path.l0 k1 t358 (x5_1 ++ [t366]) (t358.length : Int) ji7) else (none)) = some r := H
       have A10 := mk0 A100
       clear A100
       by_cases c11 : x5_1.length < 8796093022208
       ·rw [if_pos c11] at H
        have LMc11 := mk0 c11
        clear c11
        obtain ⟨y368, hy368⟩ : ∃ y_ : List ByteArray, y_ = (x5_1 ++ [t366]) := ⟨_, rfl⟩
        replace H : (r6_Path.l0 k1 t358 y368 (t358.length : Int) ji7) = some r := by first | (rw [hy368]; with_reducible exact H) | (have H2_ := (Option.bind_some _ _).symm.trans H; rw [hy368]; with_reducible exact H2_) | (have H2_ := (Option.bind_some _ _).symm.trans H; with_reducible exact H2_) | with_reducible exact H | (rw [hy368]; exact H) | exact H
        have Ny368 := mk0 hy368
        clear hy368
        have H' := mk0 H
        clear H
        have q12 : ((ji7) : Int) ≤ ((t358.length : Int) : Int) := of_decide_eq_true (by assumption)
        obtain ⟨i012, hi012, _, hsz12, _⟩ := info_parts info3
        have hroom12 : t358.length ≤ co5 := (Kd.R_reads' HO_3.out).2.1
        have hC12 : Kd.C (Kd.int .i64) _ Ao5 t358.length t358 := (Kd.R_reads' HO_3.out).2.2
        have hcut12 := cut_to (P := Tryz.prog) 25 3 .i64 Tryz.underlying25 hi012 Ao5 t358.length co5 (ji7) (of_decide_eq_true (by assumption)) q12 hroom12
        have hr12 := Kd.C_take (m := ((ji7) : Int).toNat) hC12 (by omega)
        have hy12 : y362.length = ((ji7) : Int).toNat := (by rw [Ny362.out, List.length_take]; omega)
        rw [← Ny362.out] at hr12
        rw [← hy12] at hcut12
        have HR365 := mk0 hr12
        have HC365 := mk0 (show y362.length ≤ co5 from by omega)
        clear hr12 hC12 hroom12 hi012 hsz12
        have KY12 := mk0 hy12
        clear hy12
        have KL12 := mk0 (show ((ji7) : Int).toNat ≤ t358.length from by omega)
        replace q12 := eq_true q12
        go_wp2_with (first | ((with_reducible refine gate_callee (f := 15) rfl ?_); refine goesL_ (some 26) rfl rfl Tryz.func15 (by kernel_rfl) rfl #[.slice Ao5 y362.length co5] rfl (by (try simp only [List.map_toArray, List.map_cons, List.map_nil]); first | done | rfl) ?_; (with_reducible refine (r6_Format.calls k1 _ _ y362 t366 t367 _ ?side1 ?side2 A10.out).mono ?_); (case side1 => repeat (first | exact (by repeat (first | (with_reducible exact HR365.out) | (with_reducible refine Kd.C_alloc ?_ _) | (with_reducible refine Kd.C_drewN ?_ _) | (with_reducible refine Kd.C_drew ?_) | exact HR365.out)) | (with_reducible refine Kd.C_alloc ?_ _) | (with_reducible refine Kd.C_drewN ?_ _) | (with_reducible refine Kd.C_drew ?_))); (case side2 => exact HC365.out); rintro e w13 ⟨rfl, hb⟩; refine ⟨_, rfl, ?_⟩; have n0_ := mk0 (Kd.R_below (by (with_reducible repeat (first | apply r_a | apply r_n | apply r_d)); exact HO_3.out) hb); have n1_ := mk0 (Kd.R_below (by (with_reducible repeat (first | apply r_a | apply r_n | apply r_d)); exact HO_5.out) hb); have n2_ := mk0 (Kd.C_below (by repeat (first | (with_reducible exact HR365.out) | (with_reducible refine Kd.C_alloc ?_ _) | (with_reducible refine Kd.C_drewN ?_ _) | (with_reducible refine Kd.C_drew ?_) | exact HR365.out)) hb); have n3_ := mk0 (below_step (by repeat (with_reducible first | exact HB.out | apply b_a | apply b_n | apply b_d)) hb); clear HO_3; clear HO_5; clear HR365; clear HB; have HO_3 := n0_; have HO_5 := n1_; have HR365 := n2_; have HB := n3_; clear n0_ n1_ n2_ n3_; (try clear hb)) | ((with_reducible refine gate_builtin (b := .append) (xs := #[.tmp 29, .tmp 31]) rfl ?_); at_builtin; refine Kd.R_append Kd.string (w0 := w) w.heap.size rfl (.tmp 29) (.tmp 31) 22 9 (.string ⟨#[]⟩) 16 rfl Tryz.underlying22 info9 rfl (by decide) (by omega) u5 x5_1 t366 [.string t366] (fun _ => True) (fun _ => False) rfl rfl ?aP (fun _ hk => hk.elim) ?aF ?aO ?aB ?aS ?aL ?_; (case aP => exact rfl); (case aB => exact (by repeat (with_reducible first | exact HB.out | apply b_a | apply b_n | apply b_d))); (case aF => exact (fun _ _ => trivial)); (case aO => exact (by (with_reducible repeat (first | apply r_a | apply r_n | apply r_d)); exact HO_5.out)); (case aS => exact (below_size (by repeat (with_reducible first | exact HB.out | apply b_a | apply b_n | apply b_d)))); (case aL => have := LMc11.out; omega); intro v369 w14 ho hb hg hat; rw [← Ny368.out] at ho; have n0_ := mk0 (Kd.R_over' (by (with_reducible repeat (first | apply r_a | apply r_n | apply r_d)); exact HO_3.out) (Kd.R_typed (by (with_reducible repeat (first | apply r_a | apply r_n | apply r_d)); exact HO_5.out)) (by decide) hg); have n1_ := mk0 (hb); have n2_ := mk0 ((show Kd.C (Kd.int .i64) w14 Ao5 y362.length y362 from by rw [Ny362.out]; exact Kd.C_take (m := ((ji7) : Int).toNat) ((Kd.R_reads' (Kd.R_over' (by (with_reducible repeat (first | apply r_a | apply r_n | apply r_d)); exact HO_3.out) (Kd.R_typed (by (with_reducible repeat (first | apply r_a | apply r_n | apply r_d)); exact HO_5.out)) (by decide) hg)).2.2) KL12.out)); have n3_ := mk0 (ho); clear HO_3; clear HB; clear HR365; clear HO_5; have HO_3 := n0_; have HB := n1_; have HR365 := n2_; have HO370 := n3_; clear n0_ n1_ n2_ n3_; clear ho hb hg hat))
        go_roundg k1
        case measure => have := HK1.out; omega
        case rel => exact ⟨(y368), (ji7), (by first | rfl | (simp; done) | (simp only [← hji7] <;> (first | rfl | simp)) | (simp [*]; done)), H', ⟨by have := HK1.out; omega⟩, ⟨by (with_reducible repeat (first | apply r_a | apply r_n | apply r_d)); exact HO_3.out⟩, ⟨by (with_reducible repeat (first | apply r_a | apply r_n | apply r_d)); exact HO370.out⟩, ⟨by repeat (first | (with_reducible first | exact HB.out | apply b_a | apply b_n | apply b_d) | exact HB.out)⟩⟩
       ·rw [if_neg c11] at H
        exact absurd H (by simp)
      ·rw [if_neg c9] at H
       exact absurd H (by simp)
     ·rw [if_neg c8] at H
      exact absurd H (by simp)
    ·rw [if_neg c6] at H
     have c6b0 : decide (x18_1 < (t358.length : Int)) = false := decide_eq_false c6
     clear c6
     obtain rfl := Option.some.inj H
     go_wp2
     go_ret
     exact ⟨_, by first | rfl | (simp [errW_none, errW_some] <;> rfl) | (simp [*, errW_none, errW_some] <;> rfl), by (with_reducible repeat (first | apply r_a | apply r_n | apply r_d)); exact HO_5.out, by repeat (first | (with_reducible first | exact HB.out | apply b_a | apply b_n | apply b_d) | exact HB.out)⟩
 ·rw [if_neg c3] at H
  have c3b0 : (t359 == 0) = false := beq_eq_false_iff_ne.mpr c3
  have c3b1 : (t359 != 0) = true := bne_iff_ne.mpr c3
  obtain rfl := Option.some.inj H
  go_enter Tryz.func32, Tryz.ntmps32
  go_wp2_with (first | ((with_reducible refine gate_callee (f := 27) rfl ?_); refine goesL_ (some 11) rfl rfl Tryz.func27 (by kernel_rfl) rfl #[.string a0] rfl (by (try simp only [List.map_toArray, List.map_cons, List.map_nil]); first | done | rfl) ?_; (with_reducible refine (r6_Parse.calls k a0 t358 t359 _ A2.out).mono ?_); rintro e w15 ⟨v360, rfl, ho0, hb⟩; refine ⟨_, rfl, ?_⟩; have n0_ := mk0 (Kd.R_lower ho0 (below_size (by repeat (with_reducible first | exact HB.out | apply b_a | apply b_n | apply b_d)))); have n1_ := mk0 (below_step (by repeat (with_reducible first | exact HB.out | apply b_a | apply b_n | apply b_d)) hb); clear HB; have HO361 := n0_; have HB := n1_; clear n0_ n1_; (try clear hb); (try clear hb2); (try clear hk); (try clear hi); (try clear ho0)))
  go_ret
  exact ⟨_, by first | rfl | (simp [errW_none, errW_some] <;> rfl) | (simp [*, errW_none, errW_some] <;> rfl), by first | exact Kd.R_nil _ _ _ _ _ | exact Kd.N_nil _ _ _ _ _ | exact Kd.V_nil _ _ _ _ _ | exact Kd.Q_nil _ _ _ _ _ | exact Kd.S_nil _ _ _ _ _, by repeat (first | (with_reducible first | exact HB.out | apply b_a | apply b_n | apply b_d) | exact HB.out)⟩

/-! ### r6_Parent: function 20 -/
def r6_Parent.f (k : Nat) (a0 : ByteArray) : Option (ByteArray × Bool) := (r6_Path.f k a0).bind fun t371 => (if (t371.length : Int) = 0 then (some ((⟨#[]⟩ : ByteArray), false)) else (if (t371.length : Int) = 1 then (some ((⟨#[]⟩ : ByteArray), true)) else (if 0 ≤ (wrap64 ((t371.length : Int) - 2)) then (if (wrap64 ((t371.length : Int) - 2)) < (t371.length : Int) then (some (rdOf ByteArray.empty t371 (wrap64 ((t371.length : Int) - 2)), true)) else (none)) else (none))))
theorem r6_Parent.mono : ∀ a0 k, LeO (r6_Parent.f k a0) (r6_Parent.f (k + 1) a0) := by
 intro a0 k
 unfold r6_Parent.f
 repeat' first
   | (with_reducible exact r6_Path.mono _ _)
   | (with_reducible exact LeO.refl _)
   | (with_reducible exact LeO.none _)
   | (with_reducible refine LeO.ite ?_ ?_)
   | (with_reducible refine LeO.bind ?_ (fun _ => ?_))
set_option maxHeartbeats 8000000 in
set_option maxRecDepth 100000 in
theorem r6_Parent.calls (k : Nat) (a0 : ByteArray) (r1 : ByteArray) (r2 : Bool) (w : World) (h : r6_Parent.f k a0 = some (r1, r2)) :
  Calls Tryz.prog 20 #[.string a0] w fun e w' => e = .returned (.tuple #[.string r1, .bool r2]) ∧ Below w.heap.size w w' := by
 have HB := mk0 (Below.refl w.heap.size w)
 have H : ((r6_Path.f k a0).bind fun t371 => (if (t371.length : Int) = 0 then (some ((⟨#[]⟩ : ByteArray), false)) else (if (t371.length : Int) = 1 then (some ((⟨#[]⟩ : ByteArray), true)) else (if 0 ≤ (wrap64 ((t371.length : Int) - 2)) then (if (wrap64 ((t371.length : Int) - 2)) < (t371.length : Int) then (some (rdOf ByteArray.empty t371 (wrap64 ((t371.length : Int) - 2)), true)) else (none)) else (none))))) = some (r1, r2) := h
 clear h
 replace H := Option.bind_eq_some_iff.mp H
 obtain ⟨t371, A20, H⟩ := H
 replace H : (if (t371.length : Int) = 0 then (some ((⟨#[]⟩ : ByteArray), false)) else (if (t371.length : Int) = 1 then (some ((⟨#[]⟩ : ByteArray), true)) else (if 0 ≤ (wrap64 ((t371.length : Int) - 2)) then (if (wrap64 ((t371.length : Int) - 2)) < (t371.length : Int) then (some (rdOf ByteArray.empty t371 (wrap64 ((t371.length : Int) - 2)), true)) else (none)) else (none)))) = some (r1, r2) := H
 have A2 := mk0 A20
 clear A20
 by_cases c3 : (t371.length : Int) = 0
 ·rw [if_pos c3] at H
  have c3b0 : ((t371.length : Int) == 0) = true := beq_iff_eq.mpr c3
  have c3b1 : ((t371.length : Int) != 0) = false := bne_eq_false_iff_eq.mpr c3
  clear c3
  simp only [Option.some.injEq, Prod.mk.injEq] at H
  obtain ⟨rfl, rfl⟩ := H
  go_enter Tryz.func20, Tryz.ntmps20
  go_wp2_with (first | ((with_reducible refine gate_callee (f := 32) rfl ?_); refine goesL_ (some 6) rfl rfl Tryz.func32 (by kernel_rfl) rfl #[.string a0] rfl (by (try simp only [List.map_toArray, List.map_cons, List.map_nil]); first | done | rfl) ?_; (with_reducible refine (r6_Path.calls k a0 t371 _ A2.out).mono ?_); rintro e w4 ⟨v372, rfl, ho0, hb⟩; refine ⟨_, rfl, ?_⟩; have n0_ := mk0 (Kd.R_lower ho0 (below_size (by repeat (with_reducible first | exact HB.out | apply b_a | apply b_n | apply b_d)))); have n1_ := mk0 (below_step (by repeat (with_reducible first | exact HB.out | apply b_a | apply b_n | apply b_d)) hb); clear HB; have HO373 := n0_; have HB := n1_; clear n0_ n1_; (try clear hb); (try clear hb2); (try clear hk); (try clear hi); (try clear ho0); obtain ⟨Ao5, co5, eo5⟩ := Kd.R_slice HO373.out; subst eo5))
  go_ret2
  exact ⟨by first | rfl | (simp [errW_none, errW_some] <;> rfl) | (simp [*, errW_none, errW_some] <;> rfl), by repeat (first | (with_reducible first | exact HB.out | apply b_a | apply b_n | apply b_d) | exact HB.out)⟩
 ·rw [if_neg c3] at H
  have c3b0 : ((t371.length : Int) == 0) = false := beq_eq_false_iff_ne.mpr c3
  have c3b1 : ((t371.length : Int) != 0) = true := bne_iff_ne.mpr c3
  have c3b2 : ¬ (t371 = []) := fun h_ => c3 (by rw [h_]; rfl)
  by_cases c6 : (t371.length : Int) = 1
  ·rw [if_pos c6] at H
   have c6b0 : ((t371.length : Int) == 1) = true := beq_iff_eq.mpr c6
   have c6b1 : ((t371.length : Int) != 1) = false := bne_eq_false_iff_eq.mpr c6
   clear c6
   simp only [Option.some.injEq, Prod.mk.injEq] at H
   obtain ⟨rfl, rfl⟩ := H
   go_enter Tryz.func20, Tryz.ntmps20
   go_wp2_with (first | ((with_reducible refine gate_callee (f := 32) rfl ?_); refine goesL_ (some 6) rfl rfl Tryz.func32 (by kernel_rfl) rfl #[.string a0] rfl (by (try simp only [List.map_toArray, List.map_cons, List.map_nil]); first | done | rfl) ?_; (with_reducible refine (r6_Path.calls k a0 t371 _ A2.out).mono ?_); rintro e w7 ⟨v372, rfl, ho0, hb⟩; refine ⟨_, rfl, ?_⟩; have n0_ := mk0 (Kd.R_lower ho0 (below_size (by repeat (with_reducible first | exact HB.out | apply b_a | apply b_n | apply b_d)))); have n1_ := mk0 (below_step (by repeat (with_reducible first | exact HB.out | apply b_a | apply b_n | apply b_d)) hb); clear HB; have HO373 := n0_; have HB := n1_; clear n0_ n1_; (try clear hb); (try clear hb2); (try clear hk); (try clear hi); (try clear ho0); obtain ⟨Ao8, co8, eo8⟩ := Kd.R_slice HO373.out; subst eo8))
   go_ret2
   exact ⟨by first | rfl | (simp [errW_none, errW_some] <;> rfl) | (simp [*, errW_none, errW_some] <;> rfl), by repeat (first | (with_reducible first | exact HB.out | apply b_a | apply b_n | apply b_d) | exact HB.out)⟩
  ·rw [if_neg c6] at H
   have c6b0 : ((t371.length : Int) == 1) = false := beq_eq_false_iff_ne.mpr c6
   have c6b1 : ((t371.length : Int) != 1) = true := bne_iff_ne.mpr c6
   obtain ⟨ji9, hji9⟩ : ∃ j_ : Int, (wrap64 ((t371.length : Int) - 2)) = j_ := ⟨_, rfl⟩
   replace H : (if 0 ≤ (ji9) then (if (ji9) < (t371.length : Int) then (some (rdOf ByteArray.empty t371 (ji9), true)) else (none)) else (none)) = some (r1, r2) := by first | (rw [hji9] at H; exact H) | (simp only [hji9] at H ⊢; exact H)
   (try rw [hji9] at A2)
   have hji9w : (IntKind.i64.wrap ((t371.length : Int) - 2)) = ji9 := (i64_w _).trans hji9
   by_cases c10 : 0 ≤ (ji9)
   ·rw [if_pos c10] at H
    have c10b0 : decide (0 ≤ (ji9)) = true := decide_eq_true c10
    clear c10
    by_cases c11 : (ji9) < (t371.length : Int)
    ·rw [if_pos c11] at H
     have c11b0 : decide ((ji9) < (t371.length : Int)) = true := decide_eq_true c11
     clear c11
     simp only [Option.some.injEq, Prod.mk.injEq] at H
     obtain ⟨rfl, rfl⟩ := H
     go_enter Tryz.func20, Tryz.ntmps20
     go_wp2_with (first | ((with_reducible refine gate_callee (f := 32) rfl ?_); refine goesL_ (some 6) rfl rfl Tryz.func32 (by kernel_rfl) rfl #[.string a0] rfl (by (try simp only [List.map_toArray, List.map_cons, List.map_nil]); first | done | rfl) ?_; (with_reducible refine (r6_Path.calls k a0 t371 _ A2.out).mono ?_); rintro e w12 ⟨v372, rfl, ho0, hb⟩; refine ⟨_, rfl, ?_⟩; have n0_ := mk0 (Kd.R_lower ho0 (below_size (by repeat (with_reducible first | exact HB.out | apply b_a | apply b_n | apply b_d)))); have n1_ := mk0 (below_step (by repeat (with_reducible first | exact HB.out | apply b_a | apply b_n | apply b_d)) hb); clear HB; have HO373 := n0_; have HB := n1_; clear n0_ n1_; (try clear hb); (try clear hb2); (try clear hk); (try clear hi); (try clear ho0); obtain ⟨Ao13, co13, eo13⟩ := Kd.R_slice HO373.out; subst eo13; have p374 : 0 ≤ ((ji9) : Int) := of_decide_eq_true (by assumption); have q374 : (ji9) < (t371.length : Int) := of_decide_eq_true (by assumption); obtain ⟨ad374, e374, hx374_0⟩ := Kd.at_string (Kd.R_reads' HO373.out).2.2 (ji9) p374 q374; cases e374; replace p374 := eq_true p374; replace q374 := eq_true q374))
     go_ret2
     exact ⟨by first | rfl | (simp [errW_none, errW_some] <;> rfl) | (simp only [← hji9]; first | rfl | (simp [errW_none, errW_some] <;> rfl)) | (simp [*, errW_none, errW_some] <;> rfl), by repeat (first | (with_reducible first | exact HB.out | apply b_a | apply b_n | apply b_d) | exact HB.out)⟩
    ·rw [if_neg c11] at H
     exact absurd H (by simp)
   ·rw [if_neg c10] at H
    exact absurd H (by simp)

/-! ### r6_has: function 34 -/
def r6_has.l0 : Nat → ByteArray → List ByteArray → Int → Int → Option (Bool)
 | 0, _, _, _, _ => none
 | k + 1, x1, x7, x8, x9 => if x9 < x8 then (if 0 ≤ x9 then (if x9 < (x7.length : Int) then (if (rdOf ByteArray.empty x7 x9).toList = x1.toList then (some true) else (r6_has.l0 k x1 x7 x8 (wrap64 (x9 + 1)))) else (none)) else (none)) else (some false)
def r6_has.f (k : Nat) (l0 : List ByteArray) (a1 : ByteArray) : Option (Bool) := r6_has.l0 k a1 l0 (l0.length : Int) 0
theorem r6_has.mono_l : ∀ k, (∀ y0 y1 y2 y3, LeO (r6_has.l0 k y0 y1 y2 y3) (r6_has.l0 (k + 1) y0 y1 y2 y3))
 | 0 => fun _ _ _ _ r h => by simp [r6_has.l0] at h
 | k + 1 => by
  have ih0 := r6_has.mono_l k
  ·intro y0 y1 y2 y3
   unfold r6_has.l0
   repeat' first
   | (with_reducible exact ih0 _ _ _ _)
   | (with_reducible exact LeO.refl _)
   | (with_reducible exact LeO.none _)
   | (with_reducible refine LeO.ite ?_ ?_)
   | (with_reducible refine LeO.bind ?_ (fun _ => ?_))
theorem r6_has.mono : ∀ a0 a1 k, LeO (r6_has.f k a0 a1) (r6_has.f (k + 1) a0 a1) := by
 intro a0 a1 k
 have ih0 := r6_has.mono_l k
 unfold r6_has.f
 repeat' first
   | (with_reducible exact ih0 _ _ _ _)
   | (with_reducible exact LeO.refl _)
   | (with_reducible exact LeO.none _)
   | (with_reducible refine LeO.ite ?_ ?_)
   | (with_reducible refine LeO.bind ?_ (fun _ => ?_))
set_option maxHeartbeats 8000000 in
set_option maxRecDepth 100000 in
theorem r6_has.calls (k : Nat) (A0 : Option Addr) (c0 : Nat) (l0 : List ByteArray) (a1 : ByteArray) (r : Bool) (w : World) (hr0 : Kd.C Kd.string w A0 l0.length l0) (hc0 : l0.length ≤ c0) (h : r6_has.f k l0 a1 = some r) :
  Calls Tryz.prog 34 #[.slice A0 l0.length c0, .string a1] w fun e w' => e = .returned (.bool r) ∧ Drawn0 w w' := by
 have HR0 := mk0 hr0
 have HC0 := mk0 hc0
 clear hr0 hc0
 have H : (r6_has.l0 k a1 l0 (l0.length : Int) 0) = some r := h
 clear h
 have H' := mk0 H
 clear H
 go_enter Tryz.func34, Tryz.ntmps34
 go_wp2
 go_loopg [9] k (fun kq v9 w' => ∃ (x9_1 : Int), v9 = .int .i64 x9_1 ∧ Aside0 (r6_has.l0 kq a1 l0 (l0.length : Int) x9_1 = some r) ∧ Aside0 (kq ≤ k) ∧ Drawn0 w w')
 case atStart => exact ⟨(0), (by first | rfl | (simp; done) | (simp [*]; done)), H', ⟨Nat.le_refl _⟩, by repeat (first | exact Drawn0.refl _ | apply Drawn0.step)⟩
 case round =>
  clear H'
  try clear p2
  obtain ⟨x9_1, rfl, HA, HK1, ⟨m1, rfl⟩⟩ := hrel
  cases gk with
  | zero => exact absurd HA.out (by simp [r6_has.l0])
  | succ k1 =>
   have H := HA.out
   clear HA
   simp only [r6_has.l0] at H
   by_cases c3 : x9_1 < (l0.length : Int)
   ·rw [if_pos c3] at H
    have c3b0 : decide (x9_1 < (l0.length : Int)) = true := decide_eq_true c3
    clear c3
    by_cases c4 : 0 ≤ x9_1
    ·rw [if_pos c4] at H
     have c4b0 : decide (0 ≤ x9_1) = true := decide_eq_true c4
     clear c4
     by_cases c5 : x9_1 < (l0.length : Int)
     ·rw [if_pos c5] at H
      have c5b0 : decide (x9_1 < (l0.length : Int)) = true := decide_eq_true c5
      clear c5
      by_cases c6 : (rdOf ByteArray.empty l0 x9_1).toList = a1.toList
      ·rw [if_pos c6] at H
       have c6b0 : ((rdOf ByteArray.empty l0 x9_1).toList == a1.toList) = true := beq_iff_eq.mpr c6
       have c6b1 : ((rdOf ByteArray.empty l0 x9_1).toList != a1.toList) = false := bne_eq_false_iff_eq.mpr c6
       clear c6
       obtain rfl := Option.some.inj H
       have p375 : 0 ≤ (x9_1 : Int) := of_decide_eq_true (by assumption)
       have q375 : x9_1 < (l0.length : Int) := of_decide_eq_true (by assumption)
       obtain ⟨ad375, e375, hx375_0⟩ := Kd.at_string HR0.out x9_1 p375 q375
       cases e375
       replace p375 := eq_true p375
       replace q375 := eq_true q375
       go_wp2
       go_ret
       exact ⟨by first | rfl | (simp; done) | (simp [*]; done), by repeat (first | exact Drawn0.refl _ | apply Drawn0.step)⟩
      ·rw [if_neg c6] at H
       have c6b0 : ((rdOf ByteArray.empty l0 x9_1).toList == a1.toList) = false := beq_eq_false_iff_ne.mpr c6
       have c6b1 : ((rdOf ByteArray.empty l0 x9_1).toList != a1.toList) = true := bne_iff_ne.mpr c6
       have H' := mk0 H
       clear H
       have p375 : 0 ≤ (x9_1 : Int) := of_decide_eq_true (by assumption)
       have q375 : x9_1 < (l0.length : Int) := of_decide_eq_true (by assumption)
       obtain ⟨ad375, e375, hx375_0⟩ := Kd.at_string HR0.out x9_1 p375 q375
       cases e375
       replace p375 := eq_true p375
       replace q375 := eq_true q375
       go_wp2
       go_roundg k1
       case measure => have := HK1.out; omega
       case rel => exact ⟨(wrap64 (x9_1 + 1)), (by first | rfl | (simp; done) | (simp [*]; done)), H', ⟨by have := HK1.out; omega⟩, by repeat (first | exact Drawn0.refl _ | apply Drawn0.step)⟩
     ·rw [if_neg c5] at H
      exact absurd H (by simp)
    ·rw [if_neg c4] at H
     exact absurd H (by simp)
   ·rw [if_neg c3] at H
    have c3b0 : decide (x9_1 < (l0.length : Int)) = false := decide_eq_false c3
    clear c3
    obtain rfl := Option.some.inj H
    go_wp2
    go_ret
    exact ⟨by first | rfl | (simp; done) | (simp [*]; done), by repeat (first | exact Drawn0.refl _ | apply Drawn0.step)⟩

/-! ### r6_Validate: function 33 -/
mutual
def r6_Validate.j0 : Nat → Bool → ByteArray → List ByteArray → Option (Int)
 | 0, _, _, _ => none
 | k + 1, x16, x377000, x377001 => if x16 = true then (some 61) else (r6_Validate.l0 k x377001 (x377001.length : Int) 0 x377000 x377001)
def r6_Validate.l0 : Nat → List ByteArray → Int → Int → ByteArray → List ByteArray → Option (Int)
 | 0, _, _, _, _, _ => none
 | k + 1, x18, x19, x20, x377000, x377001 => if x20 < x19 then (if 0 ≤ x20 then (if x20 < (x18.length : Int) then ((r6_Is.f k (rdOf ByteArray.empty x18 x20)).bind fun t378 => (if t378 = true then (if x20 > 0 then (if 0 ≤ (wrap64 (x20 - 1)) then (if (wrap64 (x20 - 1)) < (x377001.length : Int) then ((r6_Compare.f k (rdOf ByteArray.empty x377001 (wrap64 (x20 - 1))) (rdOf ByteArray.empty x18 x20)).bind fun t380 => (r6_Validate.j2 k x20 (rdOf ByteArray.empty x18 x20) x18 x19 x20 (decide (t380 ≥ 0)) x377000 x377001)) else (none)) else (none)) else (r6_Validate.j2 k x20 (rdOf ByteArray.empty x18 x20) x18 x19 x20 false x377000 x377001)) else (some 60))) else (none)) else (none)) else (some 0)
def r6_Validate.j2 : Nat → Int → ByteArray → List ByteArray → Int → Int → Bool → ByteArray → List ByteArray → Option (Int)
 | 0, _, _, _, _, _, _, _, _ => none
 | k + 1, x3, x4, x18, x19, x20, x40, x377000, x377001 => if x40 = true then (some 62) else ((r6_Parent.f k x4).bind fun bt381 => (if bt381.1.toList = ([] : List UInt8) then (r6_Validate.l0 k x18 x19 (wrap64 (x20 + 1)) x377000 x377001) else (if 0 ≤ x3 then (if x3 ≤ (x377001.length : Int) then ((r6_has.f k (x377001.take (x3 : Int).toNat) bt381.1).bind fun t384 => (if t384 = true then (r6_Validate.l0 k x18 x19 (wrap64 (x20 + 1)) x377000 x377001) else (some 63))) else (none)) else (none))))
end
def r6_Validate.f (k : Nat) (a0_0 : ByteArray) (l0_1 : List ByteArray) : Option (Int) := if (l0_1.length : Int) < 1 then (r6_Validate.j0 k true a0_0 l0_1) else (r6_Validate.j0 k (decide ((l0_1.length : Int) > 200)) a0_0 l0_1)
theorem r6_Validate.mono_l : ∀ k, (∀ y0 y1 y2, LeO (r6_Validate.j0 k y0 y1 y2) (r6_Validate.j0 (k + 1) y0 y1 y2)) ∧ (∀ y0 y1 y2 y3 y4, LeO (r6_Validate.l0 k y0 y1 y2 y3 y4) (r6_Validate.l0 (k + 1) y0 y1 y2 y3 y4)) ∧ (∀ y0 y1 y2 y3 y4 y5 y6 y7, LeO (r6_Validate.j2 k y0 y1 y2 y3 y4 y5 y6 y7) (r6_Validate.j2 (k + 1) y0 y1 y2 y3 y4 y5 y6 y7))
 | 0 => ⟨fun _ _ _ r h => by simp [r6_Validate.j0] at h, fun _ _ _ _ _ r h => by simp [r6_Validate.l0] at h, fun _ _ _ _ _ _ _ _ r h => by simp [r6_Validate.j2] at h⟩
 | k + 1 => by
  obtain ⟨ih0, ih1, ih2⟩ := r6_Validate.mono_l k
  refine ⟨?_, ?_, ?_⟩
  ·intro y0 y1 y2
   unfold r6_Validate.j0
   repeat' first
   | (with_reducible exact ih0 _ _ _)
   | (with_reducible exact ih1 _ _ _ _ _)
   | (with_reducible exact ih2 _ _ _ _ _ _ _ _)
   | (with_reducible exact r6_Compare.mono _ _ _)
   | (with_reducible exact r6_Is.mono _ _)
   | (with_reducible exact r6_Parent.mono _ _)
   | (with_reducible exact r6_has.mono _ _ _)
   | (with_reducible exact LeO.refl _)
   | (with_reducible exact LeO.none _)
   | (with_reducible refine LeO.ite ?_ ?_)
   | (with_reducible refine LeO.bind ?_ (fun _ => ?_))
  ·intro y0 y1 y2 y3 y4
   unfold r6_Validate.l0
   repeat' first
   | (with_reducible exact ih0 _ _ _)
   | (with_reducible exact ih1 _ _ _ _ _)
   | (with_reducible exact ih2 _ _ _ _ _ _ _ _)
   | (with_reducible exact r6_Compare.mono _ _ _)
   | (with_reducible exact r6_Is.mono _ _)
   | (with_reducible exact r6_Parent.mono _ _)
   | (with_reducible exact r6_has.mono _ _ _)
   | (with_reducible exact LeO.refl _)
   | (with_reducible exact LeO.none _)
   | (with_reducible refine LeO.ite ?_ ?_)
   | (with_reducible refine LeO.bind ?_ (fun _ => ?_))
  ·intro y0 y1 y2 y3 y4 y5 y6 y7
   unfold r6_Validate.j2
   repeat' first
   | (with_reducible exact ih0 _ _ _)
   | (with_reducible exact ih1 _ _ _ _ _)
   | (with_reducible exact ih2 _ _ _ _ _ _ _ _)
   | (with_reducible exact r6_Compare.mono _ _ _)
   | (with_reducible exact r6_Is.mono _ _)
   | (with_reducible exact r6_Parent.mono _ _)
   | (with_reducible exact r6_has.mono _ _ _)
   | (with_reducible exact LeO.refl _)
   | (with_reducible exact LeO.none _)
   | (with_reducible refine LeO.ite ?_ ?_)
   | (with_reducible refine LeO.bind ?_ (fun _ => ?_))
theorem r6_Validate.mono : ∀ a0 a1 k, LeO (r6_Validate.f k a0 a1) (r6_Validate.f (k + 1) a0 a1) := by
 intro a0 a1 k
 obtain ⟨ih0, ih1, ih2⟩ := r6_Validate.mono_l k
 unfold r6_Validate.f
 repeat' first
   | (with_reducible exact ih0 _ _ _)
   | (with_reducible exact ih1 _ _ _ _ _)
   | (with_reducible exact ih2 _ _ _ _ _ _ _ _)
   | (with_reducible exact r6_Compare.mono _ _ _)
   | (with_reducible exact r6_Is.mono _ _)
   | (with_reducible exact r6_Parent.mono _ _)
   | (with_reducible exact r6_has.mono _ _ _)
   | (with_reducible exact LeO.refl _)
   | (with_reducible exact LeO.none _)
   | (with_reducible refine LeO.ite ?_ ?_)
   | (with_reducible refine LeO.bind ?_ (fun _ => ?_))
set_option maxHeartbeats 8000000 in
set_option maxRecDepth 100000 in
theorem r6_Validate.calls (k : Nat) (a0_0 : ByteArray) (A0_1 : Option Addr) (c0_1 : Nat) (l0_1 : List ByteArray) (r : Int) (w : World) (hr0_1 : Kd.C Kd.string w A0_1 l0_1.length l0_1) (hc0_1 : l0_1.length ≤ c0_1) (h : r6_Validate.f k a0_0 l0_1 = some r) :
  Calls Tryz.prog 33 #[.agg #[.string a0_0, .slice A0_1 l0_1.length c0_1]] w fun e w' => e = .returned (.int .i64 r) ∧ Below w.heap.size w w' := by
 have hu24 := Tryz.underlying24
 have HR0_1 := mk0 hr0_1
 have HC0_1 := mk0 hc0_1
 clear hr0_1 hc0_1
 have HB := mk0 (Below.refl w.heap.size w)
 have H : (if (l0_1.length : Int) < 1 then (r6_Validate.j0 k true a0_0 l0_1) else (r6_Validate.j0 k (decide ((l0_1.length : Int) > 200)) a0_0 l0_1)) = some r := h
 clear h
 have HC2 := mk0 H
 clear H
 go_enter Tryz.func33, Tryz.ntmps33
 go_upto_region 1 with (first | ((with_reducible refine gate_dst (N := 1) rfl ?_); refine box_event ?hg (N := 1) ?hd (cs := #[.string a0_0, .slice A0_1 l0_1.length c0_1]) (t := 24) ?hr ?_; (case hd => rfl); (case hg => rfl); (case hr => first | (go_simp; done) | (go_simp; rfl)); intro gb376 hg w3 hbox hb; have n0_ := mk0 (below_step (by repeat (with_reducible first | exact HB.out | apply b_a | apply b_n | apply b_d)) hb); have n1_ := mk0 (hbox); have n2_ := mk0 ((by rw [hg]; exact (below_size (by repeat (with_reducible first | exact HB.out | apply b_a | apply b_n | apply b_d))) : w.heap.size ≤ gb376)); have n3_ := mk0 ((by rw [hg]; exact (below_size (by repeat (with_reducible first | exact HB.out | apply b_a | apply b_n | apply b_d))) : w.heap.size ≤ gb376)); clear HB; have HB := n0_; have BK376 := n1_; have GW376 := n2_; have GE376 := n3_; clear n0_ n1_ n2_ n3_; clear hb hbox hg))
 (try simp only [Act.put, List.setIfInBounds_toArray, List.set_cons_zero, List.set_cons_succ])
 go_cut [16] (fun v16 wc => ∃ (kq : Nat) (x16_41 : Bool), v16 = .bool x16_41 ∧ Aside0 (r6_Validate.j0 kq x16_41 a0_0 l0_1 = some r) ∧ Aside0 (kq ≤ k) ∧ Aside0 (wc.heap[gb376]? = some (.cells #[.string a0_0, (.slice A0_1 l0_1.length c0_1)] 24 (0, 0))) ∧ Aside0 (Below w.heap.size w wc))
 case first =>
  have H := HC2.out
  clear HC2
  by_cases c4 : (l0_1.length : Int) < 1
  ·rw [if_pos c4] at H
   have c4b0 : decide ((l0_1.length : Int) < 1) = true := decide_eq_true c4
   have c4b1 : decide (l0_1.length < 1) = true := decide_eq_true (by omega)
   clear c4
   (first | rw [c4b0] | (simp only [i64_w, i32_w]; rw [c4b0]) | skip)
   have H' := mk0 H
   clear H
   have hcz5_0 : w3.cell? ⟨gb376, 0, none⟩ = some (.string a0_0) := (blk_cell BK376.out 0).trans rfl
   have hcz5_1 : w3.cell? ⟨gb376, 1, none⟩ = some (.slice A0_1 l0_1.length c0_1) := (blk_cell BK376.out 1).trans rfl
   have hfz5_0 := blk_frozen BK376.out 0
   have hfz5_1 := blk_frozen BK376.out 1
   go_wp2
   go_meet
   case rel => exact ⟨_, (true), (by first | rfl | (simp; done) | (simp [*]; done)), H', ⟨by first | omega | exact Nat.le_refl _⟩, ⟨by (with_reducible repeat (first | refine blk_drewN ?_ _ | refine blk_drew ?_ | refine blk_alloc ?_ _)); exact BK376.out⟩, ⟨by repeat (first | (with_reducible first | exact HB.out | apply b_a | apply b_n | apply b_d | refine below_set ?_ GE376.out) | exact HB.out)⟩⟩
  ·rw [if_neg c4] at H
   have c4b0 : decide ((l0_1.length : Int) < 1) = false := decide_eq_false c4
   have c4b1 : decide (l0_1.length < 1) = false := decide_eq_false (by omega)
   clear c4
   (first | rw [c4b0] | (simp only [i64_w, i32_w]; rw [c4b0]) | skip)
   have H' := mk0 H
   clear H
   have hcz6_0 : w3.cell? ⟨gb376, 0, none⟩ = some (.string a0_0) := (blk_cell BK376.out 0).trans rfl
   have hcz6_1 : w3.cell? ⟨gb376, 1, none⟩ = some (.slice A0_1 l0_1.length c0_1) := (blk_cell BK376.out 1).trans rfl
   have hfz6_0 := blk_frozen BK376.out 0
   have hfz6_1 := blk_frozen BK376.out 1
   go_wp2
   go_meet
   case rel => exact ⟨_, (decide ((l0_1.length : Int) > 200)), (by first | rfl | (simp; done) | (simp [*]; done)), H', ⟨by first | omega | exact Nat.le_refl _⟩, ⟨by (with_reducible repeat (first | refine blk_drewN ?_ _ | refine blk_drew ?_ | refine blk_alloc ?_ _)); exact BK376.out⟩, ⟨by repeat (first | (with_reducible first | exact HB.out | apply b_a | apply b_n | apply b_d | refine below_set ?_ GE376.out) | exact HB.out)⟩⟩
 case rest =>
  clear HC2
  try clear p2
  try clear c3
  try clear c4
  try clear c4b0
  try clear c4b1
  try clear hcz5_0
  try clear hcz5_1
  try clear hcz6_0
  try clear hcz6_1
  try clear hfz5_0
  try clear hfz5_1
  try clear hfz6_0
  try clear hfz6_1
  obtain ⟨kq, x16_41, rfl, HA, HJ41, BK376, HB⟩ := hcut
  cases kq with
  | zero => exact absurd HA.out (by simp [r6_Validate.j0])
  | succ kj41 =>
   have H := HA.out
   clear HA
   simp only [r6_Validate.j0] at H
   by_cases c7 : x16_41 = true
   ·subst c7
    have H1 : (some 61) = some r := by rw [if_pos rfl] at H; exact H
    clear H
    have H := H1
    clear H1
    obtain rfl := Option.some.inj H
    go_wp2
    go_ret
    exact ⟨by first | rfl | (simp [errW_none, errW_some] <;> rfl) | (simp [*, errW_none, errW_some] <;> rfl), by repeat (first | (with_reducible first | exact HB.out | apply b_a | apply b_n | apply b_d | refine below_set ?_ GE376.out) | exact HB.out)⟩
   ·replace c7 := Bool.eq_false_iff.mpr c7
    subst c7
    have H1 : (r6_Validate.l0 kj41 l0_1 (l0_1.length : Int) 0 a0_0 l0_1) = some r := by rw [if_neg (show ¬ (false = true) by decide)] at H; exact H
    clear H
    have H := H1
    clear H1
    have H' := mk0 H
    clear H
    have hcz8_0 : wc.cell? ⟨gb376, 0, none⟩ = some (.string a0_0) := (blk_cell BK376.out 0).trans rfl
    have hcz8_1 : wc.cell? ⟨gb376, 1, none⟩ = some (.slice A0_1 l0_1.length c0_1) := (blk_cell BK376.out 1).trans rfl
    have hfz8_0 := blk_frozen BK376.out 0
    have hfz8_1 := blk_frozen BK376.out 1
    go_wp2
    go_loopg [20] kj41 (fun kq v20 w' => ∃ (x20_2 : Int), v20 = .int .i64 x20_2 ∧ Aside0 (r6_Validate.l0 kq l0_1 (l0_1.length : Int) x20_2 a0_0 l0_1 = some r) ∧ Aside0 (kq ≤ kj41) ∧ Aside0 (w'.heap[gb376]? = some (.cells #[.string a0_0, (.slice A0_1 l0_1.length c0_1)] 24 (0, 0))) ∧ Aside0 (Below w.heap.size w w'))
    case atStart => exact ⟨(0), (by first | rfl | (simp; done) | (simp [*]; done)), H', ⟨Nat.le_refl _⟩, ⟨by (with_reducible repeat (first | refine blk_drewN ?_ _ | refine blk_drew ?_ | refine blk_alloc ?_ _)); exact BK376.out⟩, ⟨by repeat (first | (with_reducible first | exact HB.out | apply b_a | apply b_n | apply b_d | refine below_set ?_ GE376.out) | exact HB.out)⟩⟩
    case round =>
     clear H'
     try clear p2
     try clear c3
     try clear c4
     try clear c4b0
     try clear c4b1
     try clear c7
     try clear hcz5_0
     try clear hcz5_1
     try clear hcz6_0
     try clear hcz6_1
     try clear hcz8_0
     try clear hcz8_1
     try clear hfz5_0
     try clear hfz5_1
     try clear hfz6_0
     try clear hfz6_1
     try clear hfz8_0
     try clear hfz8_1
     try clear p2
     obtain ⟨x20_2, rfl, HA, HK2, BK376, HB⟩ := hrel
     cases gk with
     | zero => exact absurd HA.out (by simp [r6_Validate.l0])
     | succ k2 =>
      have H := HA.out
      clear HA
      simp only [r6_Validate.l0] at H
      by_cases c9 : x20_2 < (l0_1.length : Int)
      ·rw [if_pos c9] at H
       have c9b0 : decide (x20_2 < (l0_1.length : Int)) = true := decide_eq_true c9
       clear c9
       by_cases c10 : 0 ≤ x20_2
       ·rw [if_pos c10] at H
        have c10b0 : decide (0 ≤ x20_2) = true := decide_eq_true c10
        clear c10
        by_cases c11 : x20_2 < (l0_1.length : Int)
        ·rw [if_pos c11] at H
         have c11b0 : decide (x20_2 < (l0_1.length : Int)) = true := decide_eq_true c11
         clear c11
         replace H := Option.bind_eq_some_iff.mp H
         obtain ⟨t378, A120, H⟩ := H
         replace H : (if t378 = true then (if x20_2 > 0 then (if 0 ≤ (wrap64 (x20_2 - 1)) then (if (wrap64 (x20_2 - 1)) < (l0_1.length : Int) then ((r6_Compare.f k2 (rdOf ByteArray.empty l0_1 (wrap64 (x20_2 - 1))) (rdOf ByteArray.empty l0_1 x20_2)).bind fun t380 => (r6_Validate.j2 k2 x20_2 (rdOf ByteArray.empty l0_1 x20_2) l0_1 (l0_1.length : Int) x20_2 (decide (t380 ≥ 0)) a0_0 l0_1)) else (none)) else (none)) else (r6_Validate.j2 k2 x20_2 (rdOf ByteArray.empty l0_1 x20_2) l0_1 (l0_1.length : Int) x20_2 false a0_0 l0_1)) else (some 60)) = some r := H
         have A12 := mk0 A120
         clear A120
         by_cases c13 : t378 = true
         ·subst c13
          have H1 : (if x20_2 > 0 then (if 0 ≤ (wrap64 (x20_2 - 1)) then (if (wrap64 (x20_2 - 1)) < (l0_1.length : Int) then ((r6_Compare.f k2 (rdOf ByteArray.empty l0_1 (wrap64 (x20_2 - 1))) (rdOf ByteArray.empty l0_1 x20_2)).bind fun t380 => (r6_Validate.j2 k2 x20_2 (rdOf ByteArray.empty l0_1 x20_2) l0_1 (l0_1.length : Int) x20_2 (decide (t380 ≥ 0)) a0_0 l0_1)) else (none)) else (none)) else (r6_Validate.j2 k2 x20_2 (rdOf ByteArray.empty l0_1 x20_2) l0_1 (l0_1.length : Int) x20_2 false a0_0 l0_1)) = some r := by rw [if_pos rfl] at H; exact H
          clear H
          have H := H1
          clear H1
          have HC14 := mk0 H
          clear H
          have p377 : 0 ≤ (x20_2 : Int) := of_decide_eq_true (by assumption)
          have q377 : x20_2 < (l0_1.length : Int) := of_decide_eq_true (by assumption)
          obtain ⟨ad377, e377, hx377_0⟩ := Kd.at_string HR0_1.out x20_2 p377 q377
          cases e377
          replace hx377_0 := (HB.out.cell (World.block_lt_of_cell? w _ hx377_0)).trans hx377_0
          replace p377 := eq_true p377
          replace q377 := eq_true q377
          go_upto_region 8 with (first | ((with_reducible refine gate_callee (f := 49) rfl ?_); refine goesL_ (some 26) rfl rfl Tryz.func49 (by kernel_rfl) rfl #[.string (rdOf ByteArray.empty l0_1 x20_2)] rfl (by (try simp only [List.map_toArray, List.map_cons, List.map_nil]); first | done | rfl) ?_; (with_reducible refine (r6_Is.calls k2 (rdOf ByteArray.empty l0_1 x20_2) true _ A12.out).mono ?_); rintro e w15 ⟨rfl, hb⟩; refine ⟨_, rfl, ?_⟩; have n0_ := mk0 (blk_below (g := gb376) (o := .cells #[.string a0_0, .slice (some ad377) l0_1.length c0_1] 24 (0, 0)) (by (with_reducible repeat (first | refine blk_drewN ?_ _ | refine blk_drew ?_ | refine blk_alloc ?_ _)); exact BK376.out) hb); have n1_ := mk0 (below_step (by repeat (with_reducible first | exact HB.out | apply b_a | apply b_n | apply b_d | refine below_set ?_ GE376.out)) hb); clear BK376; clear HB; have BK376 := n0_; have HB := n1_; clear n0_ n1_; (try clear hb)))
          (try simp only [Act.put, List.setIfInBounds_toArray, List.set_cons_zero, List.set_cons_succ])
          go_cut [40] (fun v40 wc => ∃ (kq : Nat) (x40_53 : Bool), v40 = .bool x40_53 ∧ Aside0 (r6_Validate.j2 kq x20_2 (rdOf ByteArray.empty l0_1 x20_2) l0_1 (l0_1.length : Int) x20_2 x40_53 a0_0 l0_1 = some r) ∧ Aside0 (kq ≤ k2) ∧ Aside0 (wc.heap[gb376]? = some (.cells #[.string a0_0, (.slice (some ad377) l0_1.length c0_1)] 24 (0, 0))) ∧ Aside0 (Below w.heap.size w wc))
          case first =>
           have H := HC14.out
           clear HC14
           by_cases c16 : x20_2 > 0
           ·rw [if_pos c16] at H
            have c16b0 : decide (0 < x20_2) = true := decide_eq_true c16
            clear c16
            (first | rw [c16b0] | (simp only [i64_w, i32_w]; rw [c16b0]) | skip)
            obtain ⟨ji17, hji17⟩ : ∃ j_ : Int, (wrap64 (x20_2 - 1)) = j_ := ⟨_, rfl⟩
            replace H : (if 0 ≤ (ji17) then (if (ji17) < (l0_1.length : Int) then ((r6_Compare.f k2 (rdOf ByteArray.empty l0_1 (ji17)) (rdOf ByteArray.empty l0_1 x20_2)).bind fun t380 => (r6_Validate.j2 k2 x20_2 (rdOf ByteArray.empty l0_1 x20_2) l0_1 (l0_1.length : Int) x20_2 (decide (t380 ≥ 0)) a0_0 l0_1)) else (none)) else (none)) = some r := by first | (rw [hji17] at H; exact H) | (simp only [hji17] at H ⊢; exact H)
            have hji17w : (IntKind.i64.wrap (x20_2 - 1)) = ji17 := (i64_w _).trans hji17
            by_cases c18 : 0 ≤ (ji17)
            ·rw [if_pos c18] at H
             have c18b0 : decide (0 ≤ (ji17)) = true := decide_eq_true c18
             clear c18
             by_cases c19 : (ji17) < (l0_1.length : Int)
             ·rw [if_pos c19] at H
              have c19b0 : decide ((ji17) < (l0_1.length : Int)) = true := decide_eq_true c19
              clear c19
              replace H := Option.bind_eq_some_iff.mp H
              obtain ⟨t380, A200, H⟩ := H
              replace H : (r6_Validate.j2 k2 x20_2 (rdOf ByteArray.empty l0_1 x20_2) l0_1 (l0_1.length : Int) x20_2 (decide (t380 ≥ 0)) a0_0 l0_1) = some r := H
              have A20 := mk0 A200
              clear A200
              have H' := mk0 H
              clear H
              have hcz21_0 : w15.cell? ⟨gb376, 0, none⟩ = some (.string a0_0) := (blk_cell BK376.out 0).trans rfl
              have hcz21_1 : w15.cell? ⟨gb376, 1, none⟩ = some (.slice (some ad377) l0_1.length c0_1) := (blk_cell BK376.out 1).trans rfl
              have hfz21_0 := blk_frozen BK376.out 0
              have hfz21_1 := blk_frozen BK376.out 1
              have p379 : 0 ≤ ((ji17) : Int) := of_decide_eq_true (by assumption)
              have q379 : (ji17) < (l0_1.length : Int) := of_decide_eq_true (by assumption)
              obtain ⟨ad379, e379, hx379_0⟩ := Kd.at_string HR0_1.out (ji17) p379 q379
              obtain rfl : ad377 = ad379 := (by injection e379)
              replace hx379_0 := (HB.out.cell (World.block_lt_of_cell? w _ hx379_0)).trans hx379_0
              replace p379 := eq_true p379
              replace q379 := eq_true q379
              go_wp2_with (first | (go_at_call 26; (with_reducible refine (r6_Compare.calls k2 (rdOf ByteArray.empty l0_1 (ji17)) (rdOf ByteArray.empty l0_1 x20_2) t380 _ A20.out).mono ?_); rintro e w22 ⟨rfl, hb⟩; have n0_ := mk0 (blk_below (g := gb376) (o := .cells #[.string a0_0, .slice (some ad377) l0_1.length c0_1] 24 (0, 0)) (by (with_reducible repeat (first | refine blk_drewN ?_ _ | refine blk_drew ?_ | refine blk_alloc ?_ _)); exact BK376.out) hb); have n1_ := mk0 (below_step (by repeat (with_reducible first | exact HB.out | apply b_a | apply b_n | apply b_d | refine below_set ?_ GE376.out)) hb); clear BK376; clear HB; have BK376 := n0_; have HB := n1_; clear n0_ n1_; (try clear hb); (try clear hb2); (try clear hk); (try clear hi)))
              go_meet
              case rel => exact ⟨_, (decide (t380 ≥ 0)), (by first | rfl | (simp; done) | (simp [*]; done)), H', ⟨by have := HJ41.out; have := HK2.out; first | omega | exact Nat.le_refl _⟩, ⟨by (with_reducible repeat (first | refine blk_drewN ?_ _ | refine blk_drew ?_ | refine blk_alloc ?_ _)); exact BK376.out⟩, ⟨by repeat (first | (with_reducible first | exact HB.out | apply b_a | apply b_n | apply b_d | refine below_set ?_ GE376.out) | exact HB.out)⟩⟩
             ·rw [if_neg c19] at H
              exact absurd H (by simp)
            ·rw [if_neg c18] at H
             exact absurd H (by simp)
           ·rw [if_neg c16] at H
            have c16b0 : decide (0 < x20_2) = false := decide_eq_false c16
            clear c16
            (first | rw [c16b0] | (simp only [i64_w, i32_w]; rw [c16b0]) | skip)
            have H' := mk0 H
            clear H
            go_wp2
            go_meet
            case rel => exact ⟨_, (false), (by first | rfl | (simp; done) | (simp [*]; done)), H', ⟨by have := HJ41.out; have := HK2.out; first | omega | exact Nat.le_refl _⟩, ⟨by (with_reducible repeat (first | refine blk_drewN ?_ _ | refine blk_drew ?_ | refine blk_alloc ?_ _)); exact BK376.out⟩, ⟨by repeat (first | (with_reducible first | exact HB.out | apply b_a | apply b_n | apply b_d | refine below_set ?_ GE376.out) | exact HB.out)⟩⟩
          case rest =>
           clear HC14
           try clear c1
           try clear p2
           try clear c3
           try clear p3
           try clear q3
           try clear hx3
           try clear c4
           try clear c4b0
           try clear c4b1
           try clear p6
           try clear c7
           try clear c9
           try clear c9b0
           try clear c10
           try clear c10b0
           try clear c11
           try clear c11b0
           try clear c13
           try clear c16
           try clear c16b0
           try clear c18
           try clear c18b0
           try clear c19
           try clear c19b0
           try clear hcz21_0
           try clear hcz21_1
           try clear hcz5_0
           try clear hcz5_1
           try clear hcz6_0
           try clear hcz6_1
           try clear hcz8_0
           try clear hcz8_1
           try clear hfz21_0
           try clear hfz21_1
           try clear hfz5_0
           try clear hfz5_1
           try clear hfz6_0
           try clear hfz6_1
           try clear hfz8_0
           try clear hfz8_1
           try clear hx377_0
           try clear hx379_0
           try clear p2
           try clear p377
           try clear p379
           try clear q377
           try clear q379
           obtain ⟨kq, x40_53, rfl, HA, HJ53, BK376, HB⟩ := hcut
           cases kq with
           | zero => exact absurd HA.out (by simp [r6_Validate.j2])
           | succ kj53 =>
            have H := HA.out
            clear HA
            simp only [r6_Validate.j2] at H
            by_cases c23 : x40_53 = true
            ·subst c23
             have H1 : (some 62) = some r := by rw [if_pos rfl] at H; exact H
             clear H
             have H := H1
             clear H1
             obtain rfl := Option.some.inj H
             go_wp2
             go_ret
             exact ⟨by first | rfl | (simp [errW_none, errW_some] <;> rfl) | (simp [*, errW_none, errW_some] <;> rfl), by repeat (first | (with_reducible first | exact HB.out | apply b_a | apply b_n | apply b_d | refine below_set ?_ GE376.out) | exact HB.out)⟩
            ·replace c23 := Bool.eq_false_iff.mpr c23
             subst c23
             have H1 : ((r6_Parent.f kj53 (rdOf ByteArray.empty l0_1 x20_2)).bind fun bt381 => (if bt381.1.toList = ([] : List UInt8) then (r6_Validate.l0 kj53 l0_1 (l0_1.length : Int) (wrap64 (x20_2 + 1)) a0_0 l0_1) else (if 0 ≤ x20_2 then (if x20_2 ≤ (l0_1.length : Int) then ((r6_has.f kj53 (l0_1.take (x20_2 : Int).toNat) bt381.1).bind fun t384 => (if t384 = true then (r6_Validate.l0 kj53 l0_1 (l0_1.length : Int) (wrap64 (x20_2 + 1)) a0_0 l0_1) else (some 63))) else (none)) else (none)))) = some r := by rw [if_neg (show ¬ (false = true) by decide)] at H; exact H
             clear H
             have H := H1
             clear H1
             replace H := Option.bind_eq_some_iff.mp H
             obtain ⟨⟨t381, t382⟩, A240, H⟩ := H
             replace H : (if t381.toList = ([] : List UInt8) then (r6_Validate.l0 kj53 l0_1 (l0_1.length : Int) (wrap64 (x20_2 + 1)) a0_0 l0_1) else (if 0 ≤ x20_2 then (if x20_2 ≤ (l0_1.length : Int) then ((r6_has.f kj53 (l0_1.take (x20_2 : Int).toNat) t381).bind fun t384 => (if t384 = true then (r6_Validate.l0 kj53 l0_1 (l0_1.length : Int) (wrap64 (x20_2 + 1)) a0_0 l0_1) else (some 63))) else (none)) else (none))) = some r := H
             have A24 := mk0 A240
             clear A240
             by_cases c25 : t381.toList = ([] : List UInt8)
             ·rw [if_pos c25] at H
              have c25b0 : (t381.toList == ([] : List UInt8)) = true := beq_iff_eq.mpr c25
              have c25b1 : (t381.toList != ([] : List UInt8)) = false := bne_eq_false_iff_eq.mpr c25
              clear c25
              have H' := mk0 H
              clear H
              go_wp2_with (first | ((with_reducible refine gate_callee (f := 20) rfl ?_); refine goesL_ (some 43) rfl rfl Tryz.func20 (by kernel_rfl) rfl #[.string (rdOf ByteArray.empty l0_1 x20_2)] rfl (by (try simp only [List.map_toArray, List.map_cons, List.map_nil]); first | done | rfl) ?_; (with_reducible refine (r6_Parent.calls kj53 (rdOf ByteArray.empty l0_1 x20_2) t381 t382 _ A24.out).mono ?_); rintro e w26 ⟨rfl, hb⟩; refine ⟨_, rfl, ?_⟩; have n0_ := mk0 (blk_below (g := gb376) (o := .cells #[.string a0_0, .slice (some ad377) l0_1.length c0_1] 24 (0, 0)) (by (with_reducible repeat (first | refine blk_drewN ?_ _ | refine blk_drew ?_ | refine blk_alloc ?_ _)); exact BK376.out) hb); have n1_ := mk0 (below_step (by repeat (with_reducible first | exact HB.out | apply b_a | apply b_n | apply b_d | refine below_set ?_ GE376.out)) hb); clear BK376; clear HB; have BK376 := n0_; have HB := n1_; clear n0_ n1_; (try clear hb)))
              go_roundg kj53
              case measure => have := HJ41.out; have := HK2.out; have := HJ53.out; omega
              case rel => exact ⟨(wrap64 (x20_2 + 1)), (by first | rfl | (simp; done) | (simp [*]; done)), H', ⟨by have := HJ41.out; have := HK2.out; have := HJ53.out; omega⟩, ⟨by (with_reducible repeat (first | refine blk_drewN ?_ _ | refine blk_drew ?_ | refine blk_alloc ?_ _)); exact BK376.out⟩, ⟨by repeat (first | (with_reducible first | exact HB.out | apply b_a | apply b_n | apply b_d | refine below_set ?_ GE376.out) | exact HB.out)⟩⟩
             ·rw [if_neg c25] at H
              have c25b0 : (t381.toList == ([] : List UInt8)) = false := beq_eq_false_iff_ne.mpr c25
              have c25b1 : (t381.toList != ([] : List UInt8)) = true := bne_iff_ne.mpr c25
              by_cases c27 : 0 ≤ x20_2
              ·rw [if_pos c27] at H
               have c27b0 := eq_true c27
               have c27b1 : decide (0 ≤ x20_2) = true := decide_eq_true c27
               clear c27
               by_cases c28 : x20_2 ≤ (l0_1.length : Int)
               ·rw [if_pos c28] at H
                have c28b0 := eq_true c28
                have c28b1 : decide (x20_2 ≤ (l0_1.length : Int)) = true := decide_eq_true c28
                clear c28
                replace H := Option.bind_eq_some_iff.mp H
                obtain ⟨t384, A290, H⟩ := H
                replace H : (if t384 = true then (r6_Validate.l0 kj53 l0_1 (l0_1.length : Int) (wrap64 (x20_2 + 1)) a0_0 l0_1) else (some 63)) = some r := H
                have A29 := mk0 A290
                clear A290
                by_cases c30 : t384 = true
                ·subst c30
                 have H1 : (r6_Validate.l0 kj53 l0_1 (l0_1.length : Int) (wrap64 (x20_2 + 1)) a0_0 l0_1) = some r := by rw [if_pos rfl] at H; exact H
                 clear H
                 have H := H1
                 clear H1
                 have H' := mk0 H
                 clear H
                 go_wp2_with (first | ((with_reducible refine gate_callee (f := 20) rfl ?_); refine goesL_ (some 43) rfl rfl Tryz.func20 (by kernel_rfl) rfl #[.string (rdOf ByteArray.empty l0_1 x20_2)] rfl (by (try simp only [List.map_toArray, List.map_cons, List.map_nil]); first | done | rfl | (simp only [List.length_drop, List.length_take]; rfl)) ?_; (with_reducible refine (r6_Parent.calls kj53 (rdOf ByteArray.empty l0_1 x20_2) t381 t382 _ A24.out).mono ?_); rintro e w31 ⟨rfl, hb⟩; refine ⟨_, rfl, ?_⟩; have n0_ := mk0 (blk_below (g := gb376) (o := .cells #[.string a0_0, .slice (some ad377) l0_1.length c0_1] 24 (0, 0)) (by (with_reducible repeat (first | refine blk_drewN ?_ _ | refine blk_drew ?_ | refine blk_alloc ?_ _)); exact BK376.out) hb); have n1_ := mk0 (below_step (by repeat (with_reducible first | exact HB.out | apply b_a | apply b_n | apply b_d | refine below_set ?_ GE376.out)) hb); clear BK376; clear HB; have BK376 := n0_; have HB := n1_; clear n0_ n1_; (try clear hb); have hcz32_0 : w31.cell? ⟨gb376, 0, none⟩ = some (.string a0_0) := (blk_cell BK376.out 0).trans rfl; have hcz32_1 : w31.cell? ⟨gb376, 1, none⟩ = some (.slice (some ad377) l0_1.length c0_1) := (blk_cell BK376.out 1).trans rfl; have hfz32_0 := blk_frozen BK376.out 0; have hfz32_1 := blk_frozen BK376.out 1; obtain ⟨i033, hi033, _, hsz33, _⟩ := info_parts info9; obtain ⟨hcut33, hA33, hC33⟩ := print_take_of (P := Tryz.prog) Value.string (⟨#[]⟩ : ByteArray) 22 9 .i64 Tryz.underlying22 hi033 hsz33 (some ad377) c0_1 l0_1 x20_2 (of_decide_eq_true (by assumption)) (of_decide_eq_true (by assumption)) HC0_1.out; have HR383 := mk0 (Kd.C_of_reads (h1 := fun _ => rfl) (hA33 _ (Kd.reads_of_C HR0_1.out))); have HC383 := mk0 hC33; clear hA33 hC33 hi033 hsz33) | (go_at_call 34; refine calls_of_args (args' := #[.slice (some ad377) (l0_1.take (x20_2 : Int).toNat).length c0_1, .string t381]) (by have hq_ : x20_2 ≤ (l0_1.length : Int) := of_decide_eq_true (by assumption); rw [show (l0_1.take (x20_2 : Int).toNat).length = (x20_2 : Int).toNat from by rw [List.length_take]; omega]) ?_; (with_reducible refine (r6_has.calls kj53 _ _ (l0_1.take (x20_2 : Int).toNat) t381 true _ ?side1 ?side2 A29.out).mono ?_); (case side1 => repeat (first | exact (Kd.C_below HR383.out HB.out) | (with_reducible refine Kd.C_alloc ?_ _) | (with_reducible refine Kd.C_drewN ?_ _) | (with_reducible refine Kd.C_drew ?_))); (case side2 => exact HC383.out); rintro e w' ⟨rfl, ⟨nd, rfl⟩⟩))
                 go_roundg kj53
                 case measure => have := HJ41.out; have := HK2.out; have := HJ53.out; omega
                 case rel => exact ⟨(wrap64 (x20_2 + 1)), (by first | rfl | (simp; done) | (simp [*]; done)), H', ⟨by have := HJ41.out; have := HK2.out; have := HJ53.out; omega⟩, ⟨by (with_reducible repeat (first | refine blk_drewN ?_ _ | refine blk_drew ?_ | refine blk_alloc ?_ _)); exact BK376.out⟩, ⟨by repeat (first | (with_reducible first | exact HB.out | apply b_a | apply b_n | apply b_d | refine below_set ?_ GE376.out) | exact HB.out)⟩⟩
                ·replace c30 := Bool.eq_false_iff.mpr c30
                 subst c30
                 have H1 : (some 63) = some r := by rw [if_neg (show ¬ (false = true) by decide)] at H; exact H
                 clear H
                 have H := H1
                 clear H1
                 obtain rfl := Option.some.inj H
                 go_wp2_with (first | ((with_reducible refine gate_callee (f := 20) rfl ?_); refine goesL_ (some 43) rfl rfl Tryz.func20 (by kernel_rfl) rfl #[.string (rdOf ByteArray.empty l0_1 x20_2)] rfl (by (try simp only [List.map_toArray, List.map_cons, List.map_nil]); first | done | rfl | (simp only [List.length_drop, List.length_take]; rfl)) ?_; (with_reducible refine (r6_Parent.calls kj53 (rdOf ByteArray.empty l0_1 x20_2) t381 t382 _ A24.out).mono ?_); rintro e w34 ⟨rfl, hb⟩; refine ⟨_, rfl, ?_⟩; have n0_ := mk0 (blk_below (g := gb376) (o := .cells #[.string a0_0, .slice (some ad377) l0_1.length c0_1] 24 (0, 0)) (by (with_reducible repeat (first | refine blk_drewN ?_ _ | refine blk_drew ?_ | refine blk_alloc ?_ _)); exact BK376.out) hb); have n1_ := mk0 (below_step (by repeat (with_reducible first | exact HB.out | apply b_a | apply b_n | apply b_d | refine below_set ?_ GE376.out)) hb); clear BK376; clear HB; have BK376 := n0_; have HB := n1_; clear n0_ n1_; (try clear hb); have hcz35_0 : w34.cell? ⟨gb376, 0, none⟩ = some (.string a0_0) := (blk_cell BK376.out 0).trans rfl; have hcz35_1 : w34.cell? ⟨gb376, 1, none⟩ = some (.slice (some ad377) l0_1.length c0_1) := (blk_cell BK376.out 1).trans rfl; have hfz35_0 := blk_frozen BK376.out 0; have hfz35_1 := blk_frozen BK376.out 1; obtain ⟨i036, hi036, _, hsz36, _⟩ := info_parts info9; obtain ⟨hcut36, hA36, hC36⟩ := print_take_of (P := Tryz.prog) Value.string (⟨#[]⟩ : ByteArray) 22 9 .i64 Tryz.underlying22 hi036 hsz36 (some ad377) c0_1 l0_1 x20_2 (of_decide_eq_true (by assumption)) (of_decide_eq_true (by assumption)) HC0_1.out; have HR383 := mk0 (Kd.C_of_reads (h1 := fun _ => rfl) (hA36 _ (Kd.reads_of_C HR0_1.out))); have HC383 := mk0 hC36; clear hA36 hC36 hi036 hsz36) | (go_at_call 34; refine calls_of_args (args' := #[.slice (some ad377) (l0_1.take (x20_2 : Int).toNat).length c0_1, .string t381]) (by have hq_ : x20_2 ≤ (l0_1.length : Int) := of_decide_eq_true (by assumption); rw [show (l0_1.take (x20_2 : Int).toNat).length = (x20_2 : Int).toNat from by rw [List.length_take]; omega]) ?_; (with_reducible refine (r6_has.calls kj53 _ _ (l0_1.take (x20_2 : Int).toNat) t381 false _ ?side1 ?side2 A29.out).mono ?_); (case side1 => repeat (first | exact (Kd.C_below HR383.out HB.out) | (with_reducible refine Kd.C_alloc ?_ _) | (with_reducible refine Kd.C_drewN ?_ _) | (with_reducible refine Kd.C_drew ?_))); (case side2 => exact HC383.out); rintro e w' ⟨rfl, ⟨nd, rfl⟩⟩))
                 go_ret
                 exact ⟨by first | rfl | (simp [errW_none, errW_some] <;> rfl) | (simp [*, errW_none, errW_some] <;> rfl), by repeat (first | (with_reducible first | exact HB.out | apply b_a | apply b_n | apply b_d | refine below_set ?_ GE376.out) | exact HB.out)⟩
               ·rw [if_neg c28] at H
                exact absurd H (by simp)
              ·rw [if_neg c27] at H
               exact absurd H (by simp)
         ·replace c13 := Bool.eq_false_iff.mpr c13
          subst c13
          have H1 : (some 60) = some r := by rw [if_neg (show ¬ (false = true) by decide)] at H; exact H
          clear H
          have H := H1
          clear H1
          obtain rfl := Option.some.inj H
          have p377 : 0 ≤ (x20_2 : Int) := of_decide_eq_true (by assumption)
          have q377 : x20_2 < (l0_1.length : Int) := of_decide_eq_true (by assumption)
          obtain ⟨ad377, e377, hx377_0⟩ := Kd.at_string HR0_1.out x20_2 p377 q377
          cases e377
          replace hx377_0 := (HB.out.cell (World.block_lt_of_cell? w _ hx377_0)).trans hx377_0
          replace p377 := eq_true p377
          replace q377 := eq_true q377
          go_wp2_with (first | ((with_reducible refine gate_callee (f := 49) rfl ?_); refine goesL_ (some 26) rfl rfl Tryz.func49 (by kernel_rfl) rfl #[.string (rdOf ByteArray.empty l0_1 x20_2)] rfl (by (try simp only [List.map_toArray, List.map_cons, List.map_nil]); first | done | rfl) ?_; (with_reducible refine (r6_Is.calls k2 (rdOf ByteArray.empty l0_1 x20_2) false _ A12.out).mono ?_); rintro e w37 ⟨rfl, hb⟩; refine ⟨_, rfl, ?_⟩; have n0_ := mk0 (blk_below (g := gb376) (o := .cells #[.string a0_0, .slice (some ad377) l0_1.length c0_1] 24 (0, 0)) (by (with_reducible repeat (first | refine blk_drewN ?_ _ | refine blk_drew ?_ | refine blk_alloc ?_ _)); exact BK376.out) hb); have n1_ := mk0 (below_step (by repeat (with_reducible first | exact HB.out | apply b_a | apply b_n | apply b_d | refine below_set ?_ GE376.out)) hb); clear BK376; clear HB; have BK376 := n0_; have HB := n1_; clear n0_ n1_; (try clear hb)))
          go_ret
          exact ⟨by first | rfl | (simp [errW_none, errW_some] <;> rfl) | (simp [*, errW_none, errW_some] <;> rfl), by repeat (first | (with_reducible first | exact HB.out | apply b_a | apply b_n | apply b_d | refine below_set ?_ GE376.out) | exact HB.out)⟩
        ·rw [if_neg c11] at H
         exact absurd H (by simp)
       ·rw [if_neg c10] at H
        exact absurd H (by simp)
      ·rw [if_neg c9] at H
       have c9b0 : decide (x20_2 < (l0_1.length : Int)) = false := decide_eq_false c9
       clear c9
       obtain rfl := Option.some.inj H
       go_wp2
       go_ret
       exact ⟨by first | rfl | (simp [errW_none, errW_some] <;> rfl) | (simp [*, errW_none, errW_some] <;> rfl), by repeat (first | (with_reducible first | exact HB.out | apply b_a | apply b_n | apply b_d | refine below_set ?_ GE376.out) | exact HB.out)⟩

end Go.Proofs.YtpnoliognpmkmaaGreatDoor.P
