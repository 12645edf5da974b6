/- Lean functions with the same answers as the program's Go functions, and for each the proof that the call comes to these answers; written by a program of mine out of the translation, the functions marked 'by hand' by me. -/
import Derived.Test.YtpnoliognpmkmaaGreatDoorP0
import Derived.Test.YtpnoliognpmkmaaGreatDoorP1
import Derived.Test.YtpnoliognpmkmaaGreatDoorP2
import Derived.Test.YtpnoliognpmkmaaGreatDoorP3
import Derived.Test.YtpnoliognpmkmaaGreatDoorP7
import Derived.Test.YtpnoliognpmkmaaGreatDoorP8
import Derived.Test.YtpnoliognpmkmaaGreatDoorP12
import Derived.Test.YtpnoliognpmkmaaGreatDoorP14
import Derived.Test.YtpnoliognpmkmaaGreatDoorP15
import Derived.Test.YtpnoliognpmkmaaGreatDoorP16
import Derived.Test.YtpnoliognpmkmaaGreatDoorP17
namespace Go.Proofs.YtpnoliognpmkmaaGreatDoor.P
open Go.RowKit Go.Proofs.YtpnoliognpmkmaaGreatDoorW.PrintWords Go.Proofs.YtpnoliognpmkmaaGreatDoorW.PrintLast Go.Proofs.YtpnoliognpmkmaaGreatDoorW.PrintMore
attribute [local go_sem] max2_int min2_int max_two min_two max_three min_three max_four min_four   -- for this text's walks alone
set_option linter.unusedVariables false
set_option linter.unusedSimpArgs false

/-! ### w6_ClassificationLeaves: function 3 -/
def w6_ClassificationLeaves.l0 : Nat → ByteArray → List ByteArray → Int → Int → ByteArray → List ByteArray → ByteArray → List ByteArray → Option (Bool)
 | 0, _, _, _, _, _, _, _, _ => none
 | k + 1, x1, x30, x31, x32, x423000, x423001, x434000, x434001 => if x32 < x31 then (if 0 ≤ x32 then (if x32 < (x30.length : Int) then ((c_Children.f k x434000 x434001 (rdOf ByteArray.empty x30 x32)).bind fun t449 => ((r6_Children.f k x434000 x434001 (rdOf ByteArray.empty x30 x32)).bind fun t452 => ((r6_SameStrings.f k t449 t452).bind fun t455 => (if t455 = true then ((c_Leaves.f k x434000 x434001 (rdOf ByteArray.empty x30 x32)).bind fun t456 => ((r6_Leaves.f k x434000 x434001 (rdOf ByteArray.empty x30 x32)).bind fun t459 => ((r6_SameStrings.f k t456 t459).bind fun t462 => (if t462 = true then (w6_ClassificationLeaves.l0 k x1 x30 x31 (wrap64 (x32 + 1)) x423000 x423001 x434000 x434001) else (some false))))) else (some false))))) else (none)) else (none)) else ((c_Children.f k x423000 x423001 x1).bind fun t463 => ((r6_Children.f k x423000 x423001 x1).bind fun t466 => ((r6_SameStrings.f k t463 t466).bind fun t469 => (if t469 = true then ((c_Leaves.f k x423000 x423001 x1).bind fun t470 => ((r6_Leaves.f k x423000 x423001 x1).bind fun t473 => ((r6_SameStrings.f k t470 t473).bind fun t476 => (if t476 = true then ((w6_awake.f k).bind fun t477 => (some t477)) else (some false))))) else (some false)))))
def w6_ClassificationLeaves.f (k : Nat) (a0_0 : ByteArray) (l0_1 : List ByteArray) (a1 : ByteArray) (l2 : List Int) : Option (Bool) := (w6_raw.f k a0_0 l0_1).bind fun bt424 => (if 0 ≤ (mn (a1.size : Int) 20) then (if (mn (a1.size : Int) 20) ≤ (a1.size : Int) then ((w6_spoiled.f k l2 0).bind fun bt428 => ((some (([] : List ByteArray) : List ByteArray)).bind fun y434 => (if y434.length + bt428.2.1.length < 8796093022208 then ((some (y434 ++ bt428.2.1 : List ByteArray)).bind fun y437 => ((w6_code.f k l2 bt428.2.2).bind fun bt440 => ((some (([(⟨#[]⟩ : ByteArray), bt440.1] : List ByteArray) : List ByteArray)).bind fun y442 => (if y437.length + y442.length < 8796093022208 then ((some (y437 ++ y442 : List ByteArray)).bind fun y445 => (w6_ClassificationLeaves.l0 k (a1.extract 0 ((mn (a1.size : Int) 20) : Int).toNat) y445 (y445.length : Int) 0 bt424.1 bt424.2 bt428.1 bt428.2.1)) else (none))))) else (none)))) else (none)) else (none))
theorem w6_ClassificationLeaves.mono_l : ∀ k, (∀ y0 y1 y2 y3 y4 y5 y6 y7, LeO (w6_ClassificationLeaves.l0 k y0 y1 y2 y3 y4 y5 y6 y7) (w6_ClassificationLeaves.l0 (k + 1) y0 y1 y2 y3 y4 y5 y6 y7))
 | 0 => fun _ _ _ _ _ _ _ _ r h => by simp [w6_ClassificationLeaves.l0] at h
 | k + 1 => by
  have ih0 := w6_ClassificationLeaves.mono_l k
  ·intro y0 y1 y2 y3 y4 y5 y6 y7
   unfold w6_ClassificationLeaves.l0
   repeat' first
   | (with_reducible exact ih0 _ _ _ _ _ _ _ _)
   | (with_reducible exact c_Children.mono _ _ _ _)
   | (with_reducible exact c_Leaves.mono _ _ _ _)
   | (with_reducible exact w6_awake.mono _)
   | (with_reducible exact w6_code.mono _ _ _)
   | (with_reducible exact w6_raw.mono _ _ _)
   | (with_reducible exact w6_spoiled.mono _ _ _)
   | (with_reducible exact r6_Children.mono _ _ _ _)
   | (with_reducible exact r6_Leaves.mono _ _ _ _)
   | (with_reducible exact r6_SameStrings.mono _ _ _)
   | (with_reducible exact LeO.refl _)
   | (with_reducible exact LeO.none _)
   | (with_reducible refine LeO.ite ?_ ?_)
   | (with_reducible refine LeO.bind ?_ (fun _ => ?_))
theorem w6_ClassificationLeaves.mono : ∀ a0 a1 a2 a3 k, LeO (w6_ClassificationLeaves.f k a0 a1 a2 a3) (w6_ClassificationLeaves.f (k + 1) a0 a1 a2 a3) := by
 intro a0 a1 a2 a3 k
 have ih0 := w6_ClassificationLeaves.mono_l k
 unfold w6_ClassificationLeaves.f
 repeat' first
   | (with_reducible exact ih0 _ _ _ _ _ _ _ _)
   | (with_reducible exact c_Children.mono _ _ _ _)
   | (with_reducible exact c_Leaves.mono _ _ _ _)
   | (with_reducible exact w6_awake.mono _)
   | (with_reducible exact w6_code.mono _ _ _)
   | (with_reducible exact w6_raw.mono _ _ _)
   | (with_reducible exact w6_spoiled.mono _ _ _)
   | (with_reducible exact r6_Children.mono _ _ _ _)
   | (with_reducible exact r6_Leaves.mono _ _ _ _)
   | (with_reducible exact r6_SameStrings.mono _ _ _)
   | (with_reducible exact LeO.refl _)
   | (with_reducible exact LeO.none _)
   | (with_reducible refine LeO.ite ?_ ?_)
   | (with_reducible refine LeO.bind ?_ (fun _ => ?_))
def w6_ClassificationLeaves.T8 : Bool × List (List Nat × List Nat) := (true, [([], []), ([], []), ([0, 1], [0, 1]), ([], []), ([], []), ([3, 4, 2], [3, 4]), ([2, 5, 5], [2, 5]), ([6], [6]), ([7, 6], [7]), ([8], [8]), ([8], [8]), ([9, 10, 8, 8], [8, 9, 10]), ([8], [8]), ([8], [8]), ([12, 13, 11, 8], [8, 12, 13]), ([11, 14, 14, 8], [8, 11, 14]), ([15, 8], [8, 15]), ([8, 16], [8, 16])])
def w6_ClassificationLeaves.B8 : List Nat := [0, 0, 3, 0, 0, 31, 63, 127, 255, 511, 511, 2047, 511, 511, 16383, 32767, 65535, 131071]
theorem w6_ClassificationLeaves.tab8 : rtab .any (opsOf Tryz.f3 8) = w6_ClassificationLeaves.T8 := by kernel_rfl
theorem w6_ClassificationLeaves.bits8 : waitsOk w6_ClassificationLeaves.T8.2 w6_ClassificationLeaves.B8 = true := by kernel_rfl
def w6_ClassificationLeaves.T11 : Bool × List (List Nat × List Nat) := (true, [([], []), ([], []), ([0, 1], [0, 1]), ([], []), ([], []), ([3, 4, 2], [3, 4]), ([2, 5, 5], [2, 5]), ([6, 6], [6]), ([7], [7]), ([7], [7]), ([8, 9, 7, 7], [7, 8, 9]), ([7], [7]), ([7], [7]), ([11, 12, 10, 7], [7, 11, 12]), ([10, 13, 13, 7], [7, 10, 13]), ([7, 14], [7, 14]), ([15, 14], [15]), ([16, 16], [16]), ([16, 17], [16, 17]), ([18, 17, 0, 1, 2, 3, 4, 5, 6, 7, 8, 9, 10, 11, 12, 13, 14, 15, 16, 17, 18], [18])])
def w6_ClassificationLeaves.B11 : List Nat := [0, 0, 3, 0, 0, 31, 63, 127, 255, 255, 1023, 255, 255, 8191, 16383, 32767, 65535, 131071, 262143, 524287]
theorem w6_ClassificationLeaves.tab11 : rtab .any (opsOf Tryz.f3 11) = w6_ClassificationLeaves.T11 := by kernel_rfl
theorem w6_ClassificationLeaves.bits11 : waitsOk w6_ClassificationLeaves.T11.2 w6_ClassificationLeaves.B11 = true := by kernel_rfl
set_option maxHeartbeats 8000000 in
set_option maxRecDepth 100000 in
theorem w6_ClassificationLeaves.calls (k : Nat) (a0_0 : ByteArray) (A0_1 : Option Addr) (c0_1 : Nat) (l0_1 : List ByteArray) (a1 : ByteArray) (A2 : Option Addr) (c2 : Nat) (l2 : List Int) (r : Bool) (w : World) (hr0_1 : Kd.C Kd.string w A0_1 l0_1.length l0_1) (hc0_1 : l0_1.length ≤ c0_1) (hr2 : Kd.C (Kd.int .i64) w A2 l2.length l2) (hc2 : l2.length ≤ c2) (hG : GL w) (h : w6_ClassificationLeaves.f k a0_0 l0_1 a1 l2 = some r) :
  Calls Tryz.prog 3 #[.agg #[.string a0_0, .slice A0_1 l0_1.length c0_1], .string a1, .slice A2 l2.length c2] w fun e w' => e = .returned (.bool r) ∧ Below w.heap.size w w' := by
 have HG := mk0 hG
 clear hG
 have hu24 := Tryz.underlying24
 have hu28 := Tryz.underlying28
 have HR0_1 := mk0 hr0_1
 have HC0_1 := mk0 hc0_1
 clear hr0_1 hc0_1
 have HR2 := mk0 hr2
 have HC2 := mk0 hc2
 clear hr2 hc2
 have HB := mk0 (Below.refl w.heap.size w)
 have H : ((w6_raw.f k a0_0 l0_1).bind fun bt424 => (if 0 ≤ (mn (a1.size : Int) 20) then (if (mn (a1.size : Int) 20) ≤ (a1.size : Int) then ((w6_spoiled.f k l2 0).bind fun bt428 => ((some (([] : List ByteArray) : List ByteArray)).bind fun y434 => (if y434.length + bt428.2.1.length < 8796093022208 then ((some (y434 ++ bt428.2.1 : List ByteArray)).bind fun y437 => ((w6_code.f k l2 bt428.2.2).bind fun bt440 => ((some (([(⟨#[]⟩ : ByteArray), bt440.1] : List ByteArray) : List ByteArray)).bind fun y442 => (if y437.length + y442.length < 8796093022208 then ((some (y437 ++ y442 : List ByteArray)).bind fun y445 => (w6_ClassificationLeaves.l0 k (a1.extract 0 ((mn (a1.size : Int) 20) : Int).toNat) y445 (y445.length : Int) 0 bt424.1 bt424.2 bt428.1 bt428.2.1)) else (none))))) else (none)))) else (none)) else (none))) = some r := h
 clear h
 replace H := Option.bind_eq_some_iff.mp H
 obtain ⟨⟨t424, t425⟩, A40, H⟩ := H
 replace H : (if 0 ≤ (mn (a1.size : Int) 20) then (if (mn (a1.size : Int) 20) ≤ (a1.size : Int) then ((w6_spoiled.f k l2 0).bind fun bt428 => ((some (([] : List ByteArray) : List ByteArray)).bind fun y434 => (if y434.length + bt428.2.1.length < 8796093022208 then ((some (y434 ++ bt428.2.1 : List ByteArray)).bind fun y437 => ((w6_code.f k l2 bt428.2.2).bind fun bt440 => ((some (([(⟨#[]⟩ : ByteArray), bt440.1] : List ByteArray) : List ByteArray)).bind fun y442 => (if y437.length + y442.length < 8796093022208 then ((some (y437 ++ y442 : List ByteArray)).bind fun y445 => (w6_ClassificationLeaves.l0 k (a1.extract 0 ((mn (a1.size : Int) 20) : Int).toNat) y445 (y445.length : Int) 0 t424 t425 bt428.1 bt428.2.1)) else (none))))) else (none)))) else (none)) else (none)) = some r := H
 have A4 := mk0 A40
 clear A40
 obtain ⟨ji5, hji5⟩ : ∃ j_ : Int, (mn (a1.size : Int) 20) = j_ := ⟨_, rfl⟩
 replace H : (if 0 ≤ (ji5) then (if (ji5) ≤ (a1.size : Int) then ((w6_spoiled.f k l2 0).bind fun bt428 => ((some (([] : List ByteArray) : List ByteArray)).bind fun y434 => (if y434.length + bt428.2.1.length < 8796093022208 then ((some (y434 ++ bt428.2.1 : List ByteArray)).bind fun y437 => ((w6_code.f k l2 bt428.2.2).bind fun bt440 => ((some (([(⟨#[]⟩ : ByteArray), bt440.1] : List ByteArray) : List ByteArray)).bind fun y442 => (if y437.length + y442.length < 8796093022208 then ((some (y437 ++ y442 : List ByteArray)).bind fun y445 => (w6_ClassificationLeaves.l0 k (a1.extract 0 ((ji5) : Int).toNat) y445 (y445.length : Int) 0 t424 t425 bt428.1 bt428.2.1)) else (none))))) else (none)))) else (none)) else (none)) = some r := by first | (rw [hji5] at H; exact H) | (simp only [hji5] at H ⊢; exact H)
 (try rw [hji5] at A4)
 (try (have hji5h : ji5 ≤ 20 := by (rw [← hji5]; unfold mn; (repeat' split) <;> omega)))
 (try (have hji5g : ji5 ≤ 64 := by omega))
 (try (have hji5l : 0 ≤ ji5 := by (rw [← hji5]; unfold mn; (repeat' split) <;> omega)))
 (try (have hji5m : 0 ≤ ji5 := by omega))
 have hji5_ : (if 20 < (a1.size : Int) then 20 else (a1.size : Int)) = ji5 := hji5
 by_cases c6 : 0 ≤ (ji5)
 ·rw [if_pos c6] at H
  have c6b0 := eq_true c6
  have c6b1 : decide (0 ≤ (ji5)) = true := decide_eq_true c6
  clear c6
  by_cases c7 : (ji5) ≤ (a1.size : Int)
  ·rw [if_pos c7] at H
   have c7b0 := eq_true c7
   have c7b1 : decide ((ji5) ≤ (a1.size : Int)) = true := decide_eq_true c7
   clear c7
   replace H := Option.bind_eq_some_iff.mp H
   obtain ⟨⟨t428, t429, t432⟩, A80, H⟩ := H
   replace H : ((some (([] : List ByteArray) : List ByteArray)).bind fun y434 => (if y434.length + t429.length < 8796093022208 then ((some (y434 ++ t429 : List ByteArray)).bind fun y437 => ((w6_code.f k l2 t432).bind fun bt440 => ((some (([(⟨#[]⟩ : ByteArray), bt440.1] : List ByteArray) : List ByteArray)).bind fun y442 => (if y437.length + y442.length < 8796093022208 then ((some (y437 ++ y442 : List ByteArray)).bind fun y445 => (w6_ClassificationLeaves.l0 k (a1.extract 0 ((ji5) : Int).toNat) y445 (y445.length : Int) 0 t424 t425 t428 t429)) else (none))))) else (none))) = some r := H
   have A8 := mk0 A80
   clear A80
   obtain ⟨y434, hy434⟩ : ∃ y_ : List ByteArray, y_ = (([] : List ByteArray)) := ⟨_, rfl⟩
   replace H : (if y434.length + t429.length < 8796093022208 then ((some (y434 ++ t429 : List ByteArray)).bind fun y437 => ((w6_code.f k l2 t432).bind fun bt440 => ((some (([(⟨#[]⟩ : ByteArray), bt440.1] : List ByteArray) : List ByteArray)).bind fun y442 => (if y437.length + y442.length < 8796093022208 then ((some (y437 ++ y442 : List ByteArray)).bind fun y445 => (w6_ClassificationLeaves.l0 k (a1.extract 0 ((ji5) : Int).toNat) y445 (y445.length : Int) 0 t424 t425 t428 t429)) else (none))))) else (none)) = some r := by first | (rw [hy434]; with_reducible exact H) | (have H2_ := (Option.bind_some _ _).symm.trans H; rw [hy434]; with_reducible exact H2_) | (have H2_ := (Option.bind_some _ _).symm.trans H; with_reducible exact H2_) | with_reducible exact H | (rw [hy434]; exact H) | exact H
   have Ny434 := mk0 hy434
   clear hy434
   by_cases c9 : y434.length + t429.length < 8796093022208
   ·rw [if_pos c9] at H
    have LMc9 := mk0 c9
    clear c9
    obtain ⟨y437, hy437⟩ : ∃ y_ : List ByteArray, y_ = (y434 ++ t429) := ⟨_, rfl⟩
    replace H : ((w6_code.f k l2 t432).bind fun bt440 => ((some (([(⟨#[]⟩ : ByteArray), bt440.1] : List ByteArray) : List ByteArray)).bind fun y442 => (if y437.length + y442.length < 8796093022208 then ((some (y437 ++ y442 : List ByteArray)).bind fun y445 => (w6_ClassificationLeaves.l0 k (a1.extract 0 ((ji5) : Int).toNat) y445 (y445.length : Int) 0 t424 t425 t428 t429)) else (none)))) = some r := by first | (rw [hy437]; with_reducible exact H) | (have H2_ := (Option.bind_some _ _).symm.trans H; rw [hy437]; with_reducible exact H2_) | (have H2_ := (Option.bind_some _ _).symm.trans H; with_reducible exact H2_) | with_reducible exact H | (rw [hy437]; exact H) | exact H
    have Ny437 := mk0 hy437
    clear hy437
    replace H := Option.bind_eq_some_iff.mp H
    obtain ⟨⟨t440, t441⟩, A100, H⟩ := H
    replace H : ((some (([(⟨#[]⟩ : ByteArray), t440] : List ByteArray) : List ByteArray)).bind fun y442 => (if y437.length + y442.length < 8796093022208 then ((some (y437 ++ y442 : List ByteArray)).bind fun y445 => (w6_ClassificationLeaves.l0 k (a1.extract 0 ((ji5) : Int).toNat) y445 (y445.length : Int) 0 t424 t425 t428 t429)) else (none))) = some r := H
    have A10 := mk0 A100
    clear A100
    obtain ⟨y442, hy442⟩ : ∃ y_ : List ByteArray, y_ = (([(⟨#[]⟩ : ByteArray), t440] : List ByteArray)) := ⟨_, rfl⟩
    replace H : (if y437.length + y442.length < 8796093022208 then ((some (y437 ++ y442 : List ByteArray)).bind fun y445 => (w6_ClassificationLeaves.l0 k (a1.extract 0 ((ji5) : Int).toNat) y445 (y445.length : Int) 0 t424 t425 t428 t429)) else (none)) = some r := by first | (rw [hy442]; with_reducible exact H) | (have H2_ := (Option.bind_some _ _).symm.trans H; rw [hy442]; with_reducible exact H2_) | (have H2_ := (Option.bind_some _ _).symm.trans H; with_reducible exact H2_) | with_reducible exact H | (rw [hy442]; exact H) | exact H
    have Ny442 := mk0 hy442
    clear hy442
    by_cases c11 : y437.length + y442.length < 8796093022208
    ·rw [if_pos c11] at H
     have LMc11 := mk0 c11
     clear c11
     obtain ⟨y445, hy445⟩ : ∃ y_ : List ByteArray, y_ = (y437 ++ y442) := ⟨_, rfl⟩
     replace H : (w6_ClassificationLeaves.l0 k (a1.extract 0 ((ji5) : Int).toNat) y445 (y445.length : Int) 0 t424 t425 t428 t429) = some r := by first | (rw [hy445]; with_reducible exact H) | (have H2_ := (Option.bind_some _ _).symm.trans H; rw [hy445]; with_reducible exact H2_) | (have H2_ := (Option.bind_some _ _).symm.trans H; with_reducible exact H2_) | with_reducible exact H | (rw [hy445]; exact H) | exact H
     have Ny445 := mk0 hy445
     clear hy445
     have H' := mk0 H
     clear H
     go_enter Tryz.func3, Tryz.ntmps3
     go_wp2_with (first | ((with_reducible refine gate_dst (N := 3) rfl ?_); refine box_event ?hg (N := 3) ?hd (cs := #[.string a0_0, .slice A0_1 l0_1.length c0_1]) (t := 24) ?hr ?_; (case hd => rfl); (case hg => rfl); (case hr => first | (go_simp; done) | (go_simp; rfl)); intro gb422 hg w12 hbox hb; have n0_ := mk0 (below_step (by repeat (with_reducible first | exact HB.out | apply b_a | apply b_n | apply b_d)) hb); have n1_ := mk0 (hbox); have n2_ := mk0 ((by rw [hg]; exact (below_size (by repeat (with_reducible first | exact HB.out | apply b_a | apply b_n | apply b_d))) : w.heap.size ≤ gb422)); have n3_ := mk0 ((by rw [hg]; exact (below_size (by repeat (with_reducible first | exact HB.out | apply b_a | apply b_n | apply b_d))) : w.heap.size ≤ gb422)); clear HB; have HB := n0_; have BK422 := n1_; have GW422 := n2_; have GE422 := n3_; clear n0_ n1_ n2_ n3_; clear hb hbox hg) | ((with_reducible refine gate_dst (N := 13) rfl ?_); refine box_event ?hg (N := 13) ?hd (cs := #[.slice A2 l2.length c2, .int .i64 0]) (t := 28) ?hr ?_; (case hd => rfl); (case hg => rfl); (case hr => first | (go_simp; done) | (go_simp; rfl)); intro gb423 hg w13 hbox hb; have n0_ := mk0 (blk_below (g := gb422) (o := .cells #[.string a0_0, .slice A0_1 l0_1.length c0_1] 24 (0, 0)) (by (with_reducible repeat (first | refine blk_drewN ?_ _ | refine blk_drew ?_ | refine blk_alloc ?_ _)); exact BK422.out) hb); have n1_ := mk0 (below_step (by repeat (with_reducible first | exact HB.out | apply b_a | apply b_n | apply b_d | refine below_set ?_ GE422.out)) hb); have n2_ := mk0 (hbox); have n3_ := mk0 ((by rw [hg]; exact (below_size (by repeat (with_reducible first | exact HB.out | apply b_a | apply b_n | apply b_d | refine below_set ?_ GE422.out))) : w.heap.size ≤ gb423)); have n4_ := mk0 ((by rw [hg]; exact (below_size (by repeat (with_reducible first | exact HB.out | apply b_a | apply b_n | apply b_d | refine below_set ?_ GE422.out))) : w.heap.size ≤ gb423)); have n5_ := mk0 ((by rw [hg]; exact Nat.ne_of_lt (blk_lt (g := gb422) (o := .cells #[.string a0_0, .slice A0_1 l0_1.length c0_1] 24 (0, 0)) (by (with_reducible repeat (first | refine blk_drewN ?_ _ | refine blk_drew ?_ | refine blk_alloc ?_ _)); exact BK422.out)) : gb422 ≠ gb423)); have n6_ := mk0 ((by rw [hg]; exact Nat.ne_of_gt (blk_lt (g := gb422) (o := .cells #[.string a0_0, .slice A0_1 l0_1.length c0_1] 24 (0, 0)) (by (with_reducible repeat (first | refine blk_drewN ?_ _ | refine blk_drew ?_ | refine blk_alloc ?_ _)); exact BK422.out)) : gb423 ≠ gb422)); have n7_ := mk0 ((show IsS28 w w13 gb423 l2 0 from ⟨_, _, hbox, (by rw [hg]; exact (below_size (by repeat (with_reducible first | exact HB.out | apply b_a | apply b_n | apply b_d | refine below_set ?_ GE422.out))) : w.heap.size ≤ gb423), HR2.out⟩)); clear BK422; clear HB; have BK422 := n0_; have HB := n1_; have BK423 := n2_; have GW423 := n3_; have GE423 := n4_; have NB422_423 := n5_; have NB423_422 := n6_; have HI423 := n7_; clear n0_ n1_ n2_ n3_ n4_ n5_ n6_ n7_; clear hb hbox hg; have hnb14 := NB422_423.out; have hnc14 := NB423_422.out; have hcz15_0 : w13.cell? ⟨gb422, 0, none⟩ = some (.string a0_0) := (blk_cell BK422.out 0).trans rfl; have hcz15_1 : w13.cell? ⟨gb422, 1, none⟩ = some (.slice A0_1 l0_1.length c0_1) := (blk_cell BK422.out 1).trans rfl; have hfz15_0 := blk_frozen BK422.out 0; have hfz15_1 := blk_frozen BK422.out 1) | ((with_reducible refine gate_callee (f := 4) rfl ?_); refine goesL_ (some 15) rfl rfl Tryz.func4 (by kernel_rfl) rfl #[.agg #[.string a0_0, .slice A0_1 l0_1.length c0_1]] rfl (by (try simp only [List.map_toArray, List.map_cons, List.map_nil]); first | done | rfl) ?_; (with_reducible refine (w6_raw.calls k a0_0 _ _ l0_1 t424 t425 _ ?side1 ?side2 A4.out).mono ?_); (case side1 => repeat (first | exact (Kd.C_below HR0_1.out HB.out) | (with_reducible refine Kd.C_alloc ?_ _) | (with_reducible refine Kd.C_drewN ?_ _) | (with_reducible refine Kd.C_drew ?_))); (case side2 => exact HC0_1.out); rintro e w16 ⟨v426, rfl, ho0, hb⟩; refine ⟨_, rfl, ?_⟩; have n0_ := mk0 (Kd.R_lower ho0 (below_size (by repeat (with_reducible first | exact HB.out | apply b_a | apply b_n | apply b_d | refine below_set ?_ (IsS28.ge HI423.out) | refine below_set ?_ GE422.out)))); have n1_ := mk0 (blk_below (g := gb422) (o := .cells #[.string a0_0, .slice A0_1 l0_1.length c0_1] 24 (0, 0)) (by (with_reducible repeat (first | refine blk_drewN ?_ _ | refine blk_drew ?_ | refine blk_alloc ?_ _)); exact BK422.out) hb); have n2_ := mk0 (IsS28.below (by repeat (first | (with_reducible first | exact HI423.out | apply IsS28.alloc | apply IsS28.drewN | apply IsS28.drew | apply IsS28.set_1 | refine IsS28.far ?_ NB423_422.out _) | exact HI423.out)) hb); have n3_ := mk0 (below_step (by repeat (with_reducible first | exact HB.out | apply b_a | apply b_n | apply b_d | refine below_set ?_ (IsS28.ge HI423.out) | refine below_set ?_ GE422.out)) hb); clear BK422; clear HI423; clear HB; have HO427 := n0_; have BK422 := n1_; have HI423 := n2_; have HB := n3_; clear n0_ n1_ n2_ n3_; (try clear hb); (try clear hb2); (try clear hk); (try clear hi); (try clear ho0); have hcz17_0 : w16.cell? ⟨gb422, 0, none⟩ = some (.string a0_0) := (blk_cell BK422.out 0).trans rfl; have hcz17_1 : w16.cell? ⟨gb422, 1, none⟩ = some (.slice A0_1 l0_1.length c0_1) := (blk_cell BK422.out 1).trans rfl; have hfz17_0 := blk_frozen BK422.out 0; have hfz17_1 := blk_frozen BK422.out 1; obtain ⟨Ao18, co18, eo18⟩ := Kd.R_slice HO427.out; subst eo18) | ((with_reducible refine gate_callee (f := 5) rfl ?_); refine goesL_ (some 22) rfl rfl Tryz.func5 (by kernel_rfl) rfl #[.pointer (some ⟨gb423, 0, none⟩)] rfl (by (try simp only [List.map_toArray, List.map_cons, List.map_nil]); first | done | rfl) ?_; (with_reducible refine (w6_spoiled.calls k gb423 l2 0 t428 t429 t432 w _ ?side1 ?side2 A8.out).mono ?_); (case side1 => repeat (first | (with_reducible first | exact HI423.out | apply IsS28.alloc | apply IsS28.drewN | apply IsS28.drew | apply IsS28.set_1 | refine IsS28.far ?_ NB423_422.out _) | exact HI423.out)); (case side2 => repeat (first | (with_reducible first | exact HB.out | apply b_a | apply b_n | apply b_d | refine below_set ?_ (IsS28.ge HI423.out) | refine below_set ?_ GE422.out) | exact HB.out)); rintro e w19 ⟨v430, rfl, ho0, hi, hb, hk⟩; refine ⟨_, rfl, ?_⟩; have n0_ := mk0 (KeepBut.blk hk (g' := gb422) (o := .cells #[.string t424, .slice Ao18 t425.length co18] 24 (0, 0)) (by (with_reducible repeat (first | refine blk_drewN ?_ _ | refine blk_drew ?_ | refine blk_alloc ?_ _)); refine blk_put (cs := #[.string t424, .slice A0_1 l0_1.length c0_1]) ?_ 1 _ rfl; (with_reducible repeat (first | refine blk_drewN ?_ _ | refine blk_drew ?_ | refine blk_alloc ?_ _)); refine blk_put (cs := #[.string a0_0, .slice A0_1 l0_1.length c0_1]) ?_ 0 _ rfl; (with_reducible repeat (first | refine blk_drewN ?_ _ | refine blk_drew ?_ | refine blk_alloc ?_ _)); exact BK422.out) NB422_423.out (by simp)); have n1_ := mk0 (Kd.R_mono (Kd.R_told (Kd.R_oldK (IsS28.apart (show IsS28 w _ gb423 l2 0 from by repeat (first | (with_reducible first | exact HI423.out | apply IsS28.alloc | apply IsS28.drewN | apply IsS28.drew | apply IsS28.set_1 | refine IsS28.far ?_ NB423_422.out _) | exact HI423.out)) (by (with_reducible repeat (first | apply r_a | apply r_n | apply r_d)); exact (Kd.R_mono (Kd.R_far (p := ⟨gb422, 1, none⟩) (Kd.R_far (p := ⟨gb422, 0, none⟩) (Kd.R_types HO427.out BK422.out (by decide)) (fun _ hk => hk.2) (.string t424)) (fun _ hk => hk.2) (.slice Ao18 t425.length co18)) (fun _ h_ => h_.1))) (by decide)) hk) (Kd.R_base ho0)) (fun _ h_ => h_.1)); have n2_ := mk0 (Kd.R_lower (Kd.R_new' ho0 (Kd.R_lt (by (with_reducible repeat (first | apply r_a | apply r_n | apply r_d)); exact (Kd.R_mono (Kd.R_far (p := ⟨gb422, 1, none⟩) (Kd.R_far (p := ⟨gb422, 0, none⟩) (Kd.R_types HO427.out BK422.out (by decide)) (fun _ hk => hk.2) (.string t424)) (fun _ hk => hk.2) (.slice Ao18 t425.length co18)) (fun _ h_ => h_.1))))) (below_size (by repeat (with_reducible first | exact HB.out | apply b_a | apply b_n | apply b_d | refine below_set ?_ (IsS28.ge HI423.out) | refine below_set ?_ GE422.out)))); have n3_ := mk0 (hb); have n4_ := mk0 (hi); clear BK422; clear HO427; clear HB; clear HI423; have BK422 := n0_; have HO427 := n1_; have HO431 := n2_; have HB := n3_; have HI423 := n4_; clear n0_ n1_ n2_ n3_ n4_; (try clear hb); (try clear hb2); (try clear hk); (try clear hi); (try clear ho0)) | ((with_reducible refine gate_dst (N := 8) rfl ?_); refine box_event ?hg (N := 8) ?hd (cs := #[.string (⟨#[]⟩ : ByteArray), .slice none 0 0]) (t := 24) ?hr ?_; (case hd => rfl); (case hg => rfl); (case hr => first | (go_simp; done) | (go_simp; rfl)); intro gb433 hg w20 hbox hb; have n0_ := mk0 (Kd.R_below (by (with_reducible repeat (first | apply r_a | apply r_n | apply r_d)); exact HO427.out) hb); have n1_ := mk0 (Kd.R_below (by (with_reducible repeat (first | apply r_a | apply r_n | apply r_d)); exact HO431.out) hb); have n2_ := mk0 (blk_below (g := gb422) (o := .cells #[.string t424, .slice Ao18 t425.length co18] 24 (0, 0)) (by (with_reducible repeat (first | refine blk_drewN ?_ _ | refine blk_drew ?_ | refine blk_alloc ?_ _)); exact BK422.out) hb); have n3_ := mk0 (IsS28.below (by repeat (first | (with_reducible first | exact HI423.out | apply IsS28.alloc | apply IsS28.drewN | apply IsS28.drew | apply IsS28.set_1 | refine IsS28.far ?_ NB423_422.out _) | exact HI423.out)) hb); have n4_ := mk0 (below_step (by repeat (with_reducible first | exact HB.out | apply b_a | apply b_n | apply b_d | refine below_set ?_ (IsS28.ge HI423.out) | refine below_set ?_ GE422.out)) hb); have n5_ := mk0 (hbox); have n6_ := mk0 ((by rw [hg]; exact (below_size (by repeat (with_reducible first | exact HB.out | apply b_a | apply b_n | apply b_d | refine below_set ?_ (IsS28.ge HI423.out) | refine below_set ?_ GE422.out))) : w.heap.size ≤ gb433)); have n7_ := mk0 ((by rw [hg]; exact (below_size (by repeat (with_reducible first | exact HB.out | apply b_a | apply b_n | apply b_d | refine below_set ?_ (IsS28.ge HI423.out) | refine below_set ?_ GE422.out))) : w.heap.size ≤ gb433)); have n8_ := mk0 ((by rw [hg]; exact Nat.ne_of_lt (blk_lt (g := gb422) (o := .cells #[.string t424, .slice Ao18 t425.length co18] 24 (0, 0)) (by (with_reducible repeat (first | refine blk_drewN ?_ _ | refine blk_drew ?_ | refine blk_alloc ?_ _)); exact BK422.out)) : gb422 ≠ gb433)); have n9_ := mk0 ((by rw [hg]; exact Nat.ne_of_gt (blk_lt (g := gb422) (o := .cells #[.string t424, .slice Ao18 t425.length co18] 24 (0, 0)) (by (with_reducible repeat (first | refine blk_drewN ?_ _ | refine blk_drew ?_ | refine blk_alloc ?_ _)); exact BK422.out)) : gb433 ≠ gb422)); have n10_ := mk0 ((by rw [hg]; exact Nat.ne_of_lt (IsS28.lt (show IsS28 w _ gb423 l2 t432 from by repeat (first | (with_reducible first | exact HI423.out | apply IsS28.alloc | apply IsS28.drewN | apply IsS28.drew | apply IsS28.set_1 | refine IsS28.far ?_ NB423_422.out _) | exact HI423.out))) : gb423 ≠ gb433)); have n11_ := mk0 ((by rw [hg]; exact Nat.ne_of_gt (IsS28.lt (show IsS28 w _ gb423 l2 t432 from by repeat (first | (with_reducible first | exact HI423.out | apply IsS28.alloc | apply IsS28.drewN | apply IsS28.drew | apply IsS28.set_1 | refine IsS28.far ?_ NB423_422.out _) | exact HI423.out))) : gb433 ≠ gb423)); clear HO427; clear HO431; clear BK422; clear HI423; clear HB; have HO427 := n0_; have HO431 := n1_; have BK422 := n2_; have HI423 := n3_; have HB := n4_; have BK433 := n5_; have GW433 := n6_; have GE433 := n7_; have NB422_433 := n8_; have NB433_422 := n9_; have NB423_433 := n10_; have NB433_423 := n11_; clear n0_ n1_ n2_ n3_ n4_ n5_ n6_ n7_ n8_ n9_ n10_ n11_; clear hb hbox hg; have hnb21 := NB433_422.out; have hnc21 := NB422_433.out; have hnb22 := NB433_423.out; have hnc22 := NB423_433.out; have hcz23_0 : w20.cell? ⟨gb433, 0, none⟩ = some (.string (⟨#[]⟩ : ByteArray)) := (blk_cell BK433.out 0).trans rfl; have hcz23_1 : w20.cell? ⟨gb433, 1, none⟩ = some (.slice none 0 0) := (blk_cell BK433.out 1).trans rfl; have hfz23_0 := blk_frozen BK433.out 0; have hfz23_1 := blk_frozen BK433.out 1; obtain ⟨Ao24, co24, eo24⟩ := Kd.R_slice HO431.out; subst eo24) | ((with_reducible refine gate_dst (N := 23) rfl ?_); refine Kd.R_lit Kd.string _ 9 ?hg (N := 23) ?hd (xs := ([] : List ByteArray)) (inner := []) (ok := fun _ => True) (okp := fun _ => True) ?hr ?hp (fun _ hk => hk) trivial (Below.refl _ _) (Nat.le_refl _) (by simp) ?_; (case hd => rfl); (case hg => rfl); (case hr => first | (go_simp; done) | (go_simp; rfl)); (case hp => exact (Reps.none _ _)); intro v435 w25 ho26 hb hg_ hnew_; clear hg_ hnew_; (first | rw [← Ny434.out] at ho26 | (simp only [Int.reduceToNat] at ho26; rw [← Ny434.out] at ho26)); have n0_ := mk0 (Kd.R_elder' (by (with_reducible repeat (first | apply r_a | apply r_n | apply r_d)); exact (Kd.R_mono (Kd.R_far (p := ⟨gb433, 1, none⟩) (Kd.R_far (p := ⟨gb433, 0, none⟩) (Kd.R_types HO427.out BK433.out (by decide)) (fun _ hk => hk.2) (.string t428)) (fun _ hk => hk.2) (.slice Ao24 t429.length co24)) (fun _ h_ => h_.1))) (Kd.R_base ho26) hb); have n1_ := mk0 (Kd.R_elder' (by (with_reducible repeat (first | apply r_a | apply r_n | apply r_d)); exact (Kd.R_mono (Kd.R_far (p := ⟨gb433, 1, none⟩) (Kd.R_far (p := ⟨gb433, 0, none⟩) (Kd.R_types HO431.out BK433.out (by decide)) (fun _ hk => hk.2) (.string t428)) (fun _ hk => hk.2) (.slice Ao24 t429.length co24)) (fun _ h_ => h_.1))) (Kd.R_base ho26) hb); have n2_ := mk0 (Kd.R_lower (Kd.R_new' (Kd.R_new' ho26 (Kd.R_lt (by (with_reducible repeat (first | apply r_a | apply r_n | apply r_d)); exact (Kd.R_mono (Kd.R_far (p := ⟨gb433, 1, none⟩) (Kd.R_far (p := ⟨gb433, 0, none⟩) (Kd.R_types HO427.out BK433.out (by decide)) (fun _ hk => hk.2) (.string t428)) (fun _ hk => hk.2) (.slice Ao24 t429.length co24)) (fun _ h_ => h_.1))))) (Kd.R_lt (by (with_reducible repeat (first | apply r_a | apply r_n | apply r_d)); exact (Kd.R_mono (Kd.R_far (p := ⟨gb433, 1, none⟩) (Kd.R_far (p := ⟨gb433, 0, none⟩) (Kd.R_types HO431.out BK433.out (by decide)) (fun _ hk => hk.2) (.string t428)) (fun _ hk => hk.2) (.slice Ao24 t429.length co24)) (fun _ h_ => h_.1))))) (below_size (by repeat (with_reducible first | exact HB.out | apply b_a | apply b_n | apply b_d | refine below_set ?_ (IsS28.ge HI423.out) | refine below_set ?_ GE422.out | refine below_set ?_ GE433.out)))); have n3_ := mk0 (blk_below (g := gb422) (o := .cells #[.string t424, .slice Ao18 t425.length co18] 24 (0, 0)) (by (with_reducible repeat (first | refine blk_drewN ?_ _ | refine blk_drew ?_ | refine blk_alloc ?_ _)); refine blk_far ?_ NB422_433.out _; (with_reducible repeat (first | refine blk_drewN ?_ _ | refine blk_drew ?_ | refine blk_alloc ?_ _)); refine blk_far ?_ NB422_433.out _; (with_reducible repeat (first | refine blk_drewN ?_ _ | refine blk_drew ?_ | refine blk_alloc ?_ _)); exact BK422.out) hb); have n4_ := mk0 (IsS28.below (show IsS28 w ((w20.setCell ⟨gb433, 0, none⟩ (.string t428)).setCell ⟨gb433, 1, none⟩ (.slice Ao24 t429.length co24)) gb423 l2 t432 from by repeat (first | (with_reducible first | exact HI423.out | apply IsS28.alloc | apply IsS28.drewN | apply IsS28.drew | apply IsS28.set_1 | refine IsS28.far ?_ NB423_422.out _ | refine IsS28.far ?_ NB423_433.out _) | exact HI423.out)) hb); have n5_ := mk0 (blk_below (g := gb433) (o := .cells #[.string t428, .slice Ao24 t429.length co24] 24 (0, 0)) (by (with_reducible repeat (first | refine blk_drewN ?_ _ | refine blk_drew ?_ | refine blk_alloc ?_ _)); refine blk_put (cs := #[.string t428, .slice none 0 0]) ?_ 1 _ rfl; (with_reducible repeat (first | refine blk_drewN ?_ _ | refine blk_drew ?_ | refine blk_alloc ?_ _)); refine blk_put (cs := #[.string (⟨#[]⟩ : ByteArray), .slice none 0 0]) ?_ 0 _ rfl; (with_reducible repeat (first | refine blk_drewN ?_ _ | refine blk_drew ?_ | refine blk_alloc ?_ _)); exact BK433.out) hb); have n6_ := mk0 (below_step (by repeat (with_reducible first | exact HB.out | apply b_a | apply b_n | apply b_d | refine below_set ?_ (IsS28.ge HI423.out) | refine below_set ?_ GE422.out | refine below_set ?_ GE433.out)) hb); clear HO427; clear HO431; clear BK422; clear HI423; clear BK433; clear HB; have HO427 := n0_; have HO431 := n1_; have HO436 := n2_; have BK422 := n3_; have HI423 := n4_; have BK433 := n5_; have HB := n6_; clear n0_ n1_ n2_ n3_ n4_ n5_ n6_; clear hb ho26; have hcz27_0 : w25.cell? ⟨gb433, 0, none⟩ = some (.string t428) := (blk_cell BK433.out 0).trans rfl; have hcz27_1 : w25.cell? ⟨gb433, 1, none⟩ = some (.slice Ao24 t429.length co24) := (blk_cell BK433.out 1).trans rfl; have hfz27_0 := blk_frozen BK433.out 0; have hfz27_1 := blk_frozen BK433.out 1) | ((with_reducible refine gate_builtin (b := .append) (xs := #[.tmp 23, .tmp 25]) rfl ?_); at_builtin; refine Kd.R_append_rows Kd.string (w0 := w) w.heap.size rfl (.tmp 23) (.tmp 25) 22 9 (.string ⟨#[]⟩) 16 rfl Tryz.underlying22 info9 rfl (by decide) (by omega) v435 y434 t429 _ _ _ (fun k_ => some k_ ≠ (.slice Ao18 t425.length co18 : Value).ownBlock ∧ some k_ ≠ (.slice Ao24 t429.length co24 : Value).ownBlock) (fun _ => False) rfl rfl ?aO ?aR (fun _ _ h => h) (fun _ h => h.elim) ?aF ?aB ?aS ?aL ?_; (case aR => repeat (first | exact (Kd.R_reads' HO431.out).2.2 | (with_reducible refine Kd.C_alloc ?_ _) | (with_reducible refine Kd.C_drewN ?_ _) | (with_reducible refine Kd.C_drew ?_))); (case aB => exact (by repeat (with_reducible first | exact HB.out | apply b_a | apply b_n | apply b_d | refine below_set ?_ (IsS28.ge HI423.out) | refine below_set ?_ GE422.out | refine below_set ?_ GE433.out))); (case aF => exact (fun k_ hk => ⟨Kd.fresh' (Kd.R_lt (by (with_reducible repeat (first | apply r_a | apply r_n | apply r_d)); exact HO427.out)) k_ hk, Kd.fresh' (Kd.R_lt (by (with_reducible repeat (first | apply r_a | apply r_n | apply r_d)); exact HO431.out)) k_ hk⟩)); (case aO => exact (by (with_reducible repeat (first | apply r_a | apply r_n | apply r_d)); exact Kd.R_mono HO436.out (fun _ hk => ⟨hk.1.2, hk.2⟩))); (case aS => exact (below_size (by repeat (with_reducible first | exact HB.out | apply b_a | apply b_n | apply b_d | refine below_set ?_ (IsS28.ge HI423.out) | refine below_set ?_ GE422.out | refine below_set ?_ GE433.out)))); (case aL => have := LMc9.out; omega); intro v438 w28 ho hb hg hat; rw [← Ny437.out] at ho; have n0_ := mk0 (blk_grown (g := gb422) (o := .cells #[.string t424, .slice Ao18 t425.length co18] 24 (0, 0)) (by (with_reducible repeat (first | refine blk_drewN ?_ _ | refine blk_drew ?_ | refine blk_alloc ?_ _)); exact BK422.out) hg (Kd.R_ne HO436.out BK422.out (by decide))); have n1_ := mk0 (IsS28.grown (by repeat (first | (with_reducible first | exact HI423.out | apply IsS28.alloc | apply IsS28.drewN | apply IsS28.drew | apply IsS28.set_1 | refine IsS28.far ?_ NB423_422.out _ | refine IsS28.far ?_ NB423_433.out _) | exact HI423.out)) hg (IsS28.own_ne HI423.out HO436.out (by decide))); have n2_ := mk0 (Kd.R_after (ok := (fun k_ => some k_ ≠ (.slice Ao24 t429.length co24 : Value).ownBlock)) (by (with_reducible repeat (first | apply r_a | apply r_n | apply r_d)); exact Kd.R_mono HO427.out (fun _ hk => ⟨hk.1.2, hk.2⟩)) hg hat); have n3_ := mk0 (Kd.R_after (ok := (fun k_ => some k_ ≠ (.slice Ao18 t425.length co18 : Value).ownBlock)) (by (with_reducible repeat (first | apply r_a | apply r_n | apply r_d)); exact Kd.R_mono HO431.out (fun _ hk => ⟨hk.1.2, hk.2⟩)) hg hat); have n4_ := mk0 (blk_grown (g := gb433) (o := .cells #[.string t428, .slice Ao24 t429.length co24] 24 (0, 0)) (by (with_reducible repeat (first | refine blk_drewN ?_ _ | refine blk_drew ?_ | refine blk_alloc ?_ _)); exact BK433.out) hg (Kd.R_ne HO436.out BK433.out (by decide))); have n5_ := mk0 (hb); have n6_ := mk0 (ho); clear BK422; clear HI423; clear HO427; clear HO431; clear BK433; clear HB; clear HO436; have BK422 := n0_; have HI423 := n1_; have HO427 := n2_; have HO431 := n3_; have BK433 := n4_; have HB := n5_; have HO439 := n6_; clear n0_ n1_ n2_ n3_ n4_ n5_ n6_; clear ho hb hg hat) | ((with_reducible refine gate_callee (f := 6) rfl ?_); refine goesL_ (some 28) rfl rfl Tryz.func6 (by kernel_rfl) rfl #[.pointer (some ⟨gb423, 0, none⟩)] rfl (by (try simp only [List.map_toArray, List.map_cons, List.map_nil]); first | done | rfl) ?_; (with_reducible refine (w6_code.calls k gb423 l2 t432 t440 t441 w _ ?side1 ?side2 A10.out).mono ?_); (case side1 => repeat (first | (with_reducible first | exact HI423.out | apply IsS28.alloc | apply IsS28.drewN | apply IsS28.drew | apply IsS28.set_1 | refine IsS28.far ?_ NB423_422.out _ | refine IsS28.far ?_ NB423_433.out _) | exact HI423.out)); (case side2 => repeat (first | (with_reducible first | exact HB.out | apply b_a | apply b_n | apply b_d | refine below_set ?_ (IsS28.ge HI423.out) | refine below_set ?_ GE422.out | refine below_set ?_ GE433.out) | exact HB.out)); rintro e w29 ⟨rfl, hi, hb, hk⟩; refine ⟨_, rfl, ?_⟩; have n0_ := mk0 (KeepBut.blk hk (g' := gb422) (o := .cells #[.string t424, .slice Ao18 t425.length co18] 24 (0, 0)) (by (with_reducible repeat (first | refine blk_drewN ?_ _ | refine blk_drew ?_ | refine blk_alloc ?_ _)); exact BK422.out) NB422_423.out (by simp)); have n1_ := mk0 (Kd.R_mono (Kd.R_keep (IsS28.apart (show IsS28 w _ gb423 l2 t432 from by repeat (first | (with_reducible first | exact HI423.out | apply IsS28.alloc | apply IsS28.drewN | apply IsS28.drew | apply IsS28.set_1 | refine IsS28.far ?_ NB423_422.out _ | refine IsS28.far ?_ NB423_433.out _) | exact HI423.out)) (by (with_reducible repeat (first | apply r_a | apply r_n | apply r_d)); exact HO427.out) (by decide)) hk (fun _ h => h.2)) (fun _ h => h.1)); have n2_ := mk0 (Kd.R_mono (Kd.R_keep (IsS28.apart (show IsS28 w _ gb423 l2 t432 from by repeat (first | (with_reducible first | exact HI423.out | apply IsS28.alloc | apply IsS28.drewN | apply IsS28.drew | apply IsS28.set_1 | refine IsS28.far ?_ NB423_422.out _ | refine IsS28.far ?_ NB423_433.out _) | exact HI423.out)) (by (with_reducible repeat (first | apply r_a | apply r_n | apply r_d)); exact HO431.out) (by decide)) hk (fun _ h => h.2)) (fun _ h => h.1)); have n3_ := mk0 (KeepBut.blk hk (g' := gb433) (o := .cells #[.string t428, .slice Ao24 t429.length co24] 24 (0, 0)) (by (with_reducible repeat (first | refine blk_drewN ?_ _ | refine blk_drew ?_ | refine blk_alloc ?_ _)); exact BK433.out) NB433_423.out (by simp)); have n4_ := mk0 (Kd.R_mono (Kd.R_keep (IsS28.apart (show IsS28 w _ gb423 l2 t432 from by repeat (first | (with_reducible first | exact HI423.out | apply IsS28.alloc | apply IsS28.drewN | apply IsS28.drew | apply IsS28.set_1 | refine IsS28.far ?_ NB423_422.out _ | refine IsS28.far ?_ NB423_433.out _) | exact HI423.out)) (by (with_reducible repeat (first | apply r_a | apply r_n | apply r_d)); exact HO439.out) (by decide)) hk (fun _ h => h.2)) (fun _ h => h.1)); have n5_ := mk0 (hb); have n6_ := mk0 (hi); clear BK422; clear HO427; clear HO431; clear BK433; clear HO439; clear HB; clear HI423; have BK422 := n0_; have HO427 := n1_; have HO431 := n2_; have BK433 := n3_; have HO439 := n4_; have HB := n5_; have HI423 := n6_; clear n0_ n1_ n2_ n3_ n4_ n5_ n6_; (try clear hb); (try clear hb2); (try clear hk); (try clear hi)) | ((with_reducible refine gate_dst (N := 29) rfl ?_); refine Kd.R_lit Kd.string _ 9 ?hg (N := 29) ?hd (xs := ([(⟨#[]⟩ : ByteArray), t440] : List ByteArray)) (inner := [.string (⟨#[]⟩ : ByteArray), .string t440]) (ok := fun _ => True) (okp := fun _ => True) ?hr ?hp (fun _ hk => hk) trivial (Below.refl _ _) (Nat.le_refl _) (by simp) ?_; (case hd => rfl); (case hg => rfl); (case hr => first | (go_simp; done) | (go_simp; rfl)); (case hp => exact (Reps.one (show Kd.M Kd.string _ _ _ (⟨#[]⟩ : ByteArray) [.string (⟨#[]⟩ : ByteArray)] from rfl) (Reps.one (show Kd.M Kd.string _ _ _ t440 [.string t440] from rfl) (Reps.none _ _)))); intro v443 w30 ho31 hb hg_ hnew_; clear hg_ hnew_; (first | rw [← Ny442.out] at ho31 | (simp only [Int.reduceToNat] at ho31; rw [← Ny442.out] at ho31)); have n0_ := mk0 (Kd.R_elder' (by (with_reducible repeat (first | apply r_a | apply r_n | apply r_d)); exact HO427.out) (Kd.R_base ho31) hb); have n1_ := mk0 (Kd.R_elder' (by (with_reducible repeat (first | apply r_a | apply r_n | apply r_d)); exact HO431.out) (Kd.R_base ho31) hb); have n2_ := mk0 (Kd.R_elder' (by (with_reducible repeat (first | apply r_a | apply r_n | apply r_d)); exact HO439.out) (Kd.R_base ho31) hb); have n3_ := mk0 (Kd.R_lower (Kd.R_new' (Kd.R_new' (Kd.R_new' ho31 (Kd.R_lt (by (with_reducible repeat (first | apply r_a | apply r_n | apply r_d)); exact HO427.out))) (Kd.R_lt (by (with_reducible repeat (first | apply r_a | apply r_n | apply r_d)); exact HO431.out))) (Kd.R_lt (by (with_reducible repeat (first | apply r_a | apply r_n | apply r_d)); exact HO439.out))) (below_size (by repeat (with_reducible first | exact HB.out | apply b_a | apply b_n | apply b_d | refine below_set ?_ (IsS28.ge HI423.out) | refine below_set ?_ GE422.out | refine below_set ?_ GE433.out)))); have n4_ := mk0 (blk_below (g := gb422) (o := .cells #[.string t424, .slice Ao18 t425.length co18] 24 (0, 0)) (by (with_reducible repeat (first | refine blk_drewN ?_ _ | refine blk_drew ?_ | refine blk_alloc ?_ _)); exact BK422.out) hb); have n5_ := mk0 (IsS28.below (by repeat (first | (with_reducible first | exact HI423.out | apply IsS28.alloc | apply IsS28.drewN | apply IsS28.drew | apply IsS28.set_1 | refine IsS28.far ?_ NB423_422.out _ | refine IsS28.far ?_ NB423_433.out _) | exact HI423.out)) hb); have n6_ := mk0 (blk_below (g := gb433) (o := .cells #[.string t428, .slice Ao24 t429.length co24] 24 (0, 0)) (by (with_reducible repeat (first | refine blk_drewN ?_ _ | refine blk_drew ?_ | refine blk_alloc ?_ _)); exact BK433.out) hb); have n7_ := mk0 (below_step (by repeat (with_reducible first | exact HB.out | apply b_a | apply b_n | apply b_d | refine below_set ?_ (IsS28.ge HI423.out) | refine below_set ?_ GE422.out | refine below_set ?_ GE433.out)) hb); clear HO427; clear HO431; clear HO439; clear BK422; clear HI423; clear BK433; clear HB; have HO427 := n0_; have HO431 := n1_; have HO439 := n2_; have HO444 := n3_; have BK422 := n4_; have HI423 := n5_; have BK433 := n6_; have HB := n7_; clear n0_ n1_ n2_ n3_ n4_ n5_ n6_ n7_; clear hb ho31; obtain ⟨Ao33, co33, eo33⟩ := Kd.R_slice HO444.out; subst eo33) | ((with_reducible refine gate_builtin (b := .append) (xs := #[.tmp 26, .tmp 29]) rfl ?_); at_builtin; refine Kd.R_append_rows Kd.string (w0 := w) w.heap.size rfl (.tmp 26) (.tmp 29) 22 9 (.string ⟨#[]⟩) 16 rfl Tryz.underlying22 info9 rfl (by decide) (by omega) v438 y437 y442 _ _ _ (fun k_ => some k_ ≠ (.slice Ao18 t425.length co18 : Value).ownBlock ∧ some k_ ≠ (.slice Ao24 t429.length co24 : Value).ownBlock ∧ some k_ ≠ (.slice Ao33 y442.length co33 : Value).ownBlock) (fun _ => False) rfl rfl ?aO ?aR (fun _ _ h => h) (fun _ h => h.elim) ?aF ?aB ?aS ?aL ?_; (case aR => repeat (first | exact (Kd.R_reads' HO444.out).2.2 | (with_reducible refine Kd.C_alloc ?_ _) | (with_reducible refine Kd.C_drewN ?_ _) | (with_reducible refine Kd.C_drew ?_))); (case aB => exact (by repeat (with_reducible first | exact HB.out | apply b_a | apply b_n | apply b_d | refine below_set ?_ (IsS28.ge HI423.out) | refine below_set ?_ GE422.out | refine below_set ?_ GE433.out))); (case aF => exact (fun k_ hk => ⟨Kd.fresh' (Kd.R_lt (by (with_reducible repeat (first | apply r_a | apply r_n | apply r_d)); exact HO427.out)) k_ hk, Kd.fresh' (Kd.R_lt (by (with_reducible repeat (first | apply r_a | apply r_n | apply r_d)); exact HO431.out)) k_ hk, Kd.fresh' (Kd.R_lt (by (with_reducible repeat (first | apply r_a | apply r_n | apply r_d)); exact HO444.out)) k_ hk⟩)); (case aO => exact (by (with_reducible repeat (first | apply r_a | apply r_n | apply r_d)); exact Kd.R_mono HO439.out (fun _ hk => ⟨hk.1.1, ⟨hk.1.2, hk.2⟩⟩))); (case aS => exact (below_size (by repeat (with_reducible first | exact HB.out | apply b_a | apply b_n | apply b_d | refine below_set ?_ (IsS28.ge HI423.out) | refine below_set ?_ GE422.out | refine below_set ?_ GE433.out)))); (case aL => have := LMc11.out; omega); intro v446 w32 ho hb hg hat; rw [← Ny445.out] at ho; have n0_ := mk0 (blk_grown (g := gb422) (o := .cells #[.string t424, .slice Ao18 t425.length co18] 24 (0, 0)) (by (with_reducible repeat (first | refine blk_drewN ?_ _ | refine blk_drew ?_ | refine blk_alloc ?_ _)); exact BK422.out) hg (Kd.R_ne HO439.out BK422.out (by decide))); have n1_ := mk0 (IsS28.grown (by repeat (first | (with_reducible first | exact HI423.out | apply IsS28.alloc | apply IsS28.drewN | apply IsS28.drew | apply IsS28.set_1 | refine IsS28.far ?_ NB423_422.out _ | refine IsS28.far ?_ NB423_433.out _) | exact HI423.out)) hg (IsS28.own_ne HI423.out HO439.out (by decide))); have n2_ := mk0 (Kd.R_after (ok := (fun k_ => some k_ ≠ (.slice Ao24 t429.length co24 : Value).ownBlock ∧ some k_ ≠ (.slice Ao33 y442.length co33 : Value).ownBlock)) (by (with_reducible repeat (first | apply r_a | apply r_n | apply r_d)); exact Kd.R_mono HO427.out (fun _ hk => ⟨⟨hk.1.1, hk.2⟩, hk.1.2⟩)) hg hat); have n3_ := mk0 (Kd.R_after (ok := (fun k_ => some k_ ≠ (.slice Ao18 t425.length co18 : Value).ownBlock ∧ some k_ ≠ (.slice Ao33 y442.length co33 : Value).ownBlock)) (by (with_reducible repeat (first | apply r_a | apply r_n | apply r_d)); exact Kd.R_mono HO431.out (fun _ hk => ⟨⟨hk.1.1, hk.2⟩, hk.1.2⟩)) hg hat); have n4_ := mk0 (blk_grown (g := gb433) (o := .cells #[.string t428, .slice Ao24 t429.length co24] 24 (0, 0)) (by (with_reducible repeat (first | refine blk_drewN ?_ _ | refine blk_drew ?_ | refine blk_alloc ?_ _)); exact BK433.out) hg (Kd.R_ne HO439.out BK433.out (by decide))); have n5_ := mk0 (Kd.R_after (ok := (fun k_ => some k_ ≠ (.slice Ao18 t425.length co18 : Value).ownBlock ∧ some k_ ≠ (.slice Ao24 t429.length co24 : Value).ownBlock)) (by (with_reducible repeat (first | apply r_a | apply r_n | apply r_d)); exact Kd.R_mono HO444.out (fun _ hk => ⟨⟨hk.1.1.2, hk.1.2⟩, hk.2⟩)) hg hat); have n6_ := mk0 (hb); have n7_ := mk0 (ho); clear BK422; clear HI423; clear HO427; clear HO431; clear BK433; clear HO444; clear HB; clear HO439; have BK422 := n0_; have HI423 := n1_; have HO427 := n2_; have HO431 := n3_; have BK433 := n4_; have HO444 := n5_; have HB := n6_; have HO447 := n7_; clear n0_ n1_ n2_ n3_ n4_ n5_ n6_ n7_; clear ho hb hg hat; obtain ⟨Ao34, co34, eo34⟩ := Kd.R_slice HO447.out; subst eo34))
     go_loopg [32] k (fun kq v32 w' => ∃ (x32_1 : Int), v32 = .int .i64 x32_1 ∧ Aside0 (w6_ClassificationLeaves.l0 kq (a1.extract 0 ((ji5) : Int).toNat) y445 (y445.length : Int) x32_1 t424 t425 t428 t429 = some r) ∧ Aside0 (kq ≤ k) ∧ Aside0 (Kd.R Kd.string 9 w' w.heap.size (fun k_ => some k_ ≠ ((.slice Ao18 t425.length co18) : Value).ownBlock ∧ some k_ ≠ ((.slice Ao24 t429.length co24) : Value).ownBlock) (.slice Ao34 y445.length co34) y445) ∧ Aside0 (Kd.R Kd.string 9 w' w.heap.size (fun k_ => some k_ ≠ ((.slice Ao34 y445.length co34) : Value).ownBlock ∧ some k_ ≠ ((.slice Ao24 t429.length co24) : Value).ownBlock) (.slice Ao18 t425.length co18) t425) ∧ Aside0 (Kd.R Kd.string 9 w' w.heap.size (fun k_ => some k_ ≠ ((.slice Ao34 y445.length co34) : Value).ownBlock ∧ some k_ ≠ ((.slice Ao18 t425.length co18) : Value).ownBlock) (.slice Ao24 t429.length co24) t429) ∧ Aside0 (w'.heap[gb422]? = some (.cells #[.string t424, (.slice Ao18 t425.length co18)] 24 (0, 0))) ∧ Aside0 (w'.heap[gb433]? = some (.cells #[.string t428, (.slice Ao24 t429.length co24)] 24 (0, 0))) ∧ Aside0 (Below w.heap.size w w'))
     case atStart => exact ⟨(0), (by first | rfl | (simp; done) | (simp [*]; done)), H', ⟨Nat.le_refl _⟩, ⟨by (with_reducible repeat (first | apply r_a | apply r_n | apply r_d)); exact Kd.R_mono HO447.out (fun _ hk => ⟨hk.1, hk.2.1⟩)⟩, ⟨by (with_reducible repeat (first | apply r_a | apply r_n | apply r_d)); exact Kd.R_mono HO427.out (fun _ hk => ⟨hk.2, hk.1.1⟩)⟩, ⟨by (with_reducible repeat (first | apply r_a | apply r_n | apply r_d)); exact Kd.R_mono HO431.out (fun _ hk => ⟨hk.2, hk.1.1⟩)⟩, ⟨by (with_reducible repeat (first | refine blk_drewN ?_ _ | refine blk_drew ?_ | refine blk_alloc ?_ _)); exact BK422.out⟩, ⟨by (with_reducible repeat (first | refine blk_drewN ?_ _ | refine blk_drew ?_ | refine blk_alloc ?_ _)); exact BK433.out⟩, ⟨by repeat (first | (with_reducible first | exact HB.out | apply b_a | apply b_n | apply b_d | refine below_set ?_ (IsS28.ge HI423.out) | refine below_set ?_ GE422.out | refine below_set ?_ GE433.out) | exact HB.out)⟩⟩
     case round =>
      clear H'
      try clear c1
      try clear c2
      try clear p2
      try clear c3
      try clear c4
      try clear c5
      try clear c6
      try clear c6b0
      try clear c6b1
      try clear c7
      try clear c7b0
      try clear c7b1
      try clear c9
      try clear c11
      try clear c14
      try clear c21
      try clear c22
      try clear hcz15_0
      try clear hcz15_1
      try clear hcz17_0
      try clear hcz17_1
      try clear hcz23_0
      try clear hcz23_1
      try clear hcz27_0
      try clear hcz27_1
      try clear hfz15_0
      try clear hfz15_1
      try clear hfz17_0
      try clear hfz17_1
      try clear hfz23_0
      try clear hfz23_1
      try clear hfz27_0
      try clear hfz27_1
      obtain ⟨x32_1, rfl, HA, HK1, HO_30, HO_423001, HO_434001, BK422, BK433, HB⟩ := hrel
      cases gk with
      | zero => exact absurd HA.out (by simp [w6_ClassificationLeaves.l0])
      | succ k1 =>
       have H := HA.out
       clear HA
       simp only [w6_ClassificationLeaves.l0] at H
       by_cases c35 : x32_1 < (y445.length : Int)
       ·rw [if_pos c35] at H
        have c35b0 : decide (x32_1 < (y445.length : Int)) = true := decide_eq_true c35
        clear c35
        by_cases c36 : 0 ≤ x32_1
        ·rw [if_pos c36] at H
         have c36b0 : decide (0 ≤ x32_1) = true := decide_eq_true c36
         clear c36
         by_cases c37 : x32_1 < (y445.length : Int)
         ·rw [if_pos c37] at H
          have c37b0 : decide (x32_1 < (y445.length : Int)) = true := decide_eq_true c37
          clear c37
          replace H := Option.bind_eq_some_iff.mp H
          obtain ⟨t449, A380, H⟩ := H
          replace H : ((r6_Children.f k1 t428 t429 (rdOf ByteArray.empty y445 x32_1)).bind fun t452 => ((r6_SameStrings.f k1 t449 t452).bind fun t455 => (if t455 = true then ((c_Leaves.f k1 t428 t429 (rdOf ByteArray.empty y445 x32_1)).bind fun t456 => ((r6_Leaves.f k1 t428 t429 (rdOf ByteArray.empty y445 x32_1)).bind fun t459 => ((r6_SameStrings.f k1 t456 t459).bind fun t462 => (if t462 = true then (w6_ClassificationLeaves.l0 k1 (a1.extract 0 ((ji5) : Int).toNat) y445 (y445.length : Int) (wrap64 (x32_1 + 1)) t424 t425 t428 t429) else (some false))))) else (some false)))) = some r := H
          have A38 := mk0 A380
          clear A380
          replace H := Option.bind_eq_some_iff.mp H
          obtain ⟨t452, A390, H⟩ := H
          replace H : ((r6_SameStrings.f k1 t449 t452).bind fun t455 => (if t455 = true then ((c_Leaves.f k1 t428 t429 (rdOf ByteArray.empty y445 x32_1)).bind fun t456 => ((r6_Leaves.f k1 t428 t429 (rdOf ByteArray.empty y445 x32_1)).bind fun t459 => ((r6_SameStrings.f k1 t456 t459).bind fun t462 => (if t462 = true then (w6_ClassificationLeaves.l0 k1 (a1.extract 0 ((ji5) : Int).toNat) y445 (y445.length : Int) (wrap64 (x32_1 + 1)) t424 t425 t428 t429) else (some false))))) else (some false))) = some r := H
          have A39 := mk0 A390
          clear A390
          replace H := Option.bind_eq_some_iff.mp H
          obtain ⟨t455, A400, H⟩ := H
          replace H : (if t455 = true then ((c_Leaves.f k1 t428 t429 (rdOf ByteArray.empty y445 x32_1)).bind fun t456 => ((r6_Leaves.f k1 t428 t429 (rdOf ByteArray.empty y445 x32_1)).bind fun t459 => ((r6_SameStrings.f k1 t456 t459).bind fun t462 => (if t462 = true then (w6_ClassificationLeaves.l0 k1 (a1.extract 0 ((ji5) : Int).toNat) y445 (y445.length : Int) (wrap64 (x32_1 + 1)) t424 t425 t428 t429) else (some false))))) else (some false)) = some r := H
          have A40 := mk0 A400
          clear A400
          by_cases c41 : t455 = true
          ·subst c41
           have H1 : ((c_Leaves.f k1 t428 t429 (rdOf ByteArray.empty y445 x32_1)).bind fun t456 => ((r6_Leaves.f k1 t428 t429 (rdOf ByteArray.empty y445 x32_1)).bind fun t459 => ((r6_SameStrings.f k1 t456 t459).bind fun t462 => (if t462 = true then (w6_ClassificationLeaves.l0 k1 (a1.extract 0 ((ji5) : Int).toNat) y445 (y445.length : Int) (wrap64 (x32_1 + 1)) t424 t425 t428 t429) else (some false))))) = some r := by rw [if_pos rfl] at H; exact H
           clear H
           have H := H1
           clear H1
           replace H := Option.bind_eq_some_iff.mp H
           obtain ⟨t456, A420, H⟩ := H
           replace H : ((r6_Leaves.f k1 t428 t429 (rdOf ByteArray.empty y445 x32_1)).bind fun t459 => ((r6_SameStrings.f k1 t456 t459).bind fun t462 => (if t462 = true then (w6_ClassificationLeaves.l0 k1 (a1.extract 0 ((ji5) : Int).toNat) y445 (y445.length : Int) (wrap64 (x32_1 + 1)) t424 t425 t428 t429) else (some false)))) = some r := H
           have A42 := mk0 A420
           clear A420
           replace H := Option.bind_eq_some_iff.mp H
           obtain ⟨t459, A430, H⟩ := H
           replace H : ((r6_SameStrings.f k1 t456 t459).bind fun t462 => (if t462 = true then (w6_ClassificationLeaves.l0 k1 (a1.extract 0 ((ji5) : Int).toNat) y445 (y445.length : Int) (wrap64 (x32_1 + 1)) t424 t425 t428 t429) else (some false))) = some r := H
           have A43 := mk0 A430
           clear A430
           replace H := Option.bind_eq_some_iff.mp H
           obtain ⟨t462, A440, H⟩ := H
           replace H : (if t462 = true then (w6_ClassificationLeaves.l0 k1 (a1.extract 0 ((ji5) : Int).toNat) y445 (y445.length : Int) (wrap64 (x32_1 + 1)) t424 t425 t428 t429) else (some false)) = some r := H
           have A44 := mk0 A440
           clear A440
           by_cases c45 : t462 = true
           ·subst c45
            have H1 : (w6_ClassificationLeaves.l0 k1 (a1.extract 0 ((ji5) : Int).toNat) y445 (y445.length : Int) (wrap64 (x32_1 + 1)) t424 t425 t428 t429) = some r := by rw [if_pos rfl] at H; exact H
            clear H
            have H := H1
            clear H1
            have H' := mk0 H
            clear H
            have p448 : 0 ≤ (x32_1 : Int) := of_decide_eq_true (by assumption)
            have q448 : x32_1 < (y445.length : Int) := of_decide_eq_true (by assumption)
            obtain ⟨ad448, e448, hx448_0⟩ := Kd.at_string (Kd.R_reads' HO_30.out).2.2 x32_1 p448 q448
            cases e448
            replace p448 := eq_true p448
            replace q448 := eq_true q448
            try go_wp2
            have n0_ := mk0 (r_d HO_30.out)
            have n1_ := mk0 (r_d HO_423001.out)
            have n2_ := mk0 (r_d HO_434001.out)
            have n3_ := mk0 (blk_drew BK422.out)
            have n4_ := mk0 (blk_drew BK433.out)
            have n5_ := mk0 (b_d HB.out)
            clear HO_30
            clear HO_423001
            clear HO_434001
            clear BK422
            clear BK433
            clear HB
            have HO_30 := n0_
            have HO_423001 := n1_
            have HO_434001 := n2_
            have BK422 := n3_
            have BK433 := n4_
            have HB := n5_
            clear n0_ n1_ n2_ n3_ n4_ n5_
            refine start_ (n := 18) (S := fun w' => w'.cell? ⟨gb433, 0, none⟩ = some (.string t428) ∧ w'.cell? ⟨gb433, 1, none⟩ = some (.slice Ao24 t429.length co24)) (ds := []) #[false, false, false, false, false, false, false, false, false, false, false, false, false, false, false, false, false, false] (by kernel_rfl) rfl rfl ⟨(blk_cell BK433.out 0).trans rfl, (blk_cell BK433.out 1).trans rfl⟩ (fun hHeld => ?_); refine with_tabW w6_ClassificationLeaves.tab8 w6_ClassificationLeaves.bits8 (fun HT_ HW_ => ?_)
            generalize wr.drew = w46 at HO_30 HO_423001 HO_434001 BK422 BK433 HB hHeld ⊢
            refine pure_ (i := 1) (N := some 37) (v := ?_) (a' := ?_) #[false, true, false, false, false, false, false, false, false, false, false, false, false, false, false, false, false, false] rfl rfl (any_of HT_.out (by kernel_rfl)) (fun _ _ _ h => h) (Or.inl ⟨by rfl, ?_⟩) ?_ ?_
            rotate_left
            ·intro w'
             go_simp
             with_reducible rfl
            rotate_left
            ·simp only [Act.put, List.setIfInBounds_toArray, List.set_cons_zero, List.set_cons_succ, i64_w, i32_w]
             rfl
            refine pure_ (i := 4) (N := some 40) (v := ?_) (a' := ?_) #[false, true, false, false, true, false, false, false, false, false, false, false, false, false, false, false, false, false] rfl rfl (any_of HT_.out (by kernel_rfl)) (fun _ _ _ h => h) (Or.inl ⟨by rfl, ?_⟩) ?_ ?_
            rotate_left
            ·intro w'
             go_simp
             with_reducible rfl
            rotate_left
            ·simp only [Act.put, List.setIfInBounds_toArray, List.set_cons_zero, List.set_cons_succ, i64_w, i32_w]
             rfl
            refine take_ (i := 0) (N := some 36) (v := ?_) (a' := ?_) #[true, true, false, false, true, false, false, false, false, false, false, false, false, false, false, false, false, false] rfl rfl (take_ofW HT_.out HW_.out (by kernel_rfl)) (fun _ _ _ h => h) (Or.inl ⟨by rfl, ?_⟩) hHeld ?_ ?_
            rotate_left
            ·rintro w' ⟨s0, s1⟩
             go_simp
             with_reducible rfl
            rotate_left
            ·simp only [Act.put, List.setIfInBounds_toArray, List.set_cons_zero, List.set_cons_succ, i64_w, i32_w]
             rfl
            refine take_ (i := 3) (N := some 39) (v := ?_) (a' := ?_) #[true, true, false, true, true, false, false, false, false, false, false, false, false, false, false, false, false, false] rfl rfl (take_ofW HT_.out HW_.out (by kernel_rfl)) (fun _ _ _ h => h) (Or.inl ⟨by rfl, ?_⟩) hHeld ?_ ?_
            rotate_left
            ·rintro w' ⟨s0, s1⟩
             go_simp
             with_reducible rfl
            rotate_left
            ·simp only [Act.put, List.setIfInBounds_toArray, List.set_cons_zero, List.set_cons_succ, i64_w, i32_w]
             rfl
            refine one_ (i := 2) (N := some 38) #[true, true, true, true, true, false, false, false, false, false, false, false, false, false, false, false, false, false] rfl rfl (one_of HT_.out (by kernel_rfl)) (by decide) (fun K hK => ?_)
            refine goes_ Tryz.func8 (by kernel_rfl) rfl #[.agg #[.string t428, .slice Ao24 t429.length co24], .string (rdOf ByteArray.empty y445 x32_1)] (by rfl) rfl rfl (by (try simp only [List.map_toArray, List.map_cons, List.map_nil]); first | done | rfl | (simp only [List.length_drop, List.length_take]; rfl)) ?_
            with_reducible refine (c_Children.calls k1 t428 _ _ t429 (rdOf ByteArray.empty y445 x32_1) t449 _ ?side1 ?side2 ?side3 A38.out).mono ?_
            (case side1 => repeat (first | exact (Kd.R_reads' HO_434001.out).2.2 | (with_reducible refine Kd.C_alloc ?_ _) | (with_reducible refine Kd.C_drewN ?_ _) | (with_reducible refine Kd.C_drew ?_)))
            (case side2 => exact (Kd.R_reads' HO_434001.out).2.1)
            (case side3 => first | exact HG.out | exact GL.below HG.out (by repeat (with_reducible first | exact HB.out | apply b_a | apply b_n | apply b_d | refine below_set ?_ GE422.out | refine below_set ?_ GE433.out)))
            rintro e w47 ⟨v450, rfl, ho0, hb⟩
            refine ⟨_, rfl, ?_⟩
            have n0_ := mk0 (Kd.R_elder' (by (with_reducible repeat (first | apply r_a | apply r_n | apply r_d)); exact HO_30.out) (Kd.R_base ho0) hb)
            have n1_ := mk0 (Kd.R_elder' (by (with_reducible repeat (first | apply r_a | apply r_n | apply r_d)); exact HO_423001.out) (Kd.R_base ho0) hb)
            have n2_ := mk0 (Kd.R_elder' (by (with_reducible repeat (first | apply r_a | apply r_n | apply r_d)); exact HO_434001.out) (Kd.R_base ho0) hb)
            have n3_ := mk0 (Kd.R_lower (Kd.R_new' (Kd.R_new' (Kd.R_new' ho0 (Kd.R_lt (by (with_reducible repeat (first | apply r_a | apply r_n | apply r_d)); exact HO_30.out))) (Kd.R_lt (by (with_reducible repeat (first | apply r_a | apply r_n | apply r_d)); exact HO_423001.out))) (Kd.R_lt (by (with_reducible repeat (first | apply r_a | apply r_n | apply r_d)); exact HO_434001.out))) (below_size (by repeat (with_reducible first | exact HB.out | apply b_a | apply b_n | apply b_d | refine below_set ?_ GE422.out | refine below_set ?_ GE433.out))))
            have n4_ := mk0 (blk_below (g := gb422) (o := .cells #[.string t424, .slice Ao18 t425.length co18] 24 (0, 0)) (by (with_reducible repeat (first | refine blk_drewN ?_ _ | refine blk_drew ?_ | refine blk_alloc ?_ _)); exact BK422.out) hb)
            have n5_ := mk0 (blk_below (g := gb433) (o := .cells #[.string t428, .slice Ao24 t429.length co24] 24 (0, 0)) (by (with_reducible repeat (first | refine blk_drewN ?_ _ | refine blk_drew ?_ | refine blk_alloc ?_ _)); exact BK433.out) hb)
            have n6_ := mk0 (below_step (by repeat (with_reducible first | exact HB.out | apply b_a | apply b_n | apply b_d | refine below_set ?_ GE422.out | refine below_set ?_ GE433.out)) hb)
            clear HO_30
            clear HO_423001
            clear HO_434001
            clear BK422
            clear BK433
            clear HB
            have HO_30 := n0_
            have HO_423001 := n1_
            have HO_434001 := n2_
            have HO451 := n3_
            have BK422 := n4_
            have BK433 := n5_
            have HB := n6_
            clear n0_ n1_ n2_ n3_ n4_ n5_ n6_
            (try clear hb)
            (try clear hb2)
            (try clear hk)
            (try clear hi)
            (try clear ho0)
            refine hK.out _ _ ⟨(blk_cell BK433.out 0).trans rfl, (blk_cell BK433.out 1).trans rfl⟩ (fun hHeld => ?_)
            clear hK K
            refine norm_ (a' := ?_) ?_ ?_
            rotate_left
            ·show Act.put _ (some 38) _ = _
             simp only [Act.put, List.setIfInBounds_toArray, List.set_cons_zero, List.set_cons_succ, i64_w, i32_w]
             rfl
            refine one_ (i := 5) (N := some 41) #[true, true, true, true, true, true, false, false, false, false, false, false, false, false, false, false, false, false] rfl rfl (one_of HT_.out (by kernel_rfl)) (by decide) (fun K hK => ?_)
            refine goes_ Tryz.func9 (by kernel_rfl) rfl #[.agg #[.string t428, .slice Ao24 t429.length co24], .string (rdOf ByteArray.empty y445 x32_1)] (by rfl) rfl rfl (by (try simp only [List.map_toArray, List.map_cons, List.map_nil]); first | done | rfl | (simp only [List.length_drop, List.length_take]; rfl)) ?_
            with_reducible refine (r6_Children.calls k1 t428 _ _ t429 (rdOf ByteArray.empty y445 x32_1) t452 _ ?side1 ?side2 A39.out).mono ?_
            (case side1 => repeat (first | exact (Kd.R_reads' HO_434001.out).2.2 | (with_reducible refine Kd.C_alloc ?_ _) | (with_reducible refine Kd.C_drewN ?_ _) | (with_reducible refine Kd.C_drew ?_)))
            (case side2 => exact (Kd.R_reads' HO_434001.out).2.1)
            rintro e w48 ⟨v453, rfl, ho0, hb⟩
            refine ⟨_, rfl, ?_⟩
            have n0_ := mk0 (Kd.R_elder' (by (with_reducible repeat (first | apply r_a | apply r_n | apply r_d)); exact HO_30.out) (Kd.R_base ho0) hb)
            have n1_ := mk0 (Kd.R_elder' (by (with_reducible repeat (first | apply r_a | apply r_n | apply r_d)); exact HO_423001.out) (Kd.R_base ho0) hb)
            have n2_ := mk0 (Kd.R_elder' (by (with_reducible repeat (first | apply r_a | apply r_n | apply r_d)); exact HO_434001.out) (Kd.R_base ho0) hb)
            have n3_ := mk0 (Kd.R_elder' (by (with_reducible repeat (first | apply r_a | apply r_n | apply r_d)); exact HO451.out) (Kd.R_base ho0) hb)
            have n4_ := mk0 (Kd.R_lower (Kd.R_new' (Kd.R_new' (Kd.R_new' (Kd.R_new' ho0 (Kd.R_lt (by (with_reducible repeat (first | apply r_a | apply r_n | apply r_d)); exact HO_30.out))) (Kd.R_lt (by (with_reducible repeat (first | apply r_a | apply r_n | apply r_d)); exact HO_423001.out))) (Kd.R_lt (by (with_reducible repeat (first | apply r_a | apply r_n | apply r_d)); exact HO_434001.out))) (Kd.R_lt (by (with_reducible repeat (first | apply r_a | apply r_n | apply r_d)); exact HO451.out))) (below_size (by repeat (with_reducible first | exact HB.out | apply b_a | apply b_n | apply b_d | refine below_set ?_ GE422.out | refine below_set ?_ GE433.out))))
            have n5_ := mk0 (blk_below (g := gb422) (o := .cells #[.string t424, .slice Ao18 t425.length co18] 24 (0, 0)) (by (with_reducible repeat (first | refine blk_drewN ?_ _ | refine blk_drew ?_ | refine blk_alloc ?_ _)); exact BK422.out) hb)
            have n6_ := mk0 (blk_below (g := gb433) (o := .cells #[.string t428, .slice Ao24 t429.length co24] 24 (0, 0)) (by (with_reducible repeat (first | refine blk_drewN ?_ _ | refine blk_drew ?_ | refine blk_alloc ?_ _)); exact BK433.out) hb)
            have n7_ := mk0 (below_step (by repeat (with_reducible first | exact HB.out | apply b_a | apply b_n | apply b_d | refine below_set ?_ GE422.out | refine below_set ?_ GE433.out)) hb)
            clear HO_30
            clear HO_423001
            clear HO_434001
            clear HO451
            clear BK422
            clear BK433
            clear HB
            have HO_30 := n0_
            have HO_423001 := n1_
            have HO_434001 := n2_
            have HO451 := n3_
            have HO454 := n4_
            have BK422 := n5_
            have BK433 := n6_
            have HB := n7_
            clear n0_ n1_ n2_ n3_ n4_ n5_ n6_ n7_
            (try clear hb)
            (try clear hb2)
            (try clear hk)
            (try clear hi)
            (try clear ho0)
            obtain ⟨Ao49, co49, eo49⟩ := Kd.R_slice HO451.out
            (first | subst eo49 | (injection eo49 with f1_ f2_ f3_; have f4_ := f1_.symm; have f5_ := f3_.symm; clear f1_ f2_ f3_; subst f4_; subst f5_))
            obtain ⟨Ao50, co50, eo50⟩ := Kd.R_slice HO454.out
            (first | subst eo50 | (injection eo50 with f1_ f2_ f3_; have f4_ := f1_.symm; have f5_ := f3_.symm; clear f1_ f2_ f3_; subst f4_; subst f5_))
            refine hK.out _ _ ⟨(blk_cell BK433.out 0).trans rfl, (blk_cell BK433.out 1).trans rfl⟩ (fun hHeld => ?_)
            clear hK K
            refine norm_ (a' := ?_) ?_ ?_
            rotate_left
            ·show Act.put _ (some 41) _ = _
             simp only [Act.put, List.setIfInBounds_toArray, List.set_cons_zero, List.set_cons_succ, i64_w, i32_w]
             rfl
            refine one_ (i := 6) (N := some 42) #[true, true, true, true, true, true, true, false, false, false, false, false, false, false, false, false, false, false] rfl rfl (one_of HT_.out (by kernel_rfl)) (by decide) (fun K hK => ?_)
            refine goes_ Tryz.func7 (by kernel_rfl) rfl #[.slice Ao49 t449.length co49, .slice Ao50 t452.length co50] (by rfl) rfl rfl (by (try simp only [List.map_toArray, List.map_cons, List.map_nil]); first | done | rfl | (simp only [List.length_drop, List.length_take]; rfl)) ?_
            with_reducible refine (r6_SameStrings.calls k1 _ _ t449 _ _ t452 true _ ?side1 ?side2 ?side3 ?side4 A40.out).mono ?_
            (case side1 => repeat (first | exact (Kd.R_reads' HO451.out).2.2 | (with_reducible refine Kd.C_alloc ?_ _) | (with_reducible refine Kd.C_drewN ?_ _) | (with_reducible refine Kd.C_drew ?_)))
            (case side2 => exact (Kd.R_reads' HO451.out).2.1)
            (case side3 => repeat (first | exact (Kd.R_reads' HO454.out).2.2 | (with_reducible refine Kd.C_alloc ?_ _) | (with_reducible refine Kd.C_drewN ?_ _) | (with_reducible refine Kd.C_drew ?_)))
            (case side4 => exact (Kd.R_reads' HO454.out).2.1)
            rintro e w' ⟨rfl, ⟨nd, rfl⟩⟩
            refine ⟨_, rfl, ?_⟩
            refine hK.out _ _ ⟨(blk_cell BK433.out 0).trans rfl, (blk_cell BK433.out 1).trans rfl⟩ (fun hHeld => ?_)
            clear hK K
            refine norm_ (a' := ?_) ?_ ?_
            rotate_left
            ·show Act.put _ (some 42) _ = _
             simp only [Act.put, List.setIfInBounds_toArray, List.set_cons_zero, List.set_cons_succ, i64_w, i32_w]
             rfl
            refine pure_ (i := 7) (N := some 43) (v := ?_) (a' := ?_) #[true, true, true, true, true, true, true, true, false, false, false, false, false, false, false, false, false, false] rfl rfl (any_of HT_.out (by kernel_rfl)) (fun _ _ _ h => h) (Or.inl ⟨by rfl, ?_⟩) ?_ ?_
            rotate_left
            ·intro w'
             go_simp
             with_reducible rfl
            rotate_left
            ·simp only [Act.put, List.setIfInBounds_toArray, List.set_cons_zero, List.set_cons_succ, i64_w, i32_w]
             rfl
            refine pure_ (i := 8) (N := some 44) (v := ?_) (a' := ?_) #[true, true, true, true, true, true, true, true, true, false, false, false, false, false, false, false, false, false] rfl rfl (any_of HT_.out (by kernel_rfl)) (fun _ _ _ h => h) (Or.inl ⟨by rfl, ?_⟩) ?_ ?_
            rotate_left
            ·intro w'
             go_simp
             with_reducible rfl
            rotate_left
            ·simp only [Act.put, List.setIfInBounds_toArray, List.set_cons_zero, List.set_cons_succ, i64_w, i32_w]
             rfl
            refine pure_ (i := 10) (N := some 46) (v := ?_) (a' := ?_) #[true, true, true, true, true, true, true, true, true, false, true, false, false, false, false, false, false, false] rfl rfl (any_of HT_.out (by kernel_rfl)) (fun _ _ _ h => h) (Or.inl ⟨by rfl, ?_⟩) ?_ ?_
            rotate_left
            ·intro w'
             go_simp
             with_reducible rfl
            rotate_left
            ·simp only [Act.put, List.setIfInBounds_toArray, List.set_cons_zero, List.set_cons_succ, i64_w, i32_w]
             rfl
            refine pure_ (i := 13) (N := some 49) (v := ?_) (a' := ?_) #[true, true, true, true, true, true, true, true, true, false, true, false, false, true, false, false, false, false] rfl rfl (any_of HT_.out (by kernel_rfl)) (fun _ _ _ h => h) (Or.inl ⟨by rfl, ?_⟩) ?_ ?_
            rotate_left
            ·intro w'
             go_simp
             with_reducible rfl
            rotate_left
            ·simp only [Act.put, List.setIfInBounds_toArray, List.set_cons_zero, List.set_cons_succ, i64_w, i32_w]
             rfl
            refine take_ (i := 9) (N := some 45) (v := ?_) (a' := ?_) #[true, true, true, true, true, true, true, true, true, true, true, false, false, true, false, false, false, false] rfl rfl (take_ofW HT_.out HW_.out (by kernel_rfl)) (fun _ _ _ h => h) (Or.inl ⟨by rfl, ?_⟩) hHeld ?_ ?_
            rotate_left
            ·rintro w' ⟨s0, s1⟩
             go_simp
             with_reducible rfl
            rotate_left
            ·simp only [Act.put, List.setIfInBounds_toArray, List.set_cons_zero, List.set_cons_succ, i64_w, i32_w]
             rfl
            refine take_ (i := 12) (N := some 48) (v := ?_) (a' := ?_) #[true, true, true, true, true, true, true, true, true, true, true, false, true, true, false, false, false, false] rfl rfl (take_ofW HT_.out HW_.out (by kernel_rfl)) (fun _ _ _ h => h) (Or.inl ⟨by rfl, ?_⟩) hHeld ?_ ?_
            rotate_left
            ·rintro w' ⟨s0, s1⟩
             go_simp
             with_reducible rfl
            rotate_left
            ·simp only [Act.put, List.setIfInBounds_toArray, List.set_cons_zero, List.set_cons_succ, i64_w, i32_w]
             rfl
            refine one_ (i := 11) (N := some 47) #[true, true, true, true, true, true, true, true, true, true, true, true, true, true, false, false, false, false] rfl rfl (one_of HT_.out (by kernel_rfl)) (by decide) (fun K hK => ?_)
            refine goes_ Tryz.func10 (by kernel_rfl) rfl #[.agg #[.string t428, .slice Ao24 t429.length co24], .string (rdOf ByteArray.empty y445 x32_1)] (by rfl) rfl rfl (by (try simp only [List.map_toArray, List.map_cons, List.map_nil]); first | done | rfl | (simp only [List.length_drop, List.length_take]; rfl)) ?_
            with_reducible refine (c_Leaves.calls k1 t428 _ _ t429 (rdOf ByteArray.empty y445 x32_1) t456 _ ?side1 ?side2 ?side3 A42.out).mono ?_
            (case side1 => repeat (first | exact (Kd.R_reads' HO_434001.out).2.2 | (with_reducible refine Kd.C_alloc ?_ _) | (with_reducible refine Kd.C_drewN ?_ _) | (with_reducible refine Kd.C_drew ?_)))
            (case side2 => exact (Kd.R_reads' HO_434001.out).2.1)
            (case side3 => first | exact HG.out | exact GL.below HG.out (by repeat (with_reducible first | exact HB.out | apply b_a | apply b_n | apply b_d | refine below_set ?_ GE422.out | refine below_set ?_ GE433.out)))
            rintro e w51 ⟨v457, rfl, ho0, hb⟩
            refine ⟨_, rfl, ?_⟩
            have n0_ := mk0 (Kd.R_elder' (by (with_reducible repeat (first | apply r_a | apply r_n | apply r_d)); exact HO_30.out) (Kd.R_base ho0) hb)
            have n1_ := mk0 (Kd.R_elder' (by (with_reducible repeat (first | apply r_a | apply r_n | apply r_d)); exact HO_423001.out) (Kd.R_base ho0) hb)
            have n2_ := mk0 (Kd.R_elder' (by (with_reducible repeat (first | apply r_a | apply r_n | apply r_d)); exact HO_434001.out) (Kd.R_base ho0) hb)
            have n3_ := mk0 (Kd.R_elder' (by (with_reducible repeat (first | apply r_a | apply r_n | apply r_d)); exact HO451.out) (Kd.R_base ho0) hb)
            have n4_ := mk0 (Kd.R_elder' (by (with_reducible repeat (first | apply r_a | apply r_n | apply r_d)); exact HO454.out) (Kd.R_base ho0) hb)
            have n5_ := mk0 (Kd.R_lower (Kd.R_new' (Kd.R_new' (Kd.R_new' (Kd.R_new' (Kd.R_new' ho0 (Kd.R_lt (by (with_reducible repeat (first | apply r_a | apply r_n | apply r_d)); exact HO_30.out))) (Kd.R_lt (by (with_reducible repeat (first | apply r_a | apply r_n | apply r_d)); exact HO_423001.out))) (Kd.R_lt (by (with_reducible repeat (first | apply r_a | apply r_n | apply r_d)); exact HO_434001.out))) (Kd.R_lt (by (with_reducible repeat (first | apply r_a | apply r_n | apply r_d)); exact HO451.out))) (Kd.R_lt (by (with_reducible repeat (first | apply r_a | apply r_n | apply r_d)); exact HO454.out))) (below_size (by repeat (with_reducible first | exact HB.out | apply b_a | apply b_n | apply b_d | refine below_set ?_ GE422.out | refine below_set ?_ GE433.out))))
            have n6_ := mk0 (blk_below (g := gb422) (o := .cells #[.string t424, .slice Ao18 t425.length co18] 24 (0, 0)) (by (with_reducible repeat (first | refine blk_drewN ?_ _ | refine blk_drew ?_ | refine blk_alloc ?_ _)); exact BK422.out) hb)
            have n7_ := mk0 (blk_below (g := gb433) (o := .cells #[.string t428, .slice Ao24 t429.length co24] 24 (0, 0)) (by (with_reducible repeat (first | refine blk_drewN ?_ _ | refine blk_drew ?_ | refine blk_alloc ?_ _)); exact BK433.out) hb)
            have n8_ := mk0 (below_step (by repeat (with_reducible first | exact HB.out | apply b_a | apply b_n | apply b_d | refine below_set ?_ GE422.out | refine below_set ?_ GE433.out)) hb)
            clear HO_30
            clear HO_423001
            clear HO_434001
            clear HO451
            clear HO454
            clear BK422
            clear BK433
            clear HB
            have HO_30 := n0_
            have HO_423001 := n1_
            have HO_434001 := n2_
            have HO451 := n3_
            have HO454 := n4_
            have HO458 := n5_
            have BK422 := n6_
            have BK433 := n7_
            have HB := n8_
            clear n0_ n1_ n2_ n3_ n4_ n5_ n6_ n7_ n8_
            (try clear hb)
            (try clear hb2)
            (try clear hk)
            (try clear hi)
            (try clear ho0)
            refine hK.out _ _ ⟨(blk_cell BK433.out 0).trans rfl, (blk_cell BK433.out 1).trans rfl⟩ (fun hHeld => ?_)
            clear hK K
            refine norm_ (a' := ?_) ?_ ?_
            rotate_left
            ·show Act.put _ (some 47) _ = _
             simp only [Act.put, List.setIfInBounds_toArray, List.set_cons_zero, List.set_cons_succ, i64_w, i32_w]
             rfl
            refine one_ (i := 14) (N := some 50) #[true, true, true, true, true, true, true, true, true, true, true, true, true, true, true, false, false, false] rfl rfl (one_of HT_.out (by kernel_rfl)) (by decide) (fun K hK => ?_)
            refine goes_ Tryz.func11 (by kernel_rfl) rfl #[.agg #[.string t428, .slice Ao24 t429.length co24], .string (rdOf ByteArray.empty y445 x32_1)] (by rfl) rfl rfl (by (try simp only [List.map_toArray, List.map_cons, List.map_nil]); first | done | rfl | (simp only [List.length_drop, List.length_take]; rfl)) ?_
            with_reducible refine (r6_Leaves.calls k1 t428 _ _ t429 (rdOf ByteArray.empty y445 x32_1) t459 _ ?side1 ?side2 A43.out).mono ?_
            (case side1 => repeat (first | exact (Kd.R_reads' HO_434001.out).2.2 | (with_reducible refine Kd.C_alloc ?_ _) | (with_reducible refine Kd.C_drewN ?_ _) | (with_reducible refine Kd.C_drew ?_)))
            (case side2 => exact (Kd.R_reads' HO_434001.out).2.1)
            rintro e w52 ⟨v460, rfl, ho0, hb⟩
            refine ⟨_, rfl, ?_⟩
            have n0_ := mk0 (Kd.R_elder' (by (with_reducible repeat (first | apply r_a | apply r_n | apply r_d)); exact HO_30.out) (Kd.R_base ho0) hb)
            have n1_ := mk0 (Kd.R_elder' (by (with_reducible repeat (first | apply r_a | apply r_n | apply r_d)); exact HO_423001.out) (Kd.R_base ho0) hb)
            have n2_ := mk0 (Kd.R_elder' (by (with_reducible repeat (first | apply r_a | apply r_n | apply r_d)); exact HO_434001.out) (Kd.R_base ho0) hb)
            have n3_ := mk0 (Kd.R_elder' (by (with_reducible repeat (first | apply r_a | apply r_n | apply r_d)); exact HO451.out) (Kd.R_base ho0) hb)
            have n4_ := mk0 (Kd.R_elder' (by (with_reducible repeat (first | apply r_a | apply r_n | apply r_d)); exact HO454.out) (Kd.R_base ho0) hb)
            have n5_ := mk0 (Kd.R_elder' (by (with_reducible repeat (first | apply r_a | apply r_n | apply r_d)); exact HO458.out) (Kd.R_base ho0) hb)
            have n6_ := mk0 (Kd.R_lower (Kd.R_new' (Kd.R_new' (Kd.R_new' (Kd.R_new' (Kd.R_new' (Kd.R_new' ho0 (Kd.R_lt (by (with_reducible repeat (first | apply r_a | apply r_n | apply r_d)); exact HO_30.out))) (Kd.R_lt (by (with_reducible repeat (first | apply r_a | apply r_n | apply r_d)); exact HO_423001.out))) (Kd.R_lt (by (with_reducible repeat (first | apply r_a | apply r_n | apply r_d)); exact HO_434001.out))) (Kd.R_lt (by (with_reducible repeat (first | apply r_a | apply r_n | apply r_d)); exact HO451.out))) (Kd.R_lt (by (with_reducible repeat (first | apply r_a | apply r_n | apply r_d)); exact HO454.out))) (Kd.R_lt (by (with_reducible repeat (first | apply r_a | apply r_n | apply r_d)); exact HO458.out))) (below_size (by repeat (with_reducible first | exact HB.out | apply b_a | apply b_n | apply b_d | refine below_set ?_ GE422.out | refine below_set ?_ GE433.out))))
            have n7_ := mk0 (blk_below (g := gb422) (o := .cells #[.string t424, .slice Ao18 t425.length co18] 24 (0, 0)) (by (with_reducible repeat (first | refine blk_drewN ?_ _ | refine blk_drew ?_ | refine blk_alloc ?_ _)); exact BK422.out) hb)
            have n8_ := mk0 (blk_below (g := gb433) (o := .cells #[.string t428, .slice Ao24 t429.length co24] 24 (0, 0)) (by (with_reducible repeat (first | refine blk_drewN ?_ _ | refine blk_drew ?_ | refine blk_alloc ?_ _)); exact BK433.out) hb)
            have n9_ := mk0 (below_step (by repeat (with_reducible first | exact HB.out | apply b_a | apply b_n | apply b_d | refine below_set ?_ GE422.out | refine below_set ?_ GE433.out)) hb)
            clear HO_30
            clear HO_423001
            clear HO_434001
            clear HO451
            clear HO454
            clear HO458
            clear BK422
            clear BK433
            clear HB
            have HO_30 := n0_
            have HO_423001 := n1_
            have HO_434001 := n2_
            have HO451 := n3_
            have HO454 := n4_
            have HO458 := n5_
            have HO461 := n6_
            have BK422 := n7_
            have BK433 := n8_
            have HB := n9_
            clear n0_ n1_ n2_ n3_ n4_ n5_ n6_ n7_ n8_ n9_
            (try clear hb)
            (try clear hb2)
            (try clear hk)
            (try clear hi)
            (try clear ho0)
            obtain ⟨Ao53, co53, eo53⟩ := Kd.R_slice HO458.out
            (first | subst eo53 | (injection eo53 with f1_ f2_ f3_; have f4_ := f1_.symm; have f5_ := f3_.symm; clear f1_ f2_ f3_; subst f4_; subst f5_))
            obtain ⟨Ao54, co54, eo54⟩ := Kd.R_slice HO461.out
            (first | subst eo54 | (injection eo54 with f1_ f2_ f3_; have f4_ := f1_.symm; have f5_ := f3_.symm; clear f1_ f2_ f3_; subst f4_; subst f5_))
            refine hK.out _ _ ⟨(blk_cell BK433.out 0).trans rfl, (blk_cell BK433.out 1).trans rfl⟩ (fun hHeld => ?_)
            clear hK K
            refine norm_ (a' := ?_) ?_ ?_
            rotate_left
            ·show Act.put _ (some 50) _ = _
             simp only [Act.put, List.setIfInBounds_toArray, List.set_cons_zero, List.set_cons_succ, i64_w, i32_w]
             rfl
            refine one_ (i := 15) (N := some 51) #[true, true, true, true, true, true, true, true, true, true, true, true, true, true, true, true, false, false] rfl rfl (one_of HT_.out (by kernel_rfl)) (by decide) (fun K hK => ?_)
            refine goes_ Tryz.func7 (by kernel_rfl) rfl #[.slice Ao53 t456.length co53, .slice Ao54 t459.length co54] (by rfl) rfl rfl (by (try simp only [List.map_toArray, List.map_cons, List.map_nil]); first | done | rfl | (simp only [List.length_drop, List.length_take]; rfl)) ?_
            with_reducible refine (r6_SameStrings.calls k1 _ _ t456 _ _ t459 true _ ?side1 ?side2 ?side3 ?side4 A44.out).mono ?_
            (case side1 => repeat (first | exact (Kd.R_reads' HO458.out).2.2 | (with_reducible refine Kd.C_alloc ?_ _) | (with_reducible refine Kd.C_drewN ?_ _) | (with_reducible refine Kd.C_drew ?_)))
            (case side2 => exact (Kd.R_reads' HO458.out).2.1)
            (case side3 => repeat (first | exact (Kd.R_reads' HO461.out).2.2 | (with_reducible refine Kd.C_alloc ?_ _) | (with_reducible refine Kd.C_drewN ?_ _) | (with_reducible refine Kd.C_drew ?_)))
            (case side4 => exact (Kd.R_reads' HO461.out).2.1)
            rintro e w' ⟨rfl, ⟨nd, rfl⟩⟩
            refine ⟨_, rfl, ?_⟩
            refine hK.out _ _ ⟨(blk_cell BK433.out 0).trans rfl, (blk_cell BK433.out 1).trans rfl⟩ (fun hHeld => ?_)
            clear hK K
            refine norm_ (a' := ?_) ?_ ?_
            rotate_left
            ·show Act.put _ (some 51) _ = _
             simp only [Act.put, List.setIfInBounds_toArray, List.set_cons_zero, List.set_cons_succ, i64_w, i32_w]
             rfl
            refine pure_ (i := 16) (N := some 52) (v := ?_) (a' := ?_) #[true, true, true, true, true, true, true, true, true, true, true, true, true, true, true, true, true, false] rfl rfl (any_of HT_.out (by kernel_rfl)) (fun _ _ _ h => h) (Or.inl ⟨by rfl, ?_⟩) ?_ ?_
            rotate_left
            ·intro w'
             go_simp
             with_reducible rfl
            rotate_left
            ·simp only [Act.put, List.setIfInBounds_toArray, List.set_cons_zero, List.set_cons_succ, i64_w, i32_w]
             rfl
            refine pure_ (i := 17) (N := some 53) (v := ?_) (a' := ?_) #[true, true, true, true, true, true, true, true, true, true, true, true, true, true, true, true, true, true] rfl rfl (any_of HT_.out (by kernel_rfl)) (fun _ _ _ h => h) (Or.inl ⟨by rfl, ?_⟩) ?_ ?_
            rotate_left
            ·intro w'
             go_simp
             with_reducible rfl
            rotate_left
            ·simp only [Act.put, List.setIfInBounds_toArray, List.set_cons_zero, List.set_cons_succ, i64_w, i32_w]
             rfl
            refine done_ (done_of HT_.out (by kernel_rfl)) ?_
            try go_wp2
            go_roundg k1
            case measure => have := HK1.out; omega
            case rel => exact ⟨(wrap64 (x32_1 + 1)), (by first | rfl | (simp; done) | (simp [*]; done)), H', ⟨by have := HK1.out; omega⟩, ⟨by (with_reducible repeat (first | apply r_a | apply r_n | apply r_d)); exact Kd.R_mono HO_30.out (fun _ hk => ⟨hk.1.1.1.1.1, hk.1.1.1.1.2⟩)⟩, ⟨by (with_reducible repeat (first | apply r_a | apply r_n | apply r_d)); exact Kd.R_mono HO_423001.out (fun _ hk => ⟨hk.1.1.1.1.1, hk.1.1.1.1.2⟩)⟩, ⟨by (with_reducible repeat (first | apply r_a | apply r_n | apply r_d)); exact Kd.R_mono HO_434001.out (fun _ hk => ⟨hk.1.1.1.1.1, hk.1.1.1.1.2⟩)⟩, ⟨by (with_reducible repeat (first | refine blk_drewN ?_ _ | refine blk_drew ?_ | refine blk_alloc ?_ _)); exact BK422.out⟩, ⟨by (with_reducible repeat (first | refine blk_drewN ?_ _ | refine blk_drew ?_ | refine blk_alloc ?_ _)); exact BK433.out⟩, ⟨by repeat (first | (with_reducible first | exact HB.out | apply b_a | apply b_n | apply b_d | refine below_set ?_ GE422.out | refine below_set ?_ GE433.out) | exact HB.out)⟩⟩
           ·replace c45 := Bool.eq_false_iff.mpr c45
            subst c45
            have H1 : (some false) = some r := by rw [if_neg (show ¬ (false = true) by decide)] at H; exact H
            clear H
            have H := H1
            clear H1
            obtain rfl := Option.some.inj H
            have p448 : 0 ≤ (x32_1 : Int) := of_decide_eq_true (by assumption)
            have q448 : x32_1 < (y445.length : Int) := of_decide_eq_true (by assumption)
            obtain ⟨ad448, e448, hx448_0⟩ := Kd.at_string (Kd.R_reads' HO_30.out).2.2 x32_1 p448 q448
            cases e448
            replace p448 := eq_true p448
            replace q448 := eq_true q448
            try go_wp2
            have n0_ := mk0 (r_d HO_30.out)
            have n1_ := mk0 (r_d HO_423001.out)
            have n2_ := mk0 (r_d HO_434001.out)
            have n3_ := mk0 (blk_drew BK422.out)
            have n4_ := mk0 (blk_drew BK433.out)
            have n5_ := mk0 (b_d HB.out)
            clear HO_30
            clear HO_423001
            clear HO_434001
            clear BK422
            clear BK433
            clear HB
            have HO_30 := n0_
            have HO_423001 := n1_
            have HO_434001 := n2_
            have BK422 := n3_
            have BK433 := n4_
            have HB := n5_
            clear n0_ n1_ n2_ n3_ n4_ n5_
            refine start_ (n := 18) (S := fun w' => w'.cell? ⟨gb433, 0, none⟩ = some (.string t428) ∧ w'.cell? ⟨gb433, 1, none⟩ = some (.slice Ao24 t429.length co24)) (ds := []) #[false, false, false, false, false, false, false, false, false, false, false, false, false, false, false, false, false, false] (by kernel_rfl) rfl rfl ⟨(blk_cell BK433.out 0).trans rfl, (blk_cell BK433.out 1).trans rfl⟩ (fun hHeld => ?_); refine with_tabW w6_ClassificationLeaves.tab8 w6_ClassificationLeaves.bits8 (fun HT_ HW_ => ?_)
            generalize wr.drew = w55 at HO_30 HO_423001 HO_434001 BK422 BK433 HB hHeld ⊢
            refine pure_ (i := 1) (N := some 37) (v := ?_) (a' := ?_) #[false, true, false, false, false, false, false, false, false, false, false, false, false, false, false, false, false, false] rfl rfl (any_of HT_.out (by kernel_rfl)) (fun _ _ _ h => h) (Or.inl ⟨by rfl, ?_⟩) ?_ ?_
            rotate_left
            ·intro w'
             go_simp
             with_reducible rfl
            rotate_left
            ·simp only [Act.put, List.setIfInBounds_toArray, List.set_cons_zero, List.set_cons_succ, i64_w, i32_w]
             rfl
            refine pure_ (i := 4) (N := some 40) (v := ?_) (a' := ?_) #[false, true, false, false, true, false, false, false, false, false, false, false, false, false, false, false, false, false] rfl rfl (any_of HT_.out (by kernel_rfl)) (fun _ _ _ h => h) (Or.inl ⟨by rfl, ?_⟩) ?_ ?_
            rotate_left
            ·intro w'
             go_simp
             with_reducible rfl
            rotate_left
            ·simp only [Act.put, List.setIfInBounds_toArray, List.set_cons_zero, List.set_cons_succ, i64_w, i32_w]
             rfl
            refine take_ (i := 0) (N := some 36) (v := ?_) (a' := ?_) #[true, true, false, false, true, false, false, false, false, false, false, false, false, false, false, false, false, false] rfl rfl (take_ofW HT_.out HW_.out (by kernel_rfl)) (fun _ _ _ h => h) (Or.inl ⟨by rfl, ?_⟩) hHeld ?_ ?_
            rotate_left
            ·rintro w' ⟨s0, s1⟩
             go_simp
             with_reducible rfl
            rotate_left
            ·simp only [Act.put, List.setIfInBounds_toArray, List.set_cons_zero, List.set_cons_succ, i64_w, i32_w]
             rfl
            refine take_ (i := 3) (N := some 39) (v := ?_) (a' := ?_) #[true, true, false, true, true, false, false, false, false, false, false, false, false, false, false, false, false, false] rfl rfl (take_ofW HT_.out HW_.out (by kernel_rfl)) (fun _ _ _ h => h) (Or.inl ⟨by rfl, ?_⟩) hHeld ?_ ?_
            rotate_left
            ·rintro w' ⟨s0, s1⟩
             go_simp
             with_reducible rfl
            rotate_left
            ·simp only [Act.put, List.setIfInBounds_toArray, List.set_cons_zero, List.set_cons_succ, i64_w, i32_w]
             rfl
            refine one_ (i := 2) (N := some 38) #[true, true, true, true, true, false, false, false, false, false, false, false, false, false, false, false, false, false] rfl rfl (one_of HT_.out (by kernel_rfl)) (by decide) (fun K hK => ?_)
            refine goes_ Tryz.func8 (by kernel_rfl) rfl #[.agg #[.string t428, .slice Ao24 t429.length co24], .string (rdOf ByteArray.empty y445 x32_1)] (by rfl) rfl rfl (by (try simp only [List.map_toArray, List.map_cons, List.map_nil]); first | done | rfl | (simp only [List.length_drop, List.length_take]; rfl)) ?_
            with_reducible refine (c_Children.calls k1 t428 _ _ t429 (rdOf ByteArray.empty y445 x32_1) t449 _ ?side1 ?side2 ?side3 A38.out).mono ?_
            (case side1 => repeat (first | exact (Kd.R_reads' HO_434001.out).2.2 | (with_reducible refine Kd.C_alloc ?_ _) | (with_reducible refine Kd.C_drewN ?_ _) | (with_reducible refine Kd.C_drew ?_)))
            (case side2 => exact (Kd.R_reads' HO_434001.out).2.1)
            (case side3 => first | exact HG.out | exact GL.below HG.out (by repeat (with_reducible first | exact HB.out | apply b_a | apply b_n | apply b_d | refine below_set ?_ GE422.out | refine below_set ?_ GE433.out)))
            rintro e w56 ⟨v450, rfl, ho0, hb⟩
            refine ⟨_, rfl, ?_⟩
            have n0_ := mk0 (Kd.R_elder' (by (with_reducible repeat (first | apply r_a | apply r_n | apply r_d)); exact HO_30.out) (Kd.R_base ho0) hb)
            have n1_ := mk0 (Kd.R_elder' (by (with_reducible repeat (first | apply r_a | apply r_n | apply r_d)); exact HO_423001.out) (Kd.R_base ho0) hb)
            have n2_ := mk0 (Kd.R_elder' (by (with_reducible repeat (first | apply r_a | apply r_n | apply r_d)); exact HO_434001.out) (Kd.R_base ho0) hb)
            have n3_ := mk0 (Kd.R_lower (Kd.R_new' (Kd.R_new' (Kd.R_new' ho0 (Kd.R_lt (by (with_reducible repeat (first | apply r_a | apply r_n | apply r_d)); exact HO_30.out))) (Kd.R_lt (by (with_reducible repeat (first | apply r_a | apply r_n | apply r_d)); exact HO_423001.out))) (Kd.R_lt (by (with_reducible repeat (first | apply r_a | apply r_n | apply r_d)); exact HO_434001.out))) (below_size (by repeat (with_reducible first | exact HB.out | apply b_a | apply b_n | apply b_d | refine below_set ?_ GE422.out | refine below_set ?_ GE433.out))))
            have n4_ := mk0 (blk_below (g := gb422) (o := .cells #[.string t424, .slice Ao18 t425.length co18] 24 (0, 0)) (by (with_reducible repeat (first | refine blk_drewN ?_ _ | refine blk_drew ?_ | refine blk_alloc ?_ _)); exact BK422.out) hb)
            have n5_ := mk0 (blk_below (g := gb433) (o := .cells #[.string t428, .slice Ao24 t429.length co24] 24 (0, 0)) (by (with_reducible repeat (first | refine blk_drewN ?_ _ | refine blk_drew ?_ | refine blk_alloc ?_ _)); exact BK433.out) hb)
            have n6_ := mk0 (below_step (by repeat (with_reducible first | exact HB.out | apply b_a | apply b_n | apply b_d | refine below_set ?_ GE422.out | refine below_set ?_ GE433.out)) hb)
            clear HO_30
            clear HO_423001
            clear HO_434001
            clear BK422
            clear BK433
            clear HB
            have HO_30 := n0_
            have HO_423001 := n1_
            have HO_434001 := n2_
            have HO451 := n3_
            have BK422 := n4_
            have BK433 := n5_
            have HB := n6_
            clear n0_ n1_ n2_ n3_ n4_ n5_ n6_
            (try clear hb)
            (try clear hb2)
            (try clear hk)
            (try clear hi)
            (try clear ho0)
            refine hK.out _ _ ⟨(blk_cell BK433.out 0).trans rfl, (blk_cell BK433.out 1).trans rfl⟩ (fun hHeld => ?_)
            clear hK K
            refine norm_ (a' := ?_) ?_ ?_
            rotate_left
            ·show Act.put _ (some 38) _ = _
             simp only [Act.put, List.setIfInBounds_toArray, List.set_cons_zero, List.set_cons_succ, i64_w, i32_w]
             rfl
            refine one_ (i := 5) (N := some 41) #[true, true, true, true, true, true, false, false, false, false, false, false, false, false, false, false, false, false] rfl rfl (one_of HT_.out (by kernel_rfl)) (by decide) (fun K hK => ?_)
            refine goes_ Tryz.func9 (by kernel_rfl) rfl #[.agg #[.string t428, .slice Ao24 t429.length co24], .string (rdOf ByteArray.empty y445 x32_1)] (by rfl) rfl rfl (by (try simp only [List.map_toArray, List.map_cons, List.map_nil]); first | done | rfl | (simp only [List.length_drop, List.length_take]; rfl)) ?_
            with_reducible refine (r6_Children.calls k1 t428 _ _ t429 (rdOf ByteArray.empty y445 x32_1) t452 _ ?side1 ?side2 A39.out).mono ?_
            (case side1 => repeat (first | exact (Kd.R_reads' HO_434001.out).2.2 | (with_reducible refine Kd.C_alloc ?_ _) | (with_reducible refine Kd.C_drewN ?_ _) | (with_reducible refine Kd.C_drew ?_)))
            (case side2 => exact (Kd.R_reads' HO_434001.out).2.1)
            rintro e w57 ⟨v453, rfl, ho0, hb⟩
            refine ⟨_, rfl, ?_⟩
            have n0_ := mk0 (Kd.R_elder' (by (with_reducible repeat (first | apply r_a | apply r_n | apply r_d)); exact HO_30.out) (Kd.R_base ho0) hb)
            have n1_ := mk0 (Kd.R_elder' (by (with_reducible repeat (first | apply r_a | apply r_n | apply r_d)); exact HO_423001.out) (Kd.R_base ho0) hb)
            have n2_ := mk0 (Kd.R_elder' (by (with_reducible repeat (first | apply r_a | apply r_n | apply r_d)); exact HO_434001.out) (Kd.R_base ho0) hb)
            have n3_ := mk0 (Kd.R_elder' (by (with_reducible repeat (first | apply r_a | apply r_n | apply r_d)); exact HO451.out) (Kd.R_base ho0) hb)
            have n4_ := mk0 (Kd.R_lower (Kd.R_new' (Kd.R_new' (Kd.R_new' (Kd.R_new' ho0 (Kd.R_lt (by (with_reducible repeat (first | apply r_a | apply r_n | apply r_d)); exact HO_30.out))) (Kd.R_lt (by (with_reducible repeat (first | apply r_a | apply r_n | apply r_d)); exact HO_423001.out))) (Kd.R_lt (by (with_reducible repeat (first | apply r_a | apply r_n | apply r_d)); exact HO_434001.out))) (Kd.R_lt (by (with_reducible repeat (first | apply r_a | apply r_n | apply r_d)); exact HO451.out))) (below_size (by repeat (with_reducible first | exact HB.out | apply b_a | apply b_n | apply b_d | refine below_set ?_ GE422.out | refine below_set ?_ GE433.out))))
            have n5_ := mk0 (blk_below (g := gb422) (o := .cells #[.string t424, .slice Ao18 t425.length co18] 24 (0, 0)) (by (with_reducible repeat (first | refine blk_drewN ?_ _ | refine blk_drew ?_ | refine blk_alloc ?_ _)); exact BK422.out) hb)
            have n6_ := mk0 (blk_below (g := gb433) (o := .cells #[.string t428, .slice Ao24 t429.length co24] 24 (0, 0)) (by (with_reducible repeat (first | refine blk_drewN ?_ _ | refine blk_drew ?_ | refine blk_alloc ?_ _)); exact BK433.out) hb)
            have n7_ := mk0 (below_step (by repeat (with_reducible first | exact HB.out | apply b_a | apply b_n | apply b_d | refine below_set ?_ GE422.out | refine below_set ?_ GE433.out)) hb)
            clear HO_30
            clear HO_423001
            clear HO_434001
            clear HO451
            clear BK422
            clear BK433
            clear HB
            have HO_30 := n0_
            have HO_423001 := n1_
            have HO_434001 := n2_
            have HO451 := n3_
            have HO454 := n4_
            have BK422 := n5_
            have BK433 := n6_
            have HB := n7_
            clear n0_ n1_ n2_ n3_ n4_ n5_ n6_ n7_
            (try clear hb)
            (try clear hb2)
            (try clear hk)
            (try clear hi)
            (try clear ho0)
            obtain ⟨Ao58, co58, eo58⟩ := Kd.R_slice HO451.out
            (first | subst eo58 | (injection eo58 with f1_ f2_ f3_; have f4_ := f1_.symm; have f5_ := f3_.symm; clear f1_ f2_ f3_; subst f4_; subst f5_))
            obtain ⟨Ao59, co59, eo59⟩ := Kd.R_slice HO454.out
            (first | subst eo59 | (injection eo59 with f1_ f2_ f3_; have f4_ := f1_.symm; have f5_ := f3_.symm; clear f1_ f2_ f3_; subst f4_; subst f5_))
            refine hK.out _ _ ⟨(blk_cell BK433.out 0).trans rfl, (blk_cell BK433.out 1).trans rfl⟩ (fun hHeld => ?_)
            clear hK K
            refine norm_ (a' := ?_) ?_ ?_
            rotate_left
            ·show Act.put _ (some 41) _ = _
             simp only [Act.put, List.setIfInBounds_toArray, List.set_cons_zero, List.set_cons_succ, i64_w, i32_w]
             rfl
            refine one_ (i := 6) (N := some 42) #[true, true, true, true, true, true, true, false, false, false, false, false, false, false, false, false, false, false] rfl rfl (one_of HT_.out (by kernel_rfl)) (by decide) (fun K hK => ?_)
            refine goes_ Tryz.func7 (by kernel_rfl) rfl #[.slice Ao58 t449.length co58, .slice Ao59 t452.length co59] (by rfl) rfl rfl (by (try simp only [List.map_toArray, List.map_cons, List.map_nil]); first | done | rfl | (simp only [List.length_drop, List.length_take]; rfl)) ?_
            with_reducible refine (r6_SameStrings.calls k1 _ _ t449 _ _ t452 true _ ?side1 ?side2 ?side3 ?side4 A40.out).mono ?_
            (case side1 => repeat (first | exact (Kd.R_reads' HO451.out).2.2 | (with_reducible refine Kd.C_alloc ?_ _) | (with_reducible refine Kd.C_drewN ?_ _) | (with_reducible refine Kd.C_drew ?_)))
            (case side2 => exact (Kd.R_reads' HO451.out).2.1)
            (case side3 => repeat (first | exact (Kd.R_reads' HO454.out).2.2 | (with_reducible refine Kd.C_alloc ?_ _) | (with_reducible refine Kd.C_drewN ?_ _) | (with_reducible refine Kd.C_drew ?_)))
            (case side4 => exact (Kd.R_reads' HO454.out).2.1)
            rintro e w' ⟨rfl, ⟨nd, rfl⟩⟩
            refine ⟨_, rfl, ?_⟩
            refine hK.out _ _ ⟨(blk_cell BK433.out 0).trans rfl, (blk_cell BK433.out 1).trans rfl⟩ (fun hHeld => ?_)
            clear hK K
            refine norm_ (a' := ?_) ?_ ?_
            rotate_left
            ·show Act.put _ (some 42) _ = _
             simp only [Act.put, List.setIfInBounds_toArray, List.set_cons_zero, List.set_cons_succ, i64_w, i32_w]
             rfl
            refine pure_ (i := 7) (N := some 43) (v := ?_) (a' := ?_) #[true, true, true, true, true, true, true, true, false, false, false, false, false, false, false, false, false, false] rfl rfl (any_of HT_.out (by kernel_rfl)) (fun _ _ _ h => h) (Or.inl ⟨by rfl, ?_⟩) ?_ ?_
            rotate_left
            ·intro w'
             go_simp
             with_reducible rfl
            rotate_left
            ·simp only [Act.put, List.setIfInBounds_toArray, List.set_cons_zero, List.set_cons_succ, i64_w, i32_w]
             rfl
            refine pure_ (i := 8) (N := some 44) (v := ?_) (a' := ?_) #[true, true, true, true, true, true, true, true, true, false, false, false, false, false, false, false, false, false] rfl rfl (any_of HT_.out (by kernel_rfl)) (fun _ _ _ h => h) (Or.inl ⟨by rfl, ?_⟩) ?_ ?_
            rotate_left
            ·intro w'
             go_simp
             with_reducible rfl
            rotate_left
            ·simp only [Act.put, List.setIfInBounds_toArray, List.set_cons_zero, List.set_cons_succ, i64_w, i32_w]
             rfl
            refine pure_ (i := 10) (N := some 46) (v := ?_) (a' := ?_) #[true, true, true, true, true, true, true, true, true, false, true, false, false, false, false, false, false, false] rfl rfl (any_of HT_.out (by kernel_rfl)) (fun _ _ _ h => h) (Or.inl ⟨by rfl, ?_⟩) ?_ ?_
            rotate_left
            ·intro w'
             go_simp
             with_reducible rfl
            rotate_left
            ·simp only [Act.put, List.setIfInBounds_toArray, List.set_cons_zero, List.set_cons_succ, i64_w, i32_w]
             rfl
            refine pure_ (i := 13) (N := some 49) (v := ?_) (a' := ?_) #[true, true, true, true, true, true, true, true, true, false, true, false, false, true, false, false, false, false] rfl rfl (any_of HT_.out (by kernel_rfl)) (fun _ _ _ h => h) (Or.inl ⟨by rfl, ?_⟩) ?_ ?_
            rotate_left
            ·intro w'
             go_simp
             with_reducible rfl
            rotate_left
            ·simp only [Act.put, List.setIfInBounds_toArray, List.set_cons_zero, List.set_cons_succ, i64_w, i32_w]
             rfl
            refine take_ (i := 9) (N := some 45) (v := ?_) (a' := ?_) #[true, true, true, true, true, true, true, true, true, true, true, false, false, true, false, false, false, false] rfl rfl (take_ofW HT_.out HW_.out (by kernel_rfl)) (fun _ _ _ h => h) (Or.inl ⟨by rfl, ?_⟩) hHeld ?_ ?_
            rotate_left
            ·rintro w' ⟨s0, s1⟩
             go_simp
             with_reducible rfl
            rotate_left
            ·simp only [Act.put, List.setIfInBounds_toArray, List.set_cons_zero, List.set_cons_succ, i64_w, i32_w]
             rfl
            refine take_ (i := 12) (N := some 48) (v := ?_) (a' := ?_) #[true, true, true, true, true, true, true, true, true, true, true, false, true, true, false, false, false, false] rfl rfl (take_ofW HT_.out HW_.out (by kernel_rfl)) (fun _ _ _ h => h) (Or.inl ⟨by rfl, ?_⟩) hHeld ?_ ?_
            rotate_left
            ·rintro w' ⟨s0, s1⟩
             go_simp
             with_reducible rfl
            rotate_left
            ·simp only [Act.put, List.setIfInBounds_toArray, List.set_cons_zero, List.set_cons_succ, i64_w, i32_w]
             rfl
            refine one_ (i := 11) (N := some 47) #[true, true, true, true, true, true, true, true, true, true, true, true, true, true, false, false, false, false] rfl rfl (one_of HT_.out (by kernel_rfl)) (by decide) (fun K hK => ?_)
            refine goes_ Tryz.func10 (by kernel_rfl) rfl #[.agg #[.string t428, .slice Ao24 t429.length co24], .string (rdOf ByteArray.empty y445 x32_1)] (by rfl) rfl rfl (by (try simp only [List.map_toArray, List.map_cons, List.map_nil]); first | done | rfl | (simp only [List.length_drop, List.length_take]; rfl)) ?_
            with_reducible refine (c_Leaves.calls k1 t428 _ _ t429 (rdOf ByteArray.empty y445 x32_1) t456 _ ?side1 ?side2 ?side3 A42.out).mono ?_
            (case side1 => repeat (first | exact (Kd.R_reads' HO_434001.out).2.2 | (with_reducible refine Kd.C_alloc ?_ _) | (with_reducible refine Kd.C_drewN ?_ _) | (with_reducible refine Kd.C_drew ?_)))
            (case side2 => exact (Kd.R_reads' HO_434001.out).2.1)
            (case side3 => first | exact HG.out | exact GL.below HG.out (by repeat (with_reducible first | exact HB.out | apply b_a | apply b_n | apply b_d | refine below_set ?_ GE422.out | refine below_set ?_ GE433.out)))
            rintro e w60 ⟨v457, rfl, ho0, hb⟩
            refine ⟨_, rfl, ?_⟩
            have n0_ := mk0 (Kd.R_elder' (by (with_reducible repeat (first | apply r_a | apply r_n | apply r_d)); exact HO_30.out) (Kd.R_base ho0) hb)
            have n1_ := mk0 (Kd.R_elder' (by (with_reducible repeat (first | apply r_a | apply r_n | apply r_d)); exact HO_423001.out) (Kd.R_base ho0) hb)
            have n2_ := mk0 (Kd.R_elder' (by (with_reducible repeat (first | apply r_a | apply r_n | apply r_d)); exact HO_434001.out) (Kd.R_base ho0) hb)
            have n3_ := mk0 (Kd.R_elder' (by (with_reducible repeat (first | apply r_a | apply r_n | apply r_d)); exact HO451.out) (Kd.R_base ho0) hb)
            have n4_ := mk0 (Kd.R_elder' (by (with_reducible repeat (first | apply r_a | apply r_n | apply r_d)); exact HO454.out) (Kd.R_base ho0) hb)
            have n5_ := mk0 (Kd.R_lower (Kd.R_new' (Kd.R_new' (Kd.R_new' (Kd.R_new' (Kd.R_new' ho0 (Kd.R_lt (by (with_reducible repeat (first | apply r_a | apply r_n | apply r_d)); exact HO_30.out))) (Kd.R_lt (by (with_reducible repeat (first | apply r_a | apply r_n | apply r_d)); exact HO_423001.out))) (Kd.R_lt (by (with_reducible repeat (first | apply r_a | apply r_n | apply r_d)); exact HO_434001.out))) (Kd.R_lt (by (with_reducible repeat (first | apply r_a | apply r_n | apply r_d)); exact HO451.out))) (Kd.R_lt (by (with_reducible repeat (first | apply r_a | apply r_n | apply r_d)); exact HO454.out))) (below_size (by repeat (with_reducible first | exact HB.out | apply b_a | apply b_n | apply b_d | refine below_set ?_ GE422.out | refine below_set ?_ GE433.out))))
            have n6_ := mk0 (blk_below (g := gb422) (o := .cells #[.string t424, .slice Ao18 t425.length co18] 24 (0, 0)) (by (with_reducible repeat (first | refine blk_drewN ?_ _ | refine blk_drew ?_ | refine blk_alloc ?_ _)); exact BK422.out) hb)
            have n7_ := mk0 (blk_below (g := gb433) (o := .cells #[.string t428, .slice Ao24 t429.length co24] 24 (0, 0)) (by (with_reducible repeat (first | refine blk_drewN ?_ _ | refine blk_drew ?_ | refine blk_alloc ?_ _)); exact BK433.out) hb)
            have n8_ := mk0 (below_step (by repeat (with_reducible first | exact HB.out | apply b_a | apply b_n | apply b_d | refine below_set ?_ GE422.out | refine below_set ?_ GE433.out)) hb)
            clear HO_30
            clear HO_423001
            clear HO_434001
            clear HO451
            clear HO454
            clear BK422
            clear BK433
            clear HB
            have HO_30 := n0_
            have HO_423001 := n1_
            have HO_434001 := n2_
            have HO451 := n3_
            have HO454 := n4_
            have HO458 := n5_
            have BK422 := n6_
            have BK433 := n7_
            have HB := n8_
            clear n0_ n1_ n2_ n3_ n4_ n5_ n6_ n7_ n8_
            (try clear hb)
            (try clear hb2)
            (try clear hk)
            (try clear hi)
            (try clear ho0)
            refine hK.out _ _ ⟨(blk_cell BK433.out 0).trans rfl, (blk_cell BK433.out 1).trans rfl⟩ (fun hHeld => ?_)
            clear hK K
            refine norm_ (a' := ?_) ?_ ?_
            rotate_left
            ·show Act.put _ (some 47) _ = _
             simp only [Act.put, List.setIfInBounds_toArray, List.set_cons_zero, List.set_cons_succ, i64_w, i32_w]
             rfl
            refine one_ (i := 14) (N := some 50) #[true, true, true, true, true, true, true, true, true, true, true, true, true, true, true, false, false, false] rfl rfl (one_of HT_.out (by kernel_rfl)) (by decide) (fun K hK => ?_)
            refine goes_ Tryz.func11 (by kernel_rfl) rfl #[.agg #[.string t428, .slice Ao24 t429.length co24], .string (rdOf ByteArray.empty y445 x32_1)] (by rfl) rfl rfl (by (try simp only [List.map_toArray, List.map_cons, List.map_nil]); first | done | rfl | (simp only [List.length_drop, List.length_take]; rfl)) ?_
            with_reducible refine (r6_Leaves.calls k1 t428 _ _ t429 (rdOf ByteArray.empty y445 x32_1) t459 _ ?side1 ?side2 A43.out).mono ?_
            (case side1 => repeat (first | exact (Kd.R_reads' HO_434001.out).2.2 | (with_reducible refine Kd.C_alloc ?_ _) | (with_reducible refine Kd.C_drewN ?_ _) | (with_reducible refine Kd.C_drew ?_)))
            (case side2 => exact (Kd.R_reads' HO_434001.out).2.1)
            rintro e w61 ⟨v460, rfl, ho0, hb⟩
            refine ⟨_, rfl, ?_⟩
            have n0_ := mk0 (Kd.R_elder' (by (with_reducible repeat (first | apply r_a | apply r_n | apply r_d)); exact HO_30.out) (Kd.R_base ho0) hb)
            have n1_ := mk0 (Kd.R_elder' (by (with_reducible repeat (first | apply r_a | apply r_n | apply r_d)); exact HO_423001.out) (Kd.R_base ho0) hb)
            have n2_ := mk0 (Kd.R_elder' (by (with_reducible repeat (first | apply r_a | apply r_n | apply r_d)); exact HO_434001.out) (Kd.R_base ho0) hb)
            have n3_ := mk0 (Kd.R_elder' (by (with_reducible repeat (first | apply r_a | apply r_n | apply r_d)); exact HO451.out) (Kd.R_base ho0) hb)
            have n4_ := mk0 (Kd.R_elder' (by (with_reducible repeat (first | apply r_a | apply r_n | apply r_d)); exact HO454.out) (Kd.R_base ho0) hb)
            have n5_ := mk0 (Kd.R_elder' (by (with_reducible repeat (first | apply r_a | apply r_n | apply r_d)); exact HO458.out) (Kd.R_base ho0) hb)
            have n6_ := mk0 (Kd.R_lower (Kd.R_new' (Kd.R_new' (Kd.R_new' (Kd.R_new' (Kd.R_new' (Kd.R_new' ho0 (Kd.R_lt (by (with_reducible repeat (first | apply r_a | apply r_n | apply r_d)); exact HO_30.out))) (Kd.R_lt (by (with_reducible repeat (first | apply r_a | apply r_n | apply r_d)); exact HO_423001.out))) (Kd.R_lt (by (with_reducible repeat (first | apply r_a | apply r_n | apply r_d)); exact HO_434001.out))) (Kd.R_lt (by (with_reducible repeat (first | apply r_a | apply r_n | apply r_d)); exact HO451.out))) (Kd.R_lt (by (with_reducible repeat (first | apply r_a | apply r_n | apply r_d)); exact HO454.out))) (Kd.R_lt (by (with_reducible repeat (first | apply r_a | apply r_n | apply r_d)); exact HO458.out))) (below_size (by repeat (with_reducible first | exact HB.out | apply b_a | apply b_n | apply b_d | refine below_set ?_ GE422.out | refine below_set ?_ GE433.out))))
            have n7_ := mk0 (blk_below (g := gb422) (o := .cells #[.string t424, .slice Ao18 t425.length co18] 24 (0, 0)) (by (with_reducible repeat (first | refine blk_drewN ?_ _ | refine blk_drew ?_ | refine blk_alloc ?_ _)); exact BK422.out) hb)
            have n8_ := mk0 (blk_below (g := gb433) (o := .cells #[.string t428, .slice Ao24 t429.length co24] 24 (0, 0)) (by (with_reducible repeat (first | refine blk_drewN ?_ _ | refine blk_drew ?_ | refine blk_alloc ?_ _)); exact BK433.out) hb)
            have n9_ := mk0 (below_step (by repeat (with_reducible first | exact HB.out | apply b_a | apply b_n | apply b_d | refine below_set ?_ GE422.out | refine below_set ?_ GE433.out)) hb)
            clear HO_30
            clear HO_423001
            clear HO_434001
            clear HO451
            clear HO454
            clear HO458
            clear BK422
            clear BK433
            clear HB
            have HO_30 := n0_
            have HO_423001 := n1_
            have HO_434001 := n2_
            have HO451 := n3_
            have HO454 := n4_
            have HO458 := n5_
            have HO461 := n6_
            have BK422 := n7_
            have BK433 := n8_
            have HB := n9_
            clear n0_ n1_ n2_ n3_ n4_ n5_ n6_ n7_ n8_ n9_
            (try clear hb)
            (try clear hb2)
            (try clear hk)
            (try clear hi)
            (try clear ho0)
            obtain ⟨Ao62, co62, eo62⟩ := Kd.R_slice HO458.out
            (first | subst eo62 | (injection eo62 with f1_ f2_ f3_; have f4_ := f1_.symm; have f5_ := f3_.symm; clear f1_ f2_ f3_; subst f4_; subst f5_))
            obtain ⟨Ao63, co63, eo63⟩ := Kd.R_slice HO461.out
            (first | subst eo63 | (injection eo63 with f1_ f2_ f3_; have f4_ := f1_.symm; have f5_ := f3_.symm; clear f1_ f2_ f3_; subst f4_; subst f5_))
            refine hK.out _ _ ⟨(blk_cell BK433.out 0).trans rfl, (blk_cell BK433.out 1).trans rfl⟩ (fun hHeld => ?_)
            clear hK K
            refine norm_ (a' := ?_) ?_ ?_
            rotate_left
            ·show Act.put _ (some 50) _ = _
             simp only [Act.put, List.setIfInBounds_toArray, List.set_cons_zero, List.set_cons_succ, i64_w, i32_w]
             rfl
            refine one_ (i := 15) (N := some 51) #[true, true, true, true, true, true, true, true, true, true, true, true, true, true, true, true, false, false] rfl rfl (one_of HT_.out (by kernel_rfl)) (by decide) (fun K hK => ?_)
            refine goes_ Tryz.func7 (by kernel_rfl) rfl #[.slice Ao62 t456.length co62, .slice Ao63 t459.length co63] (by rfl) rfl rfl (by (try simp only [List.map_toArray, List.map_cons, List.map_nil]); first | done | rfl | (simp only [List.length_drop, List.length_take]; rfl)) ?_
            with_reducible refine (r6_SameStrings.calls k1 _ _ t456 _ _ t459 false _ ?side1 ?side2 ?side3 ?side4 A44.out).mono ?_
            (case side1 => repeat (first | exact (Kd.R_reads' HO458.out).2.2 | (with_reducible refine Kd.C_alloc ?_ _) | (with_reducible refine Kd.C_drewN ?_ _) | (with_reducible refine Kd.C_drew ?_)))
            (case side2 => exact (Kd.R_reads' HO458.out).2.1)
            (case side3 => repeat (first | exact (Kd.R_reads' HO461.out).2.2 | (with_reducible refine Kd.C_alloc ?_ _) | (with_reducible refine Kd.C_drewN ?_ _) | (with_reducible refine Kd.C_drew ?_)))
            (case side4 => exact (Kd.R_reads' HO461.out).2.1)
            rintro e w' ⟨rfl, ⟨nd, rfl⟩⟩
            refine ⟨_, rfl, ?_⟩
            refine hK.out _ _ ⟨(blk_cell BK433.out 0).trans rfl, (blk_cell BK433.out 1).trans rfl⟩ (fun hHeld => ?_)
            clear hK K
            refine norm_ (a' := ?_) ?_ ?_
            rotate_left
            ·show Act.put _ (some 51) _ = _
             simp only [Act.put, List.setIfInBounds_toArray, List.set_cons_zero, List.set_cons_succ, i64_w, i32_w]
             rfl
            refine pure_ (i := 16) (N := some 52) (v := ?_) (a' := ?_) #[true, true, true, true, true, true, true, true, true, true, true, true, true, true, true, true, true, false] rfl rfl (any_of HT_.out (by kernel_rfl)) (fun _ _ _ h => h) (Or.inl ⟨by rfl, ?_⟩) ?_ ?_
            rotate_left
            ·intro w'
             go_simp
             with_reducible rfl
            rotate_left
            ·simp only [Act.put, List.setIfInBounds_toArray, List.set_cons_zero, List.set_cons_succ, i64_w, i32_w]
             rfl
            refine pure_ (i := 17) (N := some 53) (v := ?_) (a' := ?_) #[true, true, true, true, true, true, true, true, true, true, true, true, true, true, true, true, true, true] rfl rfl (any_of HT_.out (by kernel_rfl)) (fun _ _ _ h => h) (Or.inl ⟨by rfl, ?_⟩) ?_ ?_
            rotate_left
            ·intro w'
             go_simp
             with_reducible rfl
            rotate_left
            ·simp only [Act.put, List.setIfInBounds_toArray, List.set_cons_zero, List.set_cons_succ, i64_w, i32_w]
             rfl
            refine done_ (done_of HT_.out (by kernel_rfl)) ?_
            try go_wp2
            go_ret
            exact ⟨by first | rfl | (simp [errW_none, errW_some] <;> rfl) | (simp only [← hji5]; first | rfl | (simp [errW_none, errW_some] <;> rfl)) | (simp [*, errW_none, errW_some] <;> rfl), by repeat (first | (with_reducible first | exact HB.out | apply b_a | apply b_n | apply b_d | refine below_set ?_ GE422.out | refine below_set ?_ GE433.out) | exact HB.out)⟩
          ·replace c41 := Bool.eq_false_iff.mpr c41
           subst c41
           have H1 : (some false) = some r := by rw [if_neg (show ¬ (false = true) by decide)] at H; exact H
           clear H
           have H := H1
           clear H1
           obtain rfl := Option.some.inj H
           have p448 : 0 ≤ (x32_1 : Int) := of_decide_eq_true (by assumption)
           have q448 : x32_1 < (y445.length : Int) := of_decide_eq_true (by assumption)
           obtain ⟨ad448, e448, hx448_0⟩ := Kd.at_string (Kd.R_reads' HO_30.out).2.2 x32_1 p448 q448
           cases e448
           replace p448 := eq_true p448
           replace q448 := eq_true q448
           try go_wp2
           have n0_ := mk0 (r_d HO_30.out)
           have n1_ := mk0 (r_d HO_423001.out)
           have n2_ := mk0 (r_d HO_434001.out)
           have n3_ := mk0 (blk_drew BK422.out)
           have n4_ := mk0 (blk_drew BK433.out)
           have n5_ := mk0 (b_d HB.out)
           clear HO_30
           clear HO_423001
           clear HO_434001
           clear BK422
           clear BK433
           clear HB
           have HO_30 := n0_
           have HO_423001 := n1_
           have HO_434001 := n2_
           have BK422 := n3_
           have BK433 := n4_
           have HB := n5_
           clear n0_ n1_ n2_ n3_ n4_ n5_
           refine start_ (n := 18) (S := fun w' => w'.cell? ⟨gb433, 0, none⟩ = some (.string t428) ∧ w'.cell? ⟨gb433, 1, none⟩ = some (.slice Ao24 t429.length co24)) (ds := []) #[false, false, false, false, false, false, false, false, false, false, false, false, false, false, false, false, false, false] (by kernel_rfl) rfl rfl ⟨(blk_cell BK433.out 0).trans rfl, (blk_cell BK433.out 1).trans rfl⟩ (fun hHeld => ?_); refine with_tabW w6_ClassificationLeaves.tab8 w6_ClassificationLeaves.bits8 (fun HT_ HW_ => ?_)
           generalize wr.drew = w64 at HO_30 HO_423001 HO_434001 BK422 BK433 HB hHeld ⊢
           refine pure_ (i := 1) (N := some 37) (v := ?_) (a' := ?_) #[false, true, false, false, false, false, false, false, false, false, false, false, false, false, false, false, false, false] rfl rfl (any_of HT_.out (by kernel_rfl)) (fun _ _ _ h => h) (Or.inl ⟨by rfl, ?_⟩) ?_ ?_
           rotate_left
           ·intro w'
            go_simp
            with_reducible rfl
           rotate_left
           ·simp only [Act.put, List.setIfInBounds_toArray, List.set_cons_zero, List.set_cons_succ, i64_w, i32_w]
            rfl
           refine pure_ (i := 4) (N := some 40) (v := ?_) (a' := ?_) #[false, true, false, false, true, false, false, false, false, false, false, false, false, false, false, false, false, false] rfl rfl (any_of HT_.out (by kernel_rfl)) (fun _ _ _ h => h) (Or.inl ⟨by rfl, ?_⟩) ?_ ?_
           rotate_left
           ·intro w'
            go_simp
            with_reducible rfl
           rotate_left
           ·simp only [Act.put, List.setIfInBounds_toArray, List.set_cons_zero, List.set_cons_succ, i64_w, i32_w]
            rfl
           refine take_ (i := 0) (N := some 36) (v := ?_) (a' := ?_) #[true, true, false, false, true, false, false, false, false, false, false, false, false, false, false, false, false, false] rfl rfl (take_ofW HT_.out HW_.out (by kernel_rfl)) (fun _ _ _ h => h) (Or.inl ⟨by rfl, ?_⟩) hHeld ?_ ?_
           rotate_left
           ·rintro w' ⟨s0, s1⟩
            go_simp
            with_reducible rfl
           rotate_left
           ·simp only [Act.put, List.setIfInBounds_toArray, List.set_cons_zero, List.set_cons_succ, i64_w, i32_w]
            rfl
           refine take_ (i := 3) (N := some 39) (v := ?_) (a' := ?_) #[true, true, false, true, true, false, false, false, false, false, false, false, false, false, false, false, false, false] rfl rfl (take_ofW HT_.out HW_.out (by kernel_rfl)) (fun _ _ _ h => h) (Or.inl ⟨by rfl, ?_⟩) hHeld ?_ ?_
           rotate_left
           ·rintro w' ⟨s0, s1⟩
            go_simp
            with_reducible rfl
           rotate_left
           ·simp only [Act.put, List.setIfInBounds_toArray, List.set_cons_zero, List.set_cons_succ, i64_w, i32_w]
            rfl
           refine one_ (i := 2) (N := some 38) #[true, true, true, true, true, false, false, false, false, false, false, false, false, false, false, false, false, false] rfl rfl (one_of HT_.out (by kernel_rfl)) (by decide) (fun K hK => ?_)
           refine goes_ Tryz.func8 (by kernel_rfl) rfl #[.agg #[.string t428, .slice Ao24 t429.length co24], .string (rdOf ByteArray.empty y445 x32_1)] (by rfl) rfl rfl (by (try simp only [List.map_toArray, List.map_cons, List.map_nil]); first | done | rfl | (simp only [List.length_drop, List.length_take]; rfl)) ?_
           with_reducible refine (c_Children.calls k1 t428 _ _ t429 (rdOf ByteArray.empty y445 x32_1) t449 _ ?side1 ?side2 ?side3 A38.out).mono ?_
           (case side1 => repeat (first | exact (Kd.R_reads' HO_434001.out).2.2 | (with_reducible refine Kd.C_alloc ?_ _) | (with_reducible refine Kd.C_drewN ?_ _) | (with_reducible refine Kd.C_drew ?_)))
           (case side2 => exact (Kd.R_reads' HO_434001.out).2.1)
           (case side3 => first | exact HG.out | exact GL.below HG.out (by repeat (with_reducible first | exact HB.out | apply b_a | apply b_n | apply b_d | refine below_set ?_ GE422.out | refine below_set ?_ GE433.out)))
           rintro e w65 ⟨v450, rfl, ho0, hb⟩
           refine ⟨_, rfl, ?_⟩
           have n0_ := mk0 (Kd.R_elder' (by (with_reducible repeat (first | apply r_a | apply r_n | apply r_d)); exact HO_30.out) (Kd.R_base ho0) hb)
           have n1_ := mk0 (Kd.R_elder' (by (with_reducible repeat (first | apply r_a | apply r_n | apply r_d)); exact HO_423001.out) (Kd.R_base ho0) hb)
           have n2_ := mk0 (Kd.R_elder' (by (with_reducible repeat (first | apply r_a | apply r_n | apply r_d)); exact HO_434001.out) (Kd.R_base ho0) hb)
           have n3_ := mk0 (Kd.R_lower (Kd.R_new' (Kd.R_new' (Kd.R_new' ho0 (Kd.R_lt (by (with_reducible repeat (first | apply r_a | apply r_n | apply r_d)); exact HO_30.out))) (Kd.R_lt (by (with_reducible repeat (first | apply r_a | apply r_n | apply r_d)); exact HO_423001.out))) (Kd.R_lt (by (with_reducible repeat (first | apply r_a | apply r_n | apply r_d)); exact HO_434001.out))) (below_size (by repeat (with_reducible first | exact HB.out | apply b_a | apply b_n | apply b_d | refine below_set ?_ GE422.out | refine below_set ?_ GE433.out))))
           have n4_ := mk0 (blk_below (g := gb422) (o := .cells #[.string t424, .slice Ao18 t425.length co18] 24 (0, 0)) (by (with_reducible repeat (first | refine blk_drewN ?_ _ | refine blk_drew ?_ | refine blk_alloc ?_ _)); exact BK422.out) hb)
           have n5_ := mk0 (blk_below (g := gb433) (o := .cells #[.string t428, .slice Ao24 t429.length co24] 24 (0, 0)) (by (with_reducible repeat (first | refine blk_drewN ?_ _ | refine blk_drew ?_ | refine blk_alloc ?_ _)); exact BK433.out) hb)
           have n6_ := mk0 (below_step (by repeat (with_reducible first | exact HB.out | apply b_a | apply b_n | apply b_d | refine below_set ?_ GE422.out | refine below_set ?_ GE433.out)) hb)
           clear HO_30
           clear HO_423001
           clear HO_434001
           clear BK422
           clear BK433
           clear HB
           have HO_30 := n0_
           have HO_423001 := n1_
           have HO_434001 := n2_
           have HO451 := n3_
           have BK422 := n4_
           have BK433 := n5_
           have HB := n6_
           clear n0_ n1_ n2_ n3_ n4_ n5_ n6_
           (try clear hb)
           (try clear hb2)
           (try clear hk)
           (try clear hi)
           (try clear ho0)
           refine hK.out _ _ ⟨(blk_cell BK433.out 0).trans rfl, (blk_cell BK433.out 1).trans rfl⟩ (fun hHeld => ?_)
           clear hK K
           refine norm_ (a' := ?_) ?_ ?_
           rotate_left
           ·show Act.put _ (some 38) _ = _
            simp only [Act.put, List.setIfInBounds_toArray, List.set_cons_zero, List.set_cons_succ, i64_w, i32_w]
            rfl
           refine one_ (i := 5) (N := some 41) #[true, true, true, true, true, true, false, false, false, false, false, false, false, false, false, false, false, false] rfl rfl (one_of HT_.out (by kernel_rfl)) (by decide) (fun K hK => ?_)
           refine goes_ Tryz.func9 (by kernel_rfl) rfl #[.agg #[.string t428, .slice Ao24 t429.length co24], .string (rdOf ByteArray.empty y445 x32_1)] (by rfl) rfl rfl (by (try simp only [List.map_toArray, List.map_cons, List.map_nil]); first | done | rfl | (simp only [List.length_drop, List.length_take]; rfl)) ?_
           with_reducible refine (r6_Children.calls k1 t428 _ _ t429 (rdOf ByteArray.empty y445 x32_1) t452 _ ?side1 ?side2 A39.out).mono ?_
           (case side1 => repeat (first | exact (Kd.R_reads' HO_434001.out).2.2 | (with_reducible refine Kd.C_alloc ?_ _) | (with_reducible refine Kd.C_drewN ?_ _) | (with_reducible refine Kd.C_drew ?_)))
           (case side2 => exact (Kd.R_reads' HO_434001.out).2.1)
           rintro e w66 ⟨v453, rfl, ho0, hb⟩
           refine ⟨_, rfl, ?_⟩
           have n0_ := mk0 (Kd.R_elder' (by (with_reducible repeat (first | apply r_a | apply r_n | apply r_d)); exact HO_30.out) (Kd.R_base ho0) hb)
           have n1_ := mk0 (Kd.R_elder' (by (with_reducible repeat (first | apply r_a | apply r_n | apply r_d)); exact HO_423001.out) (Kd.R_base ho0) hb)
           have n2_ := mk0 (Kd.R_elder' (by (with_reducible repeat (first | apply r_a | apply r_n | apply r_d)); exact HO_434001.out) (Kd.R_base ho0) hb)
           have n3_ := mk0 (Kd.R_elder' (by (with_reducible repeat (first | apply r_a | apply r_n | apply r_d)); exact HO451.out) (Kd.R_base ho0) hb)
           have n4_ := mk0 (Kd.R_lower (Kd.R_new' (Kd.R_new' (Kd.R_new' (Kd.R_new' ho0 (Kd.R_lt (by (with_reducible repeat (first | apply r_a | apply r_n | apply r_d)); exact HO_30.out))) (Kd.R_lt (by (with_reducible repeat (first | apply r_a | apply r_n | apply r_d)); exact HO_423001.out))) (Kd.R_lt (by (with_reducible repeat (first | apply r_a | apply r_n | apply r_d)); exact HO_434001.out))) (Kd.R_lt (by (with_reducible repeat (first | apply r_a | apply r_n | apply r_d)); exact HO451.out))) (below_size (by repeat (with_reducible first | exact HB.out | apply b_a | apply b_n | apply b_d | refine below_set ?_ GE422.out | refine below_set ?_ GE433.out))))
           have n5_ := mk0 (blk_below (g := gb422) (o := .cells #[.string t424, .slice Ao18 t425.length co18] 24 (0, 0)) (by (with_reducible repeat (first | refine blk_drewN ?_ _ | refine blk_drew ?_ | refine blk_alloc ?_ _)); exact BK422.out) hb)
           have n6_ := mk0 (blk_below (g := gb433) (o := .cells #[.string t428, .slice Ao24 t429.length co24] 24 (0, 0)) (by (with_reducible repeat (first | refine blk_drewN ?_ _ | refine blk_drew ?_ | refine blk_alloc ?_ _)); exact BK433.out) hb)
           have n7_ := mk0 (below_step (by repeat (with_reducible first | exact HB.out | apply b_a | apply b_n | apply b_d | refine below_set ?_ GE422.out | refine below_set ?_ GE433.out)) hb)
           clear HO_30
           clear HO_423001
           clear HO_434001
           clear HO451
           clear BK422
           clear BK433
           clear HB
           have HO_30 := n0_
           have HO_423001 := n1_
           have HO_434001 := n2_
           have HO451 := n3_
           have HO454 := n4_
           have BK422 := n5_
           have BK433 := n6_
           have HB := n7_
           clear n0_ n1_ n2_ n3_ n4_ n5_ n6_ n7_
           (try clear hb)
           (try clear hb2)
           (try clear hk)
           (try clear hi)
           (try clear ho0)
           obtain ⟨Ao67, co67, eo67⟩ := Kd.R_slice HO451.out
           (first | subst eo67 | (injection eo67 with f1_ f2_ f3_; have f4_ := f1_.symm; have f5_ := f3_.symm; clear f1_ f2_ f3_; subst f4_; subst f5_))
           obtain ⟨Ao68, co68, eo68⟩ := Kd.R_slice HO454.out
           (first | subst eo68 | (injection eo68 with f1_ f2_ f3_; have f4_ := f1_.symm; have f5_ := f3_.symm; clear f1_ f2_ f3_; subst f4_; subst f5_))
           refine hK.out _ _ ⟨(blk_cell BK433.out 0).trans rfl, (blk_cell BK433.out 1).trans rfl⟩ (fun hHeld => ?_)
           clear hK K
           refine norm_ (a' := ?_) ?_ ?_
           rotate_left
           ·show Act.put _ (some 41) _ = _
            simp only [Act.put, List.setIfInBounds_toArray, List.set_cons_zero, List.set_cons_succ, i64_w, i32_w]
            rfl
           refine one_ (i := 6) (N := some 42) #[true, true, true, true, true, true, true, false, false, false, false, false, false, false, false, false, false, false] rfl rfl (one_of HT_.out (by kernel_rfl)) (by decide) (fun K hK => ?_)
           refine goes_ Tryz.func7 (by kernel_rfl) rfl #[.slice Ao67 t449.length co67, .slice Ao68 t452.length co68] (by rfl) rfl rfl (by (try simp only [List.map_toArray, List.map_cons, List.map_nil]); first | done | rfl | (simp only [List.length_drop, List.length_take]; rfl)) ?_
           with_reducible refine (r6_SameStrings.calls k1 _ _ t449 _ _ t452 false _ ?side1 ?side2 ?side3 ?side4 A40.out).mono ?_
           (case side1 => repeat (first | exact (Kd.R_reads' HO451.out).2.2 | (with_reducible refine Kd.C_alloc ?_ _) | (with_reducible refine Kd.C_drewN ?_ _) | (with_reducible refine Kd.C_drew ?_)))
           (case side2 => exact (Kd.R_reads' HO451.out).2.1)
           (case side3 => repeat (first | exact (Kd.R_reads' HO454.out).2.2 | (with_reducible refine Kd.C_alloc ?_ _) | (with_reducible refine Kd.C_drewN ?_ _) | (with_reducible refine Kd.C_drew ?_)))
           (case side4 => exact (Kd.R_reads' HO454.out).2.1)
           rintro e w' ⟨rfl, ⟨nd, rfl⟩⟩
           refine ⟨_, rfl, ?_⟩
           refine hK.out _ _ ⟨(blk_cell BK433.out 0).trans rfl, (blk_cell BK433.out 1).trans rfl⟩ (fun hHeld => ?_)
           clear hK K
           refine norm_ (a' := ?_) ?_ ?_
           rotate_left
           ·show Act.put _ (some 42) _ = _
            simp only [Act.put, List.setIfInBounds_toArray, List.set_cons_zero, List.set_cons_succ, i64_w, i32_w]
            rfl
           refine pure_ (i := 7) (N := some 43) (v := ?_) (a' := ?_) #[true, true, true, true, true, true, true, true, false, false, false, false, false, false, false, false, false, false] rfl rfl (any_of HT_.out (by kernel_rfl)) (fun _ _ _ h => h) (Or.inl ⟨by rfl, ?_⟩) ?_ ?_
           rotate_left
           ·intro w'
            go_simp
            with_reducible rfl
           rotate_left
           ·simp only [Act.put, List.setIfInBounds_toArray, List.set_cons_zero, List.set_cons_succ, i64_w, i32_w]
            rfl
           refine pure_ (i := 8) (N := some 44) (v := ?_) (a' := ?_) #[true, true, true, true, true, true, true, true, true, false, false, false, false, false, false, false, false, false] rfl rfl (any_of HT_.out (by kernel_rfl)) (fun _ _ _ h => h) (Or.inl ⟨by rfl, ?_⟩) ?_ ?_
           rotate_left
           ·intro w'
            go_simp
            with_reducible rfl
           rotate_left
           ·simp only [Act.put, List.setIfInBounds_toArray, List.set_cons_zero, List.set_cons_succ, i64_w, i32_w]
            rfl
           refine pure_ (i := 9) (N := some 45) (v := undef) (a' := ?_) #[true, true, true, true, true, true, true, true, true, true, false, false, false, false, false, false, false, false] rfl rfl (any_of HT_.out (by kernel_rfl)) (fun _ _ _ h => h) (Or.inr ⟨by rfl, rfl⟩) ?_ ?_
           rotate_left
           ·simp only [Act.put, List.setIfInBounds_toArray, List.set_cons_zero, List.set_cons_succ, i64_w, i32_w]
            rfl
           refine pure_ (i := 10) (N := some 46) (v := undef) (a' := ?_) #[true, true, true, true, true, true, true, true, true, true, true, false, false, false, false, false, false, false] rfl rfl (any_of HT_.out (by kernel_rfl)) (fun _ _ _ h => h) (Or.inr ⟨by rfl, rfl⟩) ?_ ?_
           rotate_left
           ·simp only [Act.put, List.setIfInBounds_toArray, List.set_cons_zero, List.set_cons_succ, i64_w, i32_w]
            rfl
           refine pure_ (i := 11) (N := some 47) (v := undef) (a' := ?_) #[true, true, true, true, true, true, true, true, true, true, true, true, false, false, false, false, false, false] rfl rfl (any_of HT_.out (by kernel_rfl)) (fun _ _ _ h => h) (Or.inr ⟨by rfl, rfl⟩) ?_ ?_
           rotate_left
           ·simp only [Act.put, List.setIfInBounds_toArray, List.set_cons_zero, List.set_cons_succ, i64_w, i32_w]
            rfl
           refine pure_ (i := 12) (N := some 48) (v := undef) (a' := ?_) #[true, true, true, true, true, true, true, true, true, true, true, true, true, false, false, false, false, false] rfl rfl (any_of HT_.out (by kernel_rfl)) (fun _ _ _ h => h) (Or.inr ⟨by rfl, rfl⟩) ?_ ?_
           rotate_left
           ·simp only [Act.put, List.setIfInBounds_toArray, List.set_cons_zero, List.set_cons_succ, i64_w, i32_w]
            rfl
           refine pure_ (i := 13) (N := some 49) (v := undef) (a' := ?_) #[true, true, true, true, true, true, true, true, true, true, true, true, true, true, false, false, false, false] rfl rfl (any_of HT_.out (by kernel_rfl)) (fun _ _ _ h => h) (Or.inr ⟨by rfl, rfl⟩) ?_ ?_
           rotate_left
           ·simp only [Act.put, List.setIfInBounds_toArray, List.set_cons_zero, List.set_cons_succ, i64_w, i32_w]
            rfl
           refine pure_ (i := 14) (N := some 50) (v := undef) (a' := ?_) #[true, true, true, true, true, true, true, true, true, true, true, true, true, true, true, false, false, false] rfl rfl (any_of HT_.out (by kernel_rfl)) (fun _ _ _ h => h) (Or.inr ⟨by rfl, rfl⟩) ?_ ?_
           rotate_left
           ·simp only [Act.put, List.setIfInBounds_toArray, List.set_cons_zero, List.set_cons_succ, i64_w, i32_w]
            rfl
           refine pure_ (i := 15) (N := some 51) (v := undef) (a' := ?_) #[true, true, true, true, true, true, true, true, true, true, true, true, true, true, true, true, false, false] rfl rfl (any_of HT_.out (by kernel_rfl)) (fun _ _ _ h => h) (Or.inr ⟨by rfl, rfl⟩) ?_ ?_
           rotate_left
           ·simp only [Act.put, List.setIfInBounds_toArray, List.set_cons_zero, List.set_cons_succ, i64_w, i32_w]
            rfl
           refine pure_ (i := 16) (N := some 52) (v := undef) (a' := ?_) #[true, true, true, true, true, true, true, true, true, true, true, true, true, true, true, true, true, false] rfl rfl (any_of HT_.out (by kernel_rfl)) (fun _ _ _ h => h) (Or.inr ⟨by rfl, rfl⟩) ?_ ?_
           rotate_left
           ·simp only [Act.put, List.setIfInBounds_toArray, List.set_cons_zero, List.set_cons_succ, i64_w, i32_w]
            rfl
           refine pure_ (i := 17) (N := some 53) (v := ?_) (a' := ?_) #[true, true, true, true, true, true, true, true, true, true, true, true, true, true, true, true, true, true] rfl rfl (any_of HT_.out (by kernel_rfl)) (fun _ _ _ h => h) (Or.inl ⟨by rfl, ?_⟩) ?_ ?_
           rotate_left
           ·intro w'
            go_simp
            with_reducible rfl
           rotate_left
           ·simp only [Act.put, List.setIfInBounds_toArray, List.set_cons_zero, List.set_cons_succ, i64_w, i32_w]
            rfl
           refine done_ (done_of HT_.out (by kernel_rfl)) ?_
           try go_wp2
           go_ret
           exact ⟨by first | rfl | (simp [errW_none, errW_some] <;> rfl) | (simp only [← hji5]; first | rfl | (simp [errW_none, errW_some] <;> rfl)) | (simp [*, errW_none, errW_some] <;> rfl), by repeat (first | (with_reducible first | exact HB.out | apply b_a | apply b_n | apply b_d | refine below_set ?_ GE422.out | refine below_set ?_ GE433.out) | exact HB.out)⟩
         ·rw [if_neg c37] at H
          exact absurd H (by simp)
        ·rw [if_neg c36] at H
         exact absurd H (by simp)
       ·rw [if_neg c35] at H
        have c35b0 : decide (x32_1 < (y445.length : Int)) = false := decide_eq_false c35
        clear c35
        replace H := Option.bind_eq_some_iff.mp H
        obtain ⟨t463, A690, H⟩ := H
        replace H : ((r6_Children.f k1 t424 t425 (a1.extract 0 ((ji5) : Int).toNat)).bind fun t466 => ((r6_SameStrings.f k1 t463 t466).bind fun t469 => (if t469 = true then ((c_Leaves.f k1 t424 t425 (a1.extract 0 ((ji5) : Int).toNat)).bind fun t470 => ((r6_Leaves.f k1 t424 t425 (a1.extract 0 ((ji5) : Int).toNat)).bind fun t473 => ((r6_SameStrings.f k1 t470 t473).bind fun t476 => (if t476 = true then ((w6_awake.f k1).bind fun t477 => (some t477)) else (some false))))) else (some false)))) = some r := H
        have A69 := mk0 A690
        clear A690
        replace H := Option.bind_eq_some_iff.mp H
        obtain ⟨t466, A700, H⟩ := H
        replace H : ((r6_SameStrings.f k1 t463 t466).bind fun t469 => (if t469 = true then ((c_Leaves.f k1 t424 t425 (a1.extract 0 ((ji5) : Int).toNat)).bind fun t470 => ((r6_Leaves.f k1 t424 t425 (a1.extract 0 ((ji5) : Int).toNat)).bind fun t473 => ((r6_SameStrings.f k1 t470 t473).bind fun t476 => (if t476 = true then ((w6_awake.f k1).bind fun t477 => (some t477)) else (some false))))) else (some false))) = some r := H
        have A70 := mk0 A700
        clear A700
        replace H := Option.bind_eq_some_iff.mp H
        obtain ⟨t469, A710, H⟩ := H
        replace H : (if t469 = true then ((c_Leaves.f k1 t424 t425 (a1.extract 0 ((ji5) : Int).toNat)).bind fun t470 => ((r6_Leaves.f k1 t424 t425 (a1.extract 0 ((ji5) : Int).toNat)).bind fun t473 => ((r6_SameStrings.f k1 t470 t473).bind fun t476 => (if t476 = true then ((w6_awake.f k1).bind fun t477 => (some t477)) else (some false))))) else (some false)) = some r := H
        have A71 := mk0 A710
        clear A710
        by_cases c72 : t469 = true
        ·subst c72
         have H1 : ((c_Leaves.f k1 t424 t425 (a1.extract 0 ((ji5) : Int).toNat)).bind fun t470 => ((r6_Leaves.f k1 t424 t425 (a1.extract 0 ((ji5) : Int).toNat)).bind fun t473 => ((r6_SameStrings.f k1 t470 t473).bind fun t476 => (if t476 = true then ((w6_awake.f k1).bind fun t477 => (some t477)) else (some false))))) = some r := by rw [if_pos rfl] at H; exact H
         clear H
         have H := H1
         clear H1
         replace H := Option.bind_eq_some_iff.mp H
         obtain ⟨t470, A730, H⟩ := H
         replace H : ((r6_Leaves.f k1 t424 t425 (a1.extract 0 ((ji5) : Int).toNat)).bind fun t473 => ((r6_SameStrings.f k1 t470 t473).bind fun t476 => (if t476 = true then ((w6_awake.f k1).bind fun t477 => (some t477)) else (some false)))) = some r := H
         have A73 := mk0 A730
         clear A730
         replace H := Option.bind_eq_some_iff.mp H
         obtain ⟨t473, A740, H⟩ := H
         replace H : ((r6_SameStrings.f k1 t470 t473).bind fun t476 => (if t476 = true then ((w6_awake.f k1).bind fun t477 => (some t477)) else (some false))) = some r := H
         have A74 := mk0 A740
         clear A740
         replace H := Option.bind_eq_some_iff.mp H
         obtain ⟨t476, A750, H⟩ := H
         replace H : (if t476 = true then ((w6_awake.f k1).bind fun t477 => (some t477)) else (some false)) = some r := H
         have A75 := mk0 A750
         clear A750
         by_cases c76 : t476 = true
         ·subst c76
          have H1 : ((w6_awake.f k1).bind fun t477 => (some t477)) = some r := by rw [if_pos rfl] at H; exact H
          clear H
          have H := H1
          clear H1
          replace H := Option.bind_eq_some_iff.mp H
          obtain ⟨t477, A770, H⟩ := H
          replace H : (some t477) = some r := H
          have A77 := mk0 A770
          clear A770
          obtain rfl := Option.some.inj H
          try go_wp2
          have n0_ := mk0 (r_d HO_30.out)
          have n1_ := mk0 (r_d HO_423001.out)
          have n2_ := mk0 (r_d HO_434001.out)
          have n3_ := mk0 (blk_drew BK422.out)
          have n4_ := mk0 (blk_drew BK433.out)
          have n5_ := mk0 (b_d HB.out)
          clear HO_30
          clear HO_423001
          clear HO_434001
          clear BK422
          clear BK433
          clear HB
          have HO_30 := n0_
          have HO_423001 := n1_
          have HO_434001 := n2_
          have BK422 := n3_
          have BK433 := n4_
          have HB := n5_
          clear n0_ n1_ n2_ n3_ n4_ n5_
          refine start_ (n := 20) (S := fun w' => w'.cell? ⟨gb422, 0, none⟩ = some (.string t424) ∧ w'.cell? ⟨gb422, 1, none⟩ = some (.slice Ao18 t425.length co18)) (ds := []) #[false, false, false, false, false, false, false, false, false, false, false, false, false, false, false, false, false, false, false, false] (by kernel_rfl) rfl rfl ⟨(blk_cell BK422.out 0).trans rfl, (blk_cell BK422.out 1).trans rfl⟩ (fun hHeld => ?_); refine with_tabW w6_ClassificationLeaves.tab11 w6_ClassificationLeaves.bits11 (fun HT_ HW_ => ?_)
          generalize wr.drew = w78 at HO_30 HO_423001 HO_434001 BK422 BK433 HB hHeld ⊢
          refine pure_ (i := 1) (N := some 56) (v := ?_) (a' := ?_) #[false, true, false, false, false, false, false, false, false, false, false, false, false, false, false, false, false, false, false, false] rfl rfl (any_of HT_.out (by kernel_rfl)) (fun _ _ _ h => h) (Or.inl ⟨by rfl, ?_⟩) ?_ ?_
          rotate_left
          ·intro w'
           go_simp
           with_reducible rfl
          rotate_left
          ·simp only [Act.put, List.setIfInBounds_toArray, List.set_cons_zero, List.set_cons_succ, i64_w, i32_w]
           rfl
          refine pure_ (i := 4) (N := some 59) (v := ?_) (a' := ?_) #[false, true, false, false, true, false, false, false, false, false, false, false, false, false, false, false, false, false, false, false] rfl rfl (any_of HT_.out (by kernel_rfl)) (fun _ _ _ h => h) (Or.inl ⟨by rfl, ?_⟩) ?_ ?_
          rotate_left
          ·intro w'
           go_simp
           with_reducible rfl
          rotate_left
          ·simp only [Act.put, List.setIfInBounds_toArray, List.set_cons_zero, List.set_cons_succ, i64_w, i32_w]
           rfl
          refine take_ (i := 0) (N := some 55) (v := ?_) (a' := ?_) #[true, true, false, false, true, false, false, false, false, false, false, false, false, false, false, false, false, false, false, false] rfl rfl (take_ofW HT_.out HW_.out (by kernel_rfl)) (fun _ _ _ h => h) (Or.inl ⟨by rfl, ?_⟩) hHeld ?_ ?_
          rotate_left
          ·rintro w' ⟨s0, s1⟩
           go_simp
           with_reducible rfl
          rotate_left
          ·simp only [Act.put, List.setIfInBounds_toArray, List.set_cons_zero, List.set_cons_succ, i64_w, i32_w]
           rfl
          refine take_ (i := 3) (N := some 58) (v := ?_) (a' := ?_) #[true, true, false, true, true, false, false, false, false, false, false, false, false, false, false, false, false, false, false, false] rfl rfl (take_ofW HT_.out HW_.out (by kernel_rfl)) (fun _ _ _ h => h) (Or.inl ⟨by rfl, ?_⟩) hHeld ?_ ?_
          rotate_left
          ·rintro w' ⟨s0, s1⟩
           go_simp
           with_reducible rfl
          rotate_left
          ·simp only [Act.put, List.setIfInBounds_toArray, List.set_cons_zero, List.set_cons_succ, i64_w, i32_w]
           rfl
          refine one_ (i := 2) (N := some 57) #[true, true, true, true, true, false, false, false, false, false, false, false, false, false, false, false, false, false, false, false] rfl rfl (one_of HT_.out (by kernel_rfl)) (by decide) (fun K hK => ?_)
          refine goes_ Tryz.func8 (by kernel_rfl) rfl #[.agg #[.string t424, .slice Ao18 t425.length co18], .string (a1.extract 0 ((ji5) : Int).toNat)] (by rfl) rfl rfl (by (try simp only [List.map_toArray, List.map_cons, List.map_nil]); first | done | (simp only [hji5]; rfl) | rfl | (simp only [List.length_drop, List.length_take]; rfl)) ?_
          with_reducible refine (c_Children.calls k1 t424 _ _ t425 (a1.extract 0 ((ji5) : Int).toNat) t463 _ ?side1 ?side2 ?side3 A69.out).mono ?_
          (case side1 => repeat (first | exact (Kd.R_reads' HO_423001.out).2.2 | (with_reducible refine Kd.C_alloc ?_ _) | (with_reducible refine Kd.C_drewN ?_ _) | (with_reducible refine Kd.C_drew ?_)))
          (case side2 => exact (Kd.R_reads' HO_423001.out).2.1)
          (case side3 => first | exact HG.out | exact GL.below HG.out (by repeat (with_reducible first | exact HB.out | apply b_a | apply b_n | apply b_d | refine below_set ?_ GE422.out | refine below_set ?_ GE433.out)))
          rintro e w79 ⟨v464, rfl, ho0, hb⟩
          refine ⟨_, rfl, ?_⟩
          have n0_ := mk0 (Kd.R_elder' (by (with_reducible repeat (first | apply r_a | apply r_n | apply r_d)); exact HO_30.out) (Kd.R_base ho0) hb)
          have n1_ := mk0 (Kd.R_elder' (by (with_reducible repeat (first | apply r_a | apply r_n | apply r_d)); exact HO_423001.out) (Kd.R_base ho0) hb)
          have n2_ := mk0 (Kd.R_elder' (by (with_reducible repeat (first | apply r_a | apply r_n | apply r_d)); exact HO_434001.out) (Kd.R_base ho0) hb)
          have n3_ := mk0 (Kd.R_lower (Kd.R_new' (Kd.R_new' (Kd.R_new' ho0 (Kd.R_lt (by (with_reducible repeat (first | apply r_a | apply r_n | apply r_d)); exact HO_30.out))) (Kd.R_lt (by (with_reducible repeat (first | apply r_a | apply r_n | apply r_d)); exact HO_423001.out))) (Kd.R_lt (by (with_reducible repeat (first | apply r_a | apply r_n | apply r_d)); exact HO_434001.out))) (below_size (by repeat (with_reducible first | exact HB.out | apply b_a | apply b_n | apply b_d | refine below_set ?_ GE422.out | refine below_set ?_ GE433.out))))
          have n4_ := mk0 (blk_below (g := gb422) (o := .cells #[.string t424, .slice Ao18 t425.length co18] 24 (0, 0)) (by (with_reducible repeat (first | refine blk_drewN ?_ _ | refine blk_drew ?_ | refine blk_alloc ?_ _)); exact BK422.out) hb)
          have n5_ := mk0 (blk_below (g := gb433) (o := .cells #[.string t428, .slice Ao24 t429.length co24] 24 (0, 0)) (by (with_reducible repeat (first | refine blk_drewN ?_ _ | refine blk_drew ?_ | refine blk_alloc ?_ _)); exact BK433.out) hb)
          have n6_ := mk0 (below_step (by repeat (with_reducible first | exact HB.out | apply b_a | apply b_n | apply b_d | refine below_set ?_ GE422.out | refine below_set ?_ GE433.out)) hb)
          clear HO_30
          clear HO_423001
          clear HO_434001
          clear BK422
          clear BK433
          clear HB
          have HO_30 := n0_
          have HO_423001 := n1_
          have HO_434001 := n2_
          have HO465 := n3_
          have BK422 := n4_
          have BK433 := n5_
          have HB := n6_
          clear n0_ n1_ n2_ n3_ n4_ n5_ n6_
          (try clear hb)
          (try clear hb2)
          (try clear hk)
          (try clear hi)
          (try clear ho0)
          refine hK.out _ _ ⟨(blk_cell BK422.out 0).trans rfl, (blk_cell BK422.out 1).trans rfl⟩ (fun hHeld => ?_)
          clear hK K
          refine norm_ (a' := ?_) ?_ ?_
          rotate_left
          ·show Act.put _ (some 57) _ = _
           simp only [Act.put, List.setIfInBounds_toArray, List.set_cons_zero, List.set_cons_succ, i64_w, i32_w]
           rfl
          refine one_ (i := 5) (N := some 60) #[true, true, true, true, true, true, false, false, false, false, false, false, false, false, false, false, false, false, false, false] rfl rfl (one_of HT_.out (by kernel_rfl)) (by decide) (fun K hK => ?_)
          refine goes_ Tryz.func9 (by kernel_rfl) rfl #[.agg #[.string t424, .slice Ao18 t425.length co18], .string (a1.extract 0 ((ji5) : Int).toNat)] (by rfl) rfl rfl (by (try simp only [List.map_toArray, List.map_cons, List.map_nil]); first | done | (simp only [hji5]; rfl) | rfl | (simp only [List.length_drop, List.length_take]; rfl)) ?_
          with_reducible refine (r6_Children.calls k1 t424 _ _ t425 (a1.extract 0 ((ji5) : Int).toNat) t466 _ ?side1 ?side2 A70.out).mono ?_
          (case side1 => repeat (first | exact (Kd.R_reads' HO_423001.out).2.2 | (with_reducible refine Kd.C_alloc ?_ _) | (with_reducible refine Kd.C_drewN ?_ _) | (with_reducible refine Kd.C_drew ?_)))
          (case side2 => exact (Kd.R_reads' HO_423001.out).2.1)
          rintro e w80 ⟨v467, rfl, ho0, hb⟩
          refine ⟨_, rfl, ?_⟩
          have n0_ := mk0 (Kd.R_elder' (by (with_reducible repeat (first | apply r_a | apply r_n | apply r_d)); exact HO_30.out) (Kd.R_base ho0) hb)
          have n1_ := mk0 (Kd.R_elder' (by (with_reducible repeat (first | apply r_a | apply r_n | apply r_d)); exact HO_423001.out) (Kd.R_base ho0) hb)
          have n2_ := mk0 (Kd.R_elder' (by (with_reducible repeat (first | apply r_a | apply r_n | apply r_d)); exact HO_434001.out) (Kd.R_base ho0) hb)
          have n3_ := mk0 (Kd.R_elder' (by (with_reducible repeat (first | apply r_a | apply r_n | apply r_d)); exact HO465.out) (Kd.R_base ho0) hb)
          have n4_ := mk0 (Kd.R_lower (Kd.R_new' (Kd.R_new' (Kd.R_new' (Kd.R_new' ho0 (Kd.R_lt (by (with_reducible repeat (first | apply r_a | apply r_n | apply r_d)); exact HO_30.out))) (Kd.R_lt (by (with_reducible repeat (first | apply r_a | apply r_n | apply r_d)); exact HO_423001.out))) (Kd.R_lt (by (with_reducible repeat (first | apply r_a | apply r_n | apply r_d)); exact HO_434001.out))) (Kd.R_lt (by (with_reducible repeat (first | apply r_a | apply r_n | apply r_d)); exact HO465.out))) (below_size (by repeat (with_reducible first | exact HB.out | apply b_a | apply b_n | apply b_d | refine below_set ?_ GE422.out | refine below_set ?_ GE433.out))))
          have n5_ := mk0 (blk_below (g := gb422) (o := .cells #[.string t424, .slice Ao18 t425.length co18] 24 (0, 0)) (by (with_reducible repeat (first | refine blk_drewN ?_ _ | refine blk_drew ?_ | refine blk_alloc ?_ _)); exact BK422.out) hb)
          have n6_ := mk0 (blk_below (g := gb433) (o := .cells #[.string t428, .slice Ao24 t429.length co24] 24 (0, 0)) (by (with_reducible repeat (first | refine blk_drewN ?_ _ | refine blk_drew ?_ | refine blk_alloc ?_ _)); exact BK433.out) hb)
          have n7_ := mk0 (below_step (by repeat (with_reducible first | exact HB.out | apply b_a | apply b_n | apply b_d | refine below_set ?_ GE422.out | refine below_set ?_ GE433.out)) hb)
          clear HO_30
          clear HO_423001
          clear HO_434001
          clear HO465
          clear BK422
          clear BK433
          clear HB
          have HO_30 := n0_
          have HO_423001 := n1_
          have HO_434001 := n2_
          have HO465 := n3_
          have HO468 := n4_
          have BK422 := n5_
          have BK433 := n6_
          have HB := n7_
          clear n0_ n1_ n2_ n3_ n4_ n5_ n6_ n7_
          (try clear hb)
          (try clear hb2)
          (try clear hk)
          (try clear hi)
          (try clear ho0)
          obtain ⟨Ao81, co81, eo81⟩ := Kd.R_slice HO465.out
          (first | subst eo81 | (injection eo81 with f1_ f2_ f3_; have f4_ := f1_.symm; have f5_ := f3_.symm; clear f1_ f2_ f3_; subst f4_; subst f5_))
          obtain ⟨Ao82, co82, eo82⟩ := Kd.R_slice HO468.out
          (first | subst eo82 | (injection eo82 with f1_ f2_ f3_; have f4_ := f1_.symm; have f5_ := f3_.symm; clear f1_ f2_ f3_; subst f4_; subst f5_))
          refine hK.out _ _ ⟨(blk_cell BK422.out 0).trans rfl, (blk_cell BK422.out 1).trans rfl⟩ (fun hHeld => ?_)
          clear hK K
          refine norm_ (a' := ?_) ?_ ?_
          rotate_left
          ·show Act.put _ (some 60) _ = _
           simp only [Act.put, List.setIfInBounds_toArray, List.set_cons_zero, List.set_cons_succ, i64_w, i32_w]
           rfl
          refine one_ (i := 6) (N := some 61) #[true, true, true, true, true, true, true, false, false, false, false, false, false, false, false, false, false, false, false, false] rfl rfl (one_of HT_.out (by kernel_rfl)) (by decide) (fun K hK => ?_)
          refine goes_ Tryz.func7 (by kernel_rfl) rfl #[.slice Ao81 t463.length co81, .slice Ao82 t466.length co82] (by rfl) rfl rfl (by (try simp only [List.map_toArray, List.map_cons, List.map_nil]); first | done | rfl | (simp only [List.length_drop, List.length_take]; rfl)) ?_
          with_reducible refine (r6_SameStrings.calls k1 _ _ t463 _ _ t466 true _ ?side1 ?side2 ?side3 ?side4 A71.out).mono ?_
          (case side1 => repeat (first | exact (Kd.R_reads' HO465.out).2.2 | (with_reducible refine Kd.C_alloc ?_ _) | (with_reducible refine Kd.C_drewN ?_ _) | (with_reducible refine Kd.C_drew ?_)))
          (case side2 => exact (Kd.R_reads' HO465.out).2.1)
          (case side3 => repeat (first | exact (Kd.R_reads' HO468.out).2.2 | (with_reducible refine Kd.C_alloc ?_ _) | (with_reducible refine Kd.C_drewN ?_ _) | (with_reducible refine Kd.C_drew ?_)))
          (case side4 => exact (Kd.R_reads' HO468.out).2.1)
          rintro e w' ⟨rfl, ⟨nd, rfl⟩⟩
          refine ⟨_, rfl, ?_⟩
          refine hK.out _ _ ⟨(blk_cell BK422.out 0).trans rfl, (blk_cell BK422.out 1).trans rfl⟩ (fun hHeld => ?_)
          clear hK K
          refine norm_ (a' := ?_) ?_ ?_
          rotate_left
          ·show Act.put _ (some 61) _ = _
           simp only [Act.put, List.setIfInBounds_toArray, List.set_cons_zero, List.set_cons_succ, i64_w, i32_w]
           rfl
          refine pure_ (i := 7) (N := some 62) (v := ?_) (a' := ?_) #[true, true, true, true, true, true, true, true, false, false, false, false, false, false, false, false, false, false, false, false] rfl rfl (any_of HT_.out (by kernel_rfl)) (fun _ _ _ h => h) (Or.inl ⟨by rfl, ?_⟩) ?_ ?_
          rotate_left
          ·intro w'
           go_simp
           with_reducible rfl
          rotate_left
          ·simp only [Act.put, List.setIfInBounds_toArray, List.set_cons_zero, List.set_cons_succ, i64_w, i32_w]
           rfl
          refine pure_ (i := 9) (N := some 64) (v := ?_) (a' := ?_) #[true, true, true, true, true, true, true, true, false, true, false, false, false, false, false, false, false, false, false, false] rfl rfl (any_of HT_.out (by kernel_rfl)) (fun _ _ _ h => h) (Or.inl ⟨by rfl, ?_⟩) ?_ ?_
          rotate_left
          ·intro w'
           go_simp
           with_reducible rfl
          rotate_left
          ·simp only [Act.put, List.setIfInBounds_toArray, List.set_cons_zero, List.set_cons_succ, i64_w, i32_w]
           rfl
          refine pure_ (i := 12) (N := some 67) (v := ?_) (a' := ?_) #[true, true, true, true, true, true, true, true, false, true, false, false, true, false, false, false, false, false, false, false] rfl rfl (any_of HT_.out (by kernel_rfl)) (fun _ _ _ h => h) (Or.inl ⟨by rfl, ?_⟩) ?_ ?_
          rotate_left
          ·intro w'
           go_simp
           with_reducible rfl
          rotate_left
          ·simp only [Act.put, List.setIfInBounds_toArray, List.set_cons_zero, List.set_cons_succ, i64_w, i32_w]
           rfl
          refine take_ (i := 8) (N := some 63) (v := ?_) (a' := ?_) #[true, true, true, true, true, true, true, true, true, true, false, false, true, false, false, false, false, false, false, false] rfl rfl (take_ofW HT_.out HW_.out (by kernel_rfl)) (fun _ _ _ h => h) (Or.inl ⟨by rfl, ?_⟩) hHeld ?_ ?_
          rotate_left
          ·rintro w' ⟨s0, s1⟩
           go_simp
           with_reducible rfl
          rotate_left
          ·simp only [Act.put, List.setIfInBounds_toArray, List.set_cons_zero, List.set_cons_succ, i64_w, i32_w]
           rfl
          refine take_ (i := 11) (N := some 66) (v := ?_) (a' := ?_) #[true, true, true, true, true, true, true, true, true, true, false, true, true, false, false, false, false, false, false, false] rfl rfl (take_ofW HT_.out HW_.out (by kernel_rfl)) (fun _ _ _ h => h) (Or.inl ⟨by rfl, ?_⟩) hHeld ?_ ?_
          rotate_left
          ·rintro w' ⟨s0, s1⟩
           go_simp
           with_reducible rfl
          rotate_left
          ·simp only [Act.put, List.setIfInBounds_toArray, List.set_cons_zero, List.set_cons_succ, i64_w, i32_w]
           rfl
          refine one_ (i := 10) (N := some 65) #[true, true, true, true, true, true, true, true, true, true, true, true, true, false, false, false, false, false, false, false] rfl rfl (one_of HT_.out (by kernel_rfl)) (by decide) (fun K hK => ?_)
          refine goes_ Tryz.func10 (by kernel_rfl) rfl #[.agg #[.string t424, .slice Ao18 t425.length co18], .string (a1.extract 0 ((ji5) : Int).toNat)] (by rfl) rfl rfl (by (try simp only [List.map_toArray, List.map_cons, List.map_nil]); first | done | (simp only [hji5]; rfl) | rfl | (simp only [List.length_drop, List.length_take]; rfl)) ?_
          with_reducible refine (c_Leaves.calls k1 t424 _ _ t425 (a1.extract 0 ((ji5) : Int).toNat) t470 _ ?side1 ?side2 ?side3 A73.out).mono ?_
          (case side1 => repeat (first | exact (Kd.R_reads' HO_423001.out).2.2 | (with_reducible refine Kd.C_alloc ?_ _) | (with_reducible refine Kd.C_drewN ?_ _) | (with_reducible refine Kd.C_drew ?_)))
          (case side2 => exact (Kd.R_reads' HO_423001.out).2.1)
          (case side3 => first | exact HG.out | exact GL.below HG.out (by repeat (with_reducible first | exact HB.out | apply b_a | apply b_n | apply b_d | refine below_set ?_ GE422.out | refine below_set ?_ GE433.out)))
          rintro e w83 ⟨v471, rfl, ho0, hb⟩
          refine ⟨_, rfl, ?_⟩
          have n0_ := mk0 (Kd.R_elder' (by (with_reducible repeat (first | apply r_a | apply r_n | apply r_d)); exact HO_30.out) (Kd.R_base ho0) hb)
          have n1_ := mk0 (Kd.R_elder' (by (with_reducible repeat (first | apply r_a | apply r_n | apply r_d)); exact HO_423001.out) (Kd.R_base ho0) hb)
          have n2_ := mk0 (Kd.R_elder' (by (with_reducible repeat (first | apply r_a | apply r_n | apply r_d)); exact HO_434001.out) (Kd.R_base ho0) hb)
          have n3_ := mk0 (Kd.R_elder' (by (with_reducible repeat (first | apply r_a | apply r_n | apply r_d)); exact HO465.out) (Kd.R_base ho0) hb)
          have n4_ := mk0 (Kd.R_elder' (by (with_reducible repeat (first | apply r_a | apply r_n | apply r_d)); exact HO468.out) (Kd.R_base ho0) hb)
          have n5_ := mk0 (Kd.R_lower (Kd.R_new' (Kd.R_new' (Kd.R_new' (Kd.R_new' (Kd.R_new' ho0 (Kd.R_lt (by (with_reducible repeat (first | apply r_a | apply r_n | apply r_d)); exact HO_30.out))) (Kd.R_lt (by (with_reducible repeat (first | apply r_a | apply r_n | apply r_d)); exact HO_423001.out))) (Kd.R_lt (by (with_reducible repeat (first | apply r_a | apply r_n | apply r_d)); exact HO_434001.out))) (Kd.R_lt (by (with_reducible repeat (first | apply r_a | apply r_n | apply r_d)); exact HO465.out))) (Kd.R_lt (by (with_reducible repeat (first | apply r_a | apply r_n | apply r_d)); exact HO468.out))) (below_size (by repeat (with_reducible first | exact HB.out | apply b_a | apply b_n | apply b_d | refine below_set ?_ GE422.out | refine below_set ?_ GE433.out))))
          have n6_ := mk0 (blk_below (g := gb422) (o := .cells #[.string t424, .slice Ao18 t425.length co18] 24 (0, 0)) (by (with_reducible repeat (first | refine blk_drewN ?_ _ | refine blk_drew ?_ | refine blk_alloc ?_ _)); exact BK422.out) hb)
          have n7_ := mk0 (blk_below (g := gb433) (o := .cells #[.string t428, .slice Ao24 t429.length co24] 24 (0, 0)) (by (with_reducible repeat (first | refine blk_drewN ?_ _ | refine blk_drew ?_ | refine blk_alloc ?_ _)); exact BK433.out) hb)
          have n8_ := mk0 (below_step (by repeat (with_reducible first | exact HB.out | apply b_a | apply b_n | apply b_d | refine below_set ?_ GE422.out | refine below_set ?_ GE433.out)) hb)
          clear HO_30
          clear HO_423001
          clear HO_434001
          clear HO465
          clear HO468
          clear BK422
          clear BK433
          clear HB
          have HO_30 := n0_
          have HO_423001 := n1_
          have HO_434001 := n2_
          have HO465 := n3_
          have HO468 := n4_
          have HO472 := n5_
          have BK422 := n6_
          have BK433 := n7_
          have HB := n8_
          clear n0_ n1_ n2_ n3_ n4_ n5_ n6_ n7_ n8_
          (try clear hb)
          (try clear hb2)
          (try clear hk)
          (try clear hi)
          (try clear ho0)
          refine hK.out _ _ ⟨(blk_cell BK422.out 0).trans rfl, (blk_cell BK422.out 1).trans rfl⟩ (fun hHeld => ?_)
          clear hK K
          refine norm_ (a' := ?_) ?_ ?_
          rotate_left
          ·show Act.put _ (some 65) _ = _
           simp only [Act.put, List.setIfInBounds_toArray, List.set_cons_zero, List.set_cons_succ, i64_w, i32_w]
           rfl
          refine one_ (i := 13) (N := some 68) #[true, true, true, true, true, true, true, true, true, true, true, true, true, true, false, false, false, false, false, false] rfl rfl (one_of HT_.out (by kernel_rfl)) (by decide) (fun K hK => ?_)
          refine goes_ Tryz.func11 (by kernel_rfl) rfl #[.agg #[.string t424, .slice Ao18 t425.length co18], .string (a1.extract 0 ((ji5) : Int).toNat)] (by rfl) rfl rfl (by (try simp only [List.map_toArray, List.map_cons, List.map_nil]); first | done | (simp only [hji5]; rfl) | rfl | (simp only [List.length_drop, List.length_take]; rfl)) ?_
          with_reducible refine (r6_Leaves.calls k1 t424 _ _ t425 (a1.extract 0 ((ji5) : Int).toNat) t473 _ ?side1 ?side2 A74.out).mono ?_
          (case side1 => repeat (first | exact (Kd.R_reads' HO_423001.out).2.2 | (with_reducible refine Kd.C_alloc ?_ _) | (with_reducible refine Kd.C_drewN ?_ _) | (with_reducible refine Kd.C_drew ?_)))
          (case side2 => exact (Kd.R_reads' HO_423001.out).2.1)
          rintro e w84 ⟨v474, rfl, ho0, hb⟩
          refine ⟨_, rfl, ?_⟩
          have n0_ := mk0 (Kd.R_elder' (by (with_reducible repeat (first | apply r_a | apply r_n | apply r_d)); exact HO_30.out) (Kd.R_base ho0) hb)
          have n1_ := mk0 (Kd.R_elder' (by (with_reducible repeat (first | apply r_a | apply r_n | apply r_d)); exact HO_423001.out) (Kd.R_base ho0) hb)
          have n2_ := mk0 (Kd.R_elder' (by (with_reducible repeat (first | apply r_a | apply r_n | apply r_d)); exact HO_434001.out) (Kd.R_base ho0) hb)
          have n3_ := mk0 (Kd.R_elder' (by (with_reducible repeat (first | apply r_a | apply r_n | apply r_d)); exact HO465.out) (Kd.R_base ho0) hb)
          have n4_ := mk0 (Kd.R_elder' (by (with_reducible repeat (first | apply r_a | apply r_n | apply r_d)); exact HO468.out) (Kd.R_base ho0) hb)
          have n5_ := mk0 (Kd.R_elder' (by (with_reducible repeat (first | apply r_a | apply r_n | apply r_d)); exact HO472.out) (Kd.R_base ho0) hb)
          have n6_ := mk0 (Kd.R_lower (Kd.R_new' (Kd.R_new' (Kd.R_new' (Kd.R_new' (Kd.R_new' (Kd.R_new' ho0 (Kd.R_lt (by (with_reducible repeat (first | apply r_a | apply r_n | apply r_d)); exact HO_30.out))) (Kd.R_lt (by (with_reducible repeat (first | apply r_a | apply r_n | apply r_d)); exact HO_423001.out))) (Kd.R_lt (by (with_reducible repeat (first | apply r_a | apply r_n | apply r_d)); exact HO_434001.out))) (Kd.R_lt (by (with_reducible repeat (first | apply r_a | apply r_n | apply r_d)); exact HO465.out))) (Kd.R_lt (by (with_reducible repeat (first | apply r_a | apply r_n | apply r_d)); exact HO468.out))) (Kd.R_lt (by (with_reducible repeat (first | apply r_a | apply r_n | apply r_d)); exact HO472.out))) (below_size (by repeat (with_reducible first | exact HB.out | apply b_a | apply b_n | apply b_d | refine below_set ?_ GE422.out | refine below_set ?_ GE433.out))))
          have n7_ := mk0 (blk_below (g := gb422) (o := .cells #[.string t424, .slice Ao18 t425.length co18] 24 (0, 0)) (by (with_reducible repeat (first | refine blk_drewN ?_ _ | refine blk_drew ?_ | refine blk_alloc ?_ _)); exact BK422.out) hb)
          have n8_ := mk0 (blk_below (g := gb433) (o := .cells #[.string t428, .slice Ao24 t429.length co24] 24 (0, 0)) (by (with_reducible repeat (first | refine blk_drewN ?_ _ | refine blk_drew ?_ | refine blk_alloc ?_ _)); exact BK433.out) hb)
          have n9_ := mk0 (below_step (by repeat (with_reducible first | exact HB.out | apply b_a | apply b_n | apply b_d | refine below_set ?_ GE422.out | refine below_set ?_ GE433.out)) hb)
          clear HO_30
          clear HO_423001
          clear HO_434001
          clear HO465
          clear HO468
          clear HO472
          clear BK422
          clear BK433
          clear HB
          have HO_30 := n0_
          have HO_423001 := n1_
          have HO_434001 := n2_
          have HO465 := n3_
          have HO468 := n4_
          have HO472 := n5_
          have HO475 := n6_
          have BK422 := n7_
          have BK433 := n8_
          have HB := n9_
          clear n0_ n1_ n2_ n3_ n4_ n5_ n6_ n7_ n8_ n9_
          (try clear hb)
          (try clear hb2)
          (try clear hk)
          (try clear hi)
          (try clear ho0)
          obtain ⟨Ao85, co85, eo85⟩ := Kd.R_slice HO472.out
          (first | subst eo85 | (injection eo85 with f1_ f2_ f3_; have f4_ := f1_.symm; have f5_ := f3_.symm; clear f1_ f2_ f3_; subst f4_; subst f5_))
          obtain ⟨Ao86, co86, eo86⟩ := Kd.R_slice HO475.out
          (first | subst eo86 | (injection eo86 with f1_ f2_ f3_; have f4_ := f1_.symm; have f5_ := f3_.symm; clear f1_ f2_ f3_; subst f4_; subst f5_))
          refine hK.out _ _ ⟨(blk_cell BK422.out 0).trans rfl, (blk_cell BK422.out 1).trans rfl⟩ (fun hHeld => ?_)
          clear hK K
          refine norm_ (a' := ?_) ?_ ?_
          rotate_left
          ·show Act.put _ (some 68) _ = _
           simp only [Act.put, List.setIfInBounds_toArray, List.set_cons_zero, List.set_cons_succ, i64_w, i32_w]
           rfl
          refine one_ (i := 14) (N := some 69) #[true, true, true, true, true, true, true, true, true, true, true, true, true, true, true, false, false, false, false, false] rfl rfl (one_of HT_.out (by kernel_rfl)) (by decide) (fun K hK => ?_)
          refine goes_ Tryz.func7 (by kernel_rfl) rfl #[.slice Ao85 t470.length co85, .slice Ao86 t473.length co86] (by rfl) rfl rfl (by (try simp only [List.map_toArray, List.map_cons, List.map_nil]); first | done | rfl | (simp only [List.length_drop, List.length_take]; rfl)) ?_
          with_reducible refine (r6_SameStrings.calls k1 _ _ t470 _ _ t473 true _ ?side1 ?side2 ?side3 ?side4 A75.out).mono ?_
          (case side1 => repeat (first | exact (Kd.R_reads' HO472.out).2.2 | (with_reducible refine Kd.C_alloc ?_ _) | (with_reducible refine Kd.C_drewN ?_ _) | (with_reducible refine Kd.C_drew ?_)))
          (case side2 => exact (Kd.R_reads' HO472.out).2.1)
          (case side3 => repeat (first | exact (Kd.R_reads' HO475.out).2.2 | (with_reducible refine Kd.C_alloc ?_ _) | (with_reducible refine Kd.C_drewN ?_ _) | (with_reducible refine Kd.C_drew ?_)))
          (case side4 => exact (Kd.R_reads' HO475.out).2.1)
          rintro e w' ⟨rfl, ⟨nd, rfl⟩⟩
          refine ⟨_, rfl, ?_⟩
          refine hK.out _ _ ⟨(blk_cell BK422.out 0).trans rfl, (blk_cell BK422.out 1).trans rfl⟩ (fun hHeld => ?_)
          clear hK K
          refine norm_ (a' := ?_) ?_ ?_
          rotate_left
          ·show Act.put _ (some 69) _ = _
           simp only [Act.put, List.setIfInBounds_toArray, List.set_cons_zero, List.set_cons_succ, i64_w, i32_w]
           rfl
          refine pure_ (i := 15) (N := some 70) (v := ?_) (a' := ?_) #[true, true, true, true, true, true, true, true, true, true, true, true, true, true, true, true, false, false, false, false] rfl rfl (any_of HT_.out (by kernel_rfl)) (fun _ _ _ h => h) (Or.inl ⟨by rfl, ?_⟩) ?_ ?_
          rotate_left
          ·intro w'
           go_simp
           with_reducible rfl
          rotate_left
          ·simp only [Act.put, List.setIfInBounds_toArray, List.set_cons_zero, List.set_cons_succ, i64_w, i32_w]
           rfl
          refine pure_ (i := 16) (N := some 71) (v := ?_) (a' := ?_) #[true, true, true, true, true, true, true, true, true, true, true, true, true, true, true, true, true, false, false, false] rfl rfl (any_of HT_.out (by kernel_rfl)) (fun _ _ _ h => h) (Or.inl ⟨by rfl, ?_⟩) ?_ ?_
          rotate_left
          ·intro w'
           go_simp
           with_reducible rfl
          rotate_left
          ·simp only [Act.put, List.setIfInBounds_toArray, List.set_cons_zero, List.set_cons_succ, i64_w, i32_w]
           rfl
          refine one_ (i := 17) (N := some 72) #[true, true, true, true, true, true, true, true, true, true, true, true, true, true, true, true, true, true, false, false] rfl rfl (one_of HT_.out (by kernel_rfl)) (by decide) (fun K hK => ?_)
          refine goes_ Tryz.func12 (by kernel_rfl) rfl #[] (by rfl) rfl rfl (by (try simp only [List.map_toArray, List.map_cons, List.map_nil]); first | done | rfl | (simp only [List.length_drop, List.length_take]; rfl)) ?_
          with_reducible refine (w6_awake.calls k1  t477 _ ?side1 A77.out).mono ?_
          (case side1 => first | exact HG.out | exact GL.below HG.out (by repeat (with_reducible first | exact HB.out | apply b_a | apply b_n | apply b_d | refine below_set ?_ GE422.out | refine below_set ?_ GE433.out)))
          rintro e w87 ⟨rfl, hb⟩
          refine ⟨_, rfl, ?_⟩
          have n0_ := mk0 (Kd.R_below (by (with_reducible repeat (first | apply r_a | apply r_n | apply r_d)); exact HO_30.out) hb)
          have n1_ := mk0 (Kd.R_below (by (with_reducible repeat (first | apply r_a | apply r_n | apply r_d)); exact HO_423001.out) hb)
          have n2_ := mk0 (Kd.R_below (by (with_reducible repeat (first | apply r_a | apply r_n | apply r_d)); exact HO_434001.out) hb)
          have n3_ := mk0 (Kd.R_below (by (with_reducible repeat (first | apply r_a | apply r_n | apply r_d)); exact HO465.out) hb)
          have n4_ := mk0 (Kd.R_below (by (with_reducible repeat (first | apply r_a | apply r_n | apply r_d)); exact HO468.out) hb)
          have n5_ := mk0 (Kd.R_below (by (with_reducible repeat (first | apply r_a | apply r_n | apply r_d)); exact HO472.out) hb)
          have n6_ := mk0 (Kd.R_below (by (with_reducible repeat (first | apply r_a | apply r_n | apply r_d)); exact HO475.out) hb)
          have n7_ := mk0 (blk_below (g := gb422) (o := .cells #[.string t424, .slice Ao18 t425.length co18] 24 (0, 0)) (by (with_reducible repeat (first | refine blk_drewN ?_ _ | refine blk_drew ?_ | refine blk_alloc ?_ _)); exact BK422.out) hb)
          have n8_ := mk0 (blk_below (g := gb433) (o := .cells #[.string t428, .slice Ao24 t429.length co24] 24 (0, 0)) (by (with_reducible repeat (first | refine blk_drewN ?_ _ | refine blk_drew ?_ | refine blk_alloc ?_ _)); exact BK433.out) hb)
          have n9_ := mk0 (below_step (by repeat (with_reducible first | exact HB.out | apply b_a | apply b_n | apply b_d | refine below_set ?_ GE422.out | refine below_set ?_ GE433.out)) hb)
          clear HO_30
          clear HO_423001
          clear HO_434001
          clear HO465
          clear HO468
          clear HO472
          clear HO475
          clear BK422
          clear BK433
          clear HB
          have HO_30 := n0_
          have HO_423001 := n1_
          have HO_434001 := n2_
          have HO465 := n3_
          have HO468 := n4_
          have HO472 := n5_
          have HO475 := n6_
          have BK422 := n7_
          have BK433 := n8_
          have HB := n9_
          clear n0_ n1_ n2_ n3_ n4_ n5_ n6_ n7_ n8_ n9_
          (try clear hb)
          (try clear hb2)
          (try clear hk)
          (try clear hi)
          refine hK.out _ _ ⟨(blk_cell BK422.out 0).trans rfl, (blk_cell BK422.out 1).trans rfl⟩ (fun hHeld => ?_)
          clear hK K
          refine norm_ (a' := ?_) ?_ ?_
          rotate_left
          ·show Act.put _ (some 72) _ = _
           simp only [Act.put, List.setIfInBounds_toArray, List.set_cons_zero, List.set_cons_succ, i64_w, i32_w]
           rfl
          refine pure_ (i := 18) (N := some 73) (v := ?_) (a' := ?_) #[true, true, true, true, true, true, true, true, true, true, true, true, true, true, true, true, true, true, true, false] rfl rfl (any_of HT_.out (by kernel_rfl)) (fun _ _ _ h => h) (Or.inl ⟨by rfl, ?_⟩) ?_ ?_
          rotate_left
          ·intro w'
           go_simp
           with_reducible rfl
          rotate_left
          ·simp only [Act.put, List.setIfInBounds_toArray, List.set_cons_zero, List.set_cons_succ, i64_w, i32_w]
           rfl
          refine pure_ (i := 19) (N := some 6) (v := ?_) (a' := ?_) #[true, true, true, true, true, true, true, true, true, true, true, true, true, true, true, true, true, true, true, true] rfl rfl (any_of HT_.out (by kernel_rfl)) (fun _ _ _ h => h) (Or.inl ⟨by rfl, ?_⟩) ?_ ?_
          rotate_left
          ·intro w'
           go_simp
           with_reducible rfl
          rotate_left
          ·simp only [Act.put, List.setIfInBounds_toArray, List.set_cons_zero, List.set_cons_succ, i64_w, i32_w]
           rfl
          refine done_ (done_of HT_.out (by kernel_rfl)) ?_
          try go_wp2
          go_ret
          exact ⟨by first | rfl | (simp [errW_none, errW_some] <;> rfl) | (simp only [← hji5]; first | rfl | (simp [errW_none, errW_some] <;> rfl)) | (simp [*, errW_none, errW_some] <;> rfl), by repeat (first | (with_reducible first | exact HB.out | apply b_a | apply b_n | apply b_d | refine below_set ?_ GE422.out | refine below_set ?_ GE433.out) | exact HB.out)⟩
         ·replace c76 := Bool.eq_false_iff.mpr c76
          subst c76
          have H1 : (some false) = some r := by rw [if_neg (show ¬ (false = true) by decide)] at H; exact H
          clear H
          have H := H1
          clear H1
          obtain rfl := Option.some.inj H
          try go_wp2
          have n0_ := mk0 (r_d HO_30.out)
          have n1_ := mk0 (r_d HO_423001.out)
          have n2_ := mk0 (r_d HO_434001.out)
          have n3_ := mk0 (blk_drew BK422.out)
          have n4_ := mk0 (blk_drew BK433.out)
          have n5_ := mk0 (b_d HB.out)
          clear HO_30
          clear HO_423001
          clear HO_434001
          clear BK422
          clear BK433
          clear HB
          have HO_30 := n0_
          have HO_423001 := n1_
          have HO_434001 := n2_
          have BK422 := n3_
          have BK433 := n4_
          have HB := n5_
          clear n0_ n1_ n2_ n3_ n4_ n5_
          refine start_ (n := 20) (S := fun w' => w'.cell? ⟨gb422, 0, none⟩ = some (.string t424) ∧ w'.cell? ⟨gb422, 1, none⟩ = some (.slice Ao18 t425.length co18)) (ds := []) #[false, false, false, false, false, false, false, false, false, false, false, false, false, false, false, false, false, false, false, false] (by kernel_rfl) rfl rfl ⟨(blk_cell BK422.out 0).trans rfl, (blk_cell BK422.out 1).trans rfl⟩ (fun hHeld => ?_); refine with_tabW w6_ClassificationLeaves.tab11 w6_ClassificationLeaves.bits11 (fun HT_ HW_ => ?_)
          generalize wr.drew = w88 at HO_30 HO_423001 HO_434001 BK422 BK433 HB hHeld ⊢
          refine pure_ (i := 1) (N := some 56) (v := ?_) (a' := ?_) #[false, true, false, false, false, false, false, false, false, false, false, false, false, false, false, false, false, false, false, false] rfl rfl (any_of HT_.out (by kernel_rfl)) (fun _ _ _ h => h) (Or.inl ⟨by rfl, ?_⟩) ?_ ?_
          rotate_left
          ·intro w'
           go_simp
           with_reducible rfl
          rotate_left
          ·simp only [Act.put, List.setIfInBounds_toArray, List.set_cons_zero, List.set_cons_succ, i64_w, i32_w]
           rfl
          refine pure_ (i := 4) (N := some 59) (v := ?_) (a' := ?_) #[false, true, false, false, true, false, false, false, false, false, false, false, false, false, false, false, false, false, false, false] rfl rfl (any_of HT_.out (by kernel_rfl)) (fun _ _ _ h => h) (Or.inl ⟨by rfl, ?_⟩) ?_ ?_
          rotate_left
          ·intro w'
           go_simp
           with_reducible rfl
          rotate_left
          ·simp only [Act.put, List.setIfInBounds_toArray, List.set_cons_zero, List.set_cons_succ, i64_w, i32_w]
           rfl
          refine take_ (i := 0) (N := some 55) (v := ?_) (a' := ?_) #[true, true, false, false, true, false, false, false, false, false, false, false, false, false, false, false, false, false, false, false] rfl rfl (take_ofW HT_.out HW_.out (by kernel_rfl)) (fun _ _ _ h => h) (Or.inl ⟨by rfl, ?_⟩) hHeld ?_ ?_
          rotate_left
          ·rintro w' ⟨s0, s1⟩
           go_simp
           with_reducible rfl
          rotate_left
          ·simp only [Act.put, List.setIfInBounds_toArray, List.set_cons_zero, List.set_cons_succ, i64_w, i32_w]
           rfl
          refine take_ (i := 3) (N := some 58) (v := ?_) (a' := ?_) #[true, true, false, true, true, false, false, false, false, false, false, false, false, false, false, false, false, false, false, false] rfl rfl (take_ofW HT_.out HW_.out (by kernel_rfl)) (fun _ _ _ h => h) (Or.inl ⟨by rfl, ?_⟩) hHeld ?_ ?_
          rotate_left
          ·rintro w' ⟨s0, s1⟩
           go_simp
           with_reducible rfl
          rotate_left
          ·simp only [Act.put, List.setIfInBounds_toArray, List.set_cons_zero, List.set_cons_succ, i64_w, i32_w]
           rfl
          refine one_ (i := 2) (N := some 57) #[true, true, true, true, true, false, false, false, false, false, false, false, false, false, false, false, false, false, false, false] rfl rfl (one_of HT_.out (by kernel_rfl)) (by decide) (fun K hK => ?_)
          refine goes_ Tryz.func8 (by kernel_rfl) rfl #[.agg #[.string t424, .slice Ao18 t425.length co18], .string (a1.extract 0 ((ji5) : Int).toNat)] (by rfl) rfl rfl (by (try simp only [List.map_toArray, List.map_cons, List.map_nil]); first | done | (simp only [hji5]; rfl) | rfl | (simp only [List.length_drop, List.length_take]; rfl)) ?_
          with_reducible refine (c_Children.calls k1 t424 _ _ t425 (a1.extract 0 ((ji5) : Int).toNat) t463 _ ?side1 ?side2 ?side3 A69.out).mono ?_
          (case side1 => repeat (first | exact (Kd.R_reads' HO_423001.out).2.2 | (with_reducible refine Kd.C_alloc ?_ _) | (with_reducible refine Kd.C_drewN ?_ _) | (with_reducible refine Kd.C_drew ?_)))
          (case side2 => exact (Kd.R_reads' HO_423001.out).2.1)
          (case side3 => first | exact HG.out | exact GL.below HG.out (by repeat (with_reducible first | exact HB.out | apply b_a | apply b_n | apply b_d | refine below_set ?_ GE422.out | refine below_set ?_ GE433.out)))
          rintro e w89 ⟨v464, rfl, ho0, hb⟩
          refine ⟨_, rfl, ?_⟩
          have n0_ := mk0 (Kd.R_elder' (by (with_reducible repeat (first | apply r_a | apply r_n | apply r_d)); exact HO_30.out) (Kd.R_base ho0) hb)
          have n1_ := mk0 (Kd.R_elder' (by (with_reducible repeat (first | apply r_a | apply r_n | apply r_d)); exact HO_423001.out) (Kd.R_base ho0) hb)
          have n2_ := mk0 (Kd.R_elder' (by (with_reducible repeat (first | apply r_a | apply r_n | apply r_d)); exact HO_434001.out) (Kd.R_base ho0) hb)
          have n3_ := mk0 (Kd.R_lower (Kd.R_new' (Kd.R_new' (Kd.R_new' ho0 (Kd.R_lt (by (with_reducible repeat (first | apply r_a | apply r_n | apply r_d)); exact HO_30.out))) (Kd.R_lt (by (with_reducible repeat (first | apply r_a | apply r_n | apply r_d)); exact HO_423001.out))) (Kd.R_lt (by (with_reducible repeat (first | apply r_a | apply r_n | apply r_d)); exact HO_434001.out))) (below_size (by repeat (with_reducible first | exact HB.out | apply b_a | apply b_n | apply b_d | refine below_set ?_ GE422.out | refine below_set ?_ GE433.out))))
          have n4_ := mk0 (blk_below (g := gb422) (o := .cells #[.string t424, .slice Ao18 t425.length co18] 24 (0, 0)) (by (with_reducible repeat (first | refine blk_drewN ?_ _ | refine blk_drew ?_ | refine blk_alloc ?_ _)); exact BK422.out) hb)
          have n5_ := mk0 (blk_below (g := gb433) (o := .cells #[.string t428, .slice Ao24 t429.length co24] 24 (0, 0)) (by (with_reducible repeat (first | refine blk_drewN ?_ _ | refine blk_drew ?_ | refine blk_alloc ?_ _)); exact BK433.out) hb)
          have n6_ := mk0 (below_step (by repeat (with_reducible first | exact HB.out | apply b_a | apply b_n | apply b_d | refine below_set ?_ GE422.out | refine below_set ?_ GE433.out)) hb)
          clear HO_30
          clear HO_423001
          clear HO_434001
          clear BK422
          clear BK433
          clear HB
          have HO_30 := n0_
          have HO_423001 := n1_
          have HO_434001 := n2_
          have HO465 := n3_
          have BK422 := n4_
          have BK433 := n5_
          have HB := n6_
          clear n0_ n1_ n2_ n3_ n4_ n5_ n6_
          (try clear hb)
          (try clear hb2)
          (try clear hk)
          (try clear hi)
          (try clear ho0)
          refine hK.out _ _ ⟨(blk_cell BK422.out 0).trans rfl, (blk_cell BK422.out 1).trans rfl⟩ (fun hHeld => ?_)
          clear hK K
          refine norm_ (a' := ?_) ?_ ?_
          rotate_left
          ·show Act.put _ (some 57) _ = _
           simp only [Act.put, List.setIfInBounds_toArray, List.set_cons_zero, List.set_cons_succ, i64_w, i32_w]
           rfl
          refine one_ (i := 5) (N := some 60) #[true, true, true, true, true, true, false, false, false, false, false, false, false, false, false, false, false, false, false, false] rfl rfl (one_of HT_.out (by kernel_rfl)) (by decide) (fun K hK => ?_)
          refine goes_ Tryz.func9 (by kernel_rfl) rfl #[.agg #[.string t424, .slice Ao18 t425.length co18], .string (a1.extract 0 ((ji5) : Int).toNat)] (by rfl) rfl rfl (by (try simp only [List.map_toArray, List.map_cons, List.map_nil]); first | done | (simp only [hji5]; rfl) | rfl | (simp only [List.length_drop, List.length_take]; rfl)) ?_
          with_reducible refine (r6_Children.calls k1 t424 _ _ t425 (a1.extract 0 ((ji5) : Int).toNat) t466 _ ?side1 ?side2 A70.out).mono ?_
          (case side1 => repeat (first | exact (Kd.R_reads' HO_423001.out).2.2 | (with_reducible refine Kd.C_alloc ?_ _) | (with_reducible refine Kd.C_drewN ?_ _) | (with_reducible refine Kd.C_drew ?_)))
          (case side2 => exact (Kd.R_reads' HO_423001.out).2.1)
          rintro e w90 ⟨v467, rfl, ho0, hb⟩
          refine ⟨_, rfl, ?_⟩
          have n0_ := mk0 (Kd.R_elder' (by (with_reducible repeat (first | apply r_a | apply r_n | apply r_d)); exact HO_30.out) (Kd.R_base ho0) hb)
          have n1_ := mk0 (Kd.R_elder' (by (with_reducible repeat (first | apply r_a | apply r_n | apply r_d)); exact HO_423001.out) (Kd.R_base ho0) hb)
          have n2_ := mk0 (Kd.R_elder' (by (with_reducible repeat (first | apply r_a | apply r_n | apply r_d)); exact HO_434001.out) (Kd.R_base ho0) hb)
          have n3_ := mk0 (Kd.R_elder' (by (with_reducible repeat (first | apply r_a | apply r_n | apply r_d)); exact HO465.out) (Kd.R_base ho0) hb)
          have n4_ := mk0 (Kd.R_lower (Kd.R_new' (Kd.R_new' (Kd.R_new' (Kd.R_new' ho0 (Kd.R_lt (by (with_reducible repeat (first | apply r_a | apply r_n | apply r_d)); exact HO_30.out))) (Kd.R_lt (by (with_reducible repeat (first | apply r_a | apply r_n | apply r_d)); exact HO_423001.out))) (Kd.R_lt (by (with_reducible repeat (first | apply r_a | apply r_n | apply r_d)); exact HO_434001.out))) (Kd.R_lt (by (with_reducible repeat (first | apply r_a | apply r_n | apply r_d)); exact HO465.out))) (below_size (by repeat (with_reducible first | exact HB.out | apply b_a | apply b_n | apply b_d | refine below_set ?_ GE422.out | refine below_set ?_ GE433.out))))
          have n5_ := mk0 (blk_below (g := gb422) (o := .cells #[.string t424, .slice Ao18 t425.length co18] 24 (0, 0)) (by (with_reducible repeat (first | refine blk_drewN ?_ _ | refine blk_drew ?_ | refine blk_alloc ?_ _)); exact BK422.out) hb)
          have n6_ := mk0 (blk_below (g := gb433) (o := .cells #[.string t428, .slice Ao24 t429.length co24] 24 (0, 0)) (by (with_reducible repeat (first | refine blk_drewN ?_ _ | refine blk_drew ?_ | refine blk_alloc ?_ _)); exact BK433.out) hb)
          have n7_ := mk0 (below_step (by repeat (with_reducible first | exact HB.out | apply b_a | apply b_n | apply b_d | refine below_set ?_ GE422.out | refine below_set ?_ GE433.out)) hb)
          clear HO_30
          clear HO_423001
          clear HO_434001
          clear HO465
          clear BK422
          clear BK433
          clear HB
          have HO_30 := n0_
          have HO_423001 := n1_
          have HO_434001 := n2_
          have HO465 := n3_
          have HO468 := n4_
          have BK422 := n5_
          have BK433 := n6_
          have HB := n7_
          clear n0_ n1_ n2_ n3_ n4_ n5_ n6_ n7_
          (try clear hb)
          (try clear hb2)
          (try clear hk)
          (try clear hi)
          (try clear ho0)
          obtain ⟨Ao91, co91, eo91⟩ := Kd.R_slice HO465.out
          (first | subst eo91 | (injection eo91 with f1_ f2_ f3_; have f4_ := f1_.symm; have f5_ := f3_.symm; clear f1_ f2_ f3_; subst f4_; subst f5_))
          obtain ⟨Ao92, co92, eo92⟩ := Kd.R_slice HO468.out
          (first | subst eo92 | (injection eo92 with f1_ f2_ f3_; have f4_ := f1_.symm; have f5_ := f3_.symm; clear f1_ f2_ f3_; subst f4_; subst f5_))
          refine hK.out _ _ ⟨(blk_cell BK422.out 0).trans rfl, (blk_cell BK422.out 1).trans rfl⟩ (fun hHeld => ?_)
          clear hK K
          refine norm_ (a' := ?_) ?_ ?_
          rotate_left
          ·show Act.put _ (some 60) _ = _
           simp only [Act.put, List.setIfInBounds_toArray, List.set_cons_zero, List.set_cons_succ, i64_w, i32_w]
           rfl
          refine one_ (i := 6) (N := some 61) #[true, true, true, true, true, true, true, false, false, false, false, false, false, false, false, false, false, false, false, false] rfl rfl (one_of HT_.out (by kernel_rfl)) (by decide) (fun K hK => ?_)
          refine goes_ Tryz.func7 (by kernel_rfl) rfl #[.slice Ao91 t463.length co91, .slice Ao92 t466.length co92] (by rfl) rfl rfl (by (try simp only [List.map_toArray, List.map_cons, List.map_nil]); first | done | rfl | (simp only [List.length_drop, List.length_take]; rfl)) ?_
          with_reducible refine (r6_SameStrings.calls k1 _ _ t463 _ _ t466 true _ ?side1 ?side2 ?side3 ?side4 A71.out).mono ?_
          (case side1 => repeat (first | exact (Kd.R_reads' HO465.out).2.2 | (with_reducible refine Kd.C_alloc ?_ _) | (with_reducible refine Kd.C_drewN ?_ _) | (with_reducible refine Kd.C_drew ?_)))
          (case side2 => exact (Kd.R_reads' HO465.out).2.1)
          (case side3 => repeat (first | exact (Kd.R_reads' HO468.out).2.2 | (with_reducible refine Kd.C_alloc ?_ _) | (with_reducible refine Kd.C_drewN ?_ _) | (with_reducible refine Kd.C_drew ?_)))
          (case side4 => exact (Kd.R_reads' HO468.out).2.1)
          rintro e w' ⟨rfl, ⟨nd, rfl⟩⟩
          refine ⟨_, rfl, ?_⟩
          refine hK.out _ _ ⟨(blk_cell BK422.out 0).trans rfl, (blk_cell BK422.out 1).trans rfl⟩ (fun hHeld => ?_)
          clear hK K
          refine norm_ (a' := ?_) ?_ ?_
          rotate_left
          ·show Act.put _ (some 61) _ = _
           simp only [Act.put, List.setIfInBounds_toArray, List.set_cons_zero, List.set_cons_succ, i64_w, i32_w]
           rfl
          refine pure_ (i := 7) (N := some 62) (v := ?_) (a' := ?_) #[true, true, true, true, true, true, true, true, false, false, false, false, false, false, false, false, false, false, false, false] rfl rfl (any_of HT_.out (by kernel_rfl)) (fun _ _ _ h => h) (Or.inl ⟨by rfl, ?_⟩) ?_ ?_
          rotate_left
          ·intro w'
           go_simp
           with_reducible rfl
          rotate_left
          ·simp only [Act.put, List.setIfInBounds_toArray, List.set_cons_zero, List.set_cons_succ, i64_w, i32_w]
           rfl
          refine pure_ (i := 9) (N := some 64) (v := ?_) (a' := ?_) #[true, true, true, true, true, true, true, true, false, true, false, false, false, false, false, false, false, false, false, false] rfl rfl (any_of HT_.out (by kernel_rfl)) (fun _ _ _ h => h) (Or.inl ⟨by rfl, ?_⟩) ?_ ?_
          rotate_left
          ·intro w'
           go_simp
           with_reducible rfl
          rotate_left
          ·simp only [Act.put, List.setIfInBounds_toArray, List.set_cons_zero, List.set_cons_succ, i64_w, i32_w]
           rfl
          refine pure_ (i := 12) (N := some 67) (v := ?_) (a' := ?_) #[true, true, true, true, true, true, true, true, false, true, false, false, true, false, false, false, false, false, false, false] rfl rfl (any_of HT_.out (by kernel_rfl)) (fun _ _ _ h => h) (Or.inl ⟨by rfl, ?_⟩) ?_ ?_
          rotate_left
          ·intro w'
           go_simp
           with_reducible rfl
          rotate_left
          ·simp only [Act.put, List.setIfInBounds_toArray, List.set_cons_zero, List.set_cons_succ, i64_w, i32_w]
           rfl
          refine take_ (i := 8) (N := some 63) (v := ?_) (a' := ?_) #[true, true, true, true, true, true, true, true, true, true, false, false, true, false, false, false, false, false, false, false] rfl rfl (take_ofW HT_.out HW_.out (by kernel_rfl)) (fun _ _ _ h => h) (Or.inl ⟨by rfl, ?_⟩) hHeld ?_ ?_
          rotate_left
          ·rintro w' ⟨s0, s1⟩
           go_simp
           with_reducible rfl
          rotate_left
          ·simp only [Act.put, List.setIfInBounds_toArray, List.set_cons_zero, List.set_cons_succ, i64_w, i32_w]
           rfl
          refine take_ (i := 11) (N := some 66) (v := ?_) (a' := ?_) #[true, true, true, true, true, true, true, true, true, true, false, true, true, false, false, false, false, false, false, false] rfl rfl (take_ofW HT_.out HW_.out (by kernel_rfl)) (fun _ _ _ h => h) (Or.inl ⟨by rfl, ?_⟩) hHeld ?_ ?_
          rotate_left
          ·rintro w' ⟨s0, s1⟩
           go_simp
           with_reducible rfl
          rotate_left
          ·simp only [Act.put, List.setIfInBounds_toArray, List.set_cons_zero, List.set_cons_succ, i64_w, i32_w]
           rfl
          refine one_ (i := 10) (N := some 65) #[true, true, true, true, true, true, true, true, true, true, true, true, true, false, false, false, false, false, false, false] rfl rfl (one_of HT_.out (by kernel_rfl)) (by decide) (fun K hK => ?_)
          refine goes_ Tryz.func10 (by kernel_rfl) rfl #[.agg #[.string t424, .slice Ao18 t425.length co18], .string (a1.extract 0 ((ji5) : Int).toNat)] (by rfl) rfl rfl (by (try simp only [List.map_toArray, List.map_cons, List.map_nil]); first | done | (simp only [hji5]; rfl) | rfl | (simp only [List.length_drop, List.length_take]; rfl)) ?_
          with_reducible refine (c_Leaves.calls k1 t424 _ _ t425 (a1.extract 0 ((ji5) : Int).toNat) t470 _ ?side1 ?side2 ?side3 A73.out).mono ?_
          (case side1 => repeat (first | exact (Kd.R_reads' HO_423001.out).2.2 | (with_reducible refine Kd.C_alloc ?_ _) | (with_reducible refine Kd.C_drewN ?_ _) | (with_reducible refine Kd.C_drew ?_)))
          (case side2 => exact (Kd.R_reads' HO_423001.out).2.1)
          (case side3 => first | exact HG.out | exact GL.below HG.out (by repeat (with_reducible first | exact HB.out | apply b_a | apply b_n | apply b_d | refine below_set ?_ GE422.out | refine below_set ?_ GE433.out)))
          rintro e w93 ⟨v471, rfl, ho0, hb⟩
          refine ⟨_, rfl, ?_⟩
          have n0_ := mk0 (Kd.R_elder' (by (with_reducible repeat (first | apply r_a | apply r_n | apply r_d)); exact HO_30.out) (Kd.R_base ho0) hb)
          have n1_ := mk0 (Kd.R_elder' (by (with_reducible repeat (first | apply r_a | apply r_n | apply r_d)); exact HO_423001.out) (Kd.R_base ho0) hb)
          have n2_ := mk0 (Kd.R_elder' (by (with_reducible repeat (first | apply r_a | apply r_n | apply r_d)); exact HO_434001.out) (Kd.R_base ho0) hb)
          have n3_ := mk0 (Kd.R_elder' (by (with_reducible repeat (first | apply r_a | apply r_n | apply r_d)); exact HO465.out) (Kd.R_base ho0) hb)
          have n4_ := mk0 (Kd.R_elder' (by (with_reducible repeat (first | apply r_a | apply r_n | apply r_d)); exact HO468.out) (Kd.R_base ho0) hb)
          have n5_ := mk0 (Kd.R_lower (Kd.R_new' (Kd.R_new' (Kd.R_new' (Kd.R_new' (Kd.R_new' ho0 (Kd.R_lt (by (with_reducible repeat (first | apply r_a | apply r_n | apply r_d)); exact HO_30.out))) (Kd.R_lt (by (with_reducible repeat (first | apply r_a | apply r_n | apply r_d)); exact HO_423001.out))) (Kd.R_lt (by (with_reducible repeat (first | apply r_a | apply r_n | apply r_d)); exact HO_434001.out))) (Kd.R_lt (by (with_reducible repeat (first | apply r_a | apply r_n | apply r_d)); exact HO465.out))) (Kd.R_lt (by (with_reducible repeat (first | apply r_a | apply r_n | apply r_d)); exact HO468.out))) (below_size (by repeat (with_reducible first | exact HB.out | apply b_a | apply b_n | apply b_d | refine below_set ?_ GE422.out | refine below_set ?_ GE433.out))))
          have n6_ := mk0 (blk_below (g := gb422) (o := .cells #[.string t424, .slice Ao18 t425.length co18] 24 (0, 0)) (by (with_reducible repeat (first | refine blk_drewN ?_ _ | refine blk_drew ?_ | refine blk_alloc ?_ _)); exact BK422.out) hb)
          have n7_ := mk0 (blk_below (g := gb433) (o := .cells #[.string t428, .slice Ao24 t429.length co24] 24 (0, 0)) (by (with_reducible repeat (first | refine blk_drewN ?_ _ | refine blk_drew ?_ | refine blk_alloc ?_ _)); exact BK433.out) hb)
          have n8_ := mk0 (below_step (by repeat (with_reducible first | exact HB.out | apply b_a | apply b_n | apply b_d | refine below_set ?_ GE422.out | refine below_set ?_ GE433.out)) hb)
          clear HO_30
          clear HO_423001
          clear HO_434001
          clear HO465
          clear HO468
          clear BK422
          clear BK433
          clear HB
          have HO_30 := n0_
          have HO_423001 := n1_
          have HO_434001 := n2_
          have HO465 := n3_
          have HO468 := n4_
          have HO472 := n5_
          have BK422 := n6_
          have BK433 := n7_
          have HB := n8_
          clear n0_ n1_ n2_ n3_ n4_ n5_ n6_ n7_ n8_
          (try clear hb)
          (try clear hb2)
          (try clear hk)
          (try clear hi)
          (try clear ho0)
          refine hK.out _ _ ⟨(blk_cell BK422.out 0).trans rfl, (blk_cell BK422.out 1).trans rfl⟩ (fun hHeld => ?_)
          clear hK K
          refine norm_ (a' := ?_) ?_ ?_
          rotate_left
          ·show Act.put _ (some 65) _ = _
           simp only [Act.put, List.setIfInBounds_toArray, List.set_cons_zero, List.set_cons_succ, i64_w, i32_w]
           rfl
          refine one_ (i := 13) (N := some 68) #[true, true, true, true, true, true, true, true, true, true, true, true, true, true, false, false, false, false, false, false] rfl rfl (one_of HT_.out (by kernel_rfl)) (by decide) (fun K hK => ?_)
          refine goes_ Tryz.func11 (by kernel_rfl) rfl #[.agg #[.string t424, .slice Ao18 t425.length co18], .string (a1.extract 0 ((ji5) : Int).toNat)] (by rfl) rfl rfl (by (try simp only [List.map_toArray, List.map_cons, List.map_nil]); first | done | (simp only [hji5]; rfl) | rfl | (simp only [List.length_drop, List.length_take]; rfl)) ?_
          with_reducible refine (r6_Leaves.calls k1 t424 _ _ t425 (a1.extract 0 ((ji5) : Int).toNat) t473 _ ?side1 ?side2 A74.out).mono ?_
          (case side1 => repeat (first | exact (Kd.R_reads' HO_423001.out).2.2 | (with_reducible refine Kd.C_alloc ?_ _) | (with_reducible refine Kd.C_drewN ?_ _) | (with_reducible refine Kd.C_drew ?_)))
          (case side2 => exact (Kd.R_reads' HO_423001.out).2.1)
          rintro e w94 ⟨v474, rfl, ho0, hb⟩
          refine ⟨_, rfl, ?_⟩
          have n0_ := mk0 (Kd.R_elder' (by (with_reducible repeat (first | apply r_a | apply r_n | apply r_d)); exact HO_30.out) (Kd.R_base ho0) hb)
          have n1_ := mk0 (Kd.R_elder' (by (with_reducible repeat (first | apply r_a | apply r_n | apply r_d)); exact HO_423001.out) (Kd.R_base ho0) hb)
          have n2_ := mk0 (Kd.R_elder' (by (with_reducible repeat (first | apply r_a | apply r_n | apply r_d)); exact HO_434001.out) (Kd.R_base ho0) hb)
          have n3_ := mk0 (Kd.R_elder' (by (with_reducible repeat (first | apply r_a | apply r_n | apply r_d)); exact HO465.out) (Kd.R_base ho0) hb)
          have n4_ := mk0 (Kd.R_elder' (by (with_reducible repeat (first | apply r_a | apply r_n | apply r_d)); exact HO468.out) (Kd.R_base ho0) hb)
          have n5_ := mk0 (Kd.R_elder' (by (with_reducible repeat (first | apply r_a | apply r_n | apply r_d)); exact HO472.out) (Kd.R_base ho0) hb)
          have n6_ := mk0 (Kd.R_lower (Kd.R_new' (Kd.R_new' (Kd.R_new' (Kd.R_new' (Kd.R_new' (Kd.R_new' ho0 (Kd.R_lt (by (with_reducible repeat (first | apply r_a | apply r_n | apply r_d)); exact HO_30.out))) (Kd.R_lt (by (with_reducible repeat (first | apply r_a | apply r_n | apply r_d)); exact HO_423001.out))) (Kd.R_lt (by (with_reducible repeat (first | apply r_a | apply r_n | apply r_d)); exact HO_434001.out))) (Kd.R_lt (by (with_reducible repeat (first | apply r_a | apply r_n | apply r_d)); exact HO465.out))) (Kd.R_lt (by (with_reducible repeat (first | apply r_a | apply r_n | apply r_d)); exact HO468.out))) (Kd.R_lt (by (with_reducible repeat (first | apply r_a | apply r_n | apply r_d)); exact HO472.out))) (below_size (by repeat (with_reducible first | exact HB.out | apply b_a | apply b_n | apply b_d | refine below_set ?_ GE422.out | refine below_set ?_ GE433.out))))
          have n7_ := mk0 (blk_below (g := gb422) (o := .cells #[.string t424, .slice Ao18 t425.length co18] 24 (0, 0)) (by (with_reducible repeat (first | refine blk_drewN ?_ _ | refine blk_drew ?_ | refine blk_alloc ?_ _)); exact BK422.out) hb)
          have n8_ := mk0 (blk_below (g := gb433) (o := .cells #[.string t428, .slice Ao24 t429.length co24] 24 (0, 0)) (by (with_reducible repeat (first | refine blk_drewN ?_ _ | refine blk_drew ?_ | refine blk_alloc ?_ _)); exact BK433.out) hb)
          have n9_ := mk0 (below_step (by repeat (with_reducible first | exact HB.out | apply b_a | apply b_n | apply b_d | refine below_set ?_ GE422.out | refine below_set ?_ GE433.out)) hb)
          clear HO_30
          clear HO_423001
          clear HO_434001
          clear HO465
          clear HO468
          clear HO472
          clear BK422
          clear BK433
          clear HB
          have HO_30 := n0_
          have HO_423001 := n1_
          have HO_434001 := n2_
          have HO465 := n3_
          have HO468 := n4_
          have HO472 := n5_
          have HO475 := n6_
          have BK422 := n7_
          have BK433 := n8_
          have HB := n9_
          clear n0_ n1_ n2_ n3_ n4_ n5_ n6_ n7_ n8_ n9_
          (try clear hb)
          (try clear hb2)
          (try clear hk)
          (try clear hi)
          (try clear ho0)
          obtain ⟨Ao95, co95, eo95⟩ := Kd.R_slice HO472.out
          (first | subst eo95 | (injection eo95 with f1_ f2_ f3_; have f4_ := f1_.symm; have f5_ := f3_.symm; clear f1_ f2_ f3_; subst f4_; subst f5_))
          obtain ⟨Ao96, co96, eo96⟩ := Kd.R_slice HO475.out
          (first | subst eo96 | (injection eo96 with f1_ f2_ f3_; have f4_ := f1_.symm; have f5_ := f3_.symm; clear f1_ f2_ f3_; subst f4_; subst f5_))
          refine hK.out _ _ ⟨(blk_cell BK422.out 0).trans rfl, (blk_cell BK422.out 1).trans rfl⟩ (fun hHeld => ?_)
          clear hK K
          refine norm_ (a' := ?_) ?_ ?_
          rotate_left
          ·show Act.put _ (some 68) _ = _
           simp only [Act.put, List.setIfInBounds_toArray, List.set_cons_zero, List.set_cons_succ, i64_w, i32_w]
           rfl
          refine one_ (i := 14) (N := some 69) #[true, true, true, true, true, true, true, true, true, true, true, true, true, true, true, false, false, false, false, false] rfl rfl (one_of HT_.out (by kernel_rfl)) (by decide) (fun K hK => ?_)
          refine goes_ Tryz.func7 (by kernel_rfl) rfl #[.slice Ao95 t470.length co95, .slice Ao96 t473.length co96] (by rfl) rfl rfl (by (try simp only [List.map_toArray, List.map_cons, List.map_nil]); first | done | rfl | (simp only [List.length_drop, List.length_take]; rfl)) ?_
          with_reducible refine (r6_SameStrings.calls k1 _ _ t470 _ _ t473 false _ ?side1 ?side2 ?side3 ?side4 A75.out).mono ?_
          (case side1 => repeat (first | exact (Kd.R_reads' HO472.out).2.2 | (with_reducible refine Kd.C_alloc ?_ _) | (with_reducible refine Kd.C_drewN ?_ _) | (with_reducible refine Kd.C_drew ?_)))
          (case side2 => exact (Kd.R_reads' HO472.out).2.1)
          (case side3 => repeat (first | exact (Kd.R_reads' HO475.out).2.2 | (with_reducible refine Kd.C_alloc ?_ _) | (with_reducible refine Kd.C_drewN ?_ _) | (with_reducible refine Kd.C_drew ?_)))
          (case side4 => exact (Kd.R_reads' HO475.out).2.1)
          rintro e w' ⟨rfl, ⟨nd, rfl⟩⟩
          refine ⟨_, rfl, ?_⟩
          refine hK.out _ _ ⟨(blk_cell BK422.out 0).trans rfl, (blk_cell BK422.out 1).trans rfl⟩ (fun hHeld => ?_)
          clear hK K
          refine norm_ (a' := ?_) ?_ ?_
          rotate_left
          ·show Act.put _ (some 69) _ = _
           simp only [Act.put, List.setIfInBounds_toArray, List.set_cons_zero, List.set_cons_succ, i64_w, i32_w]
           rfl
          refine pure_ (i := 15) (N := some 70) (v := ?_) (a' := ?_) #[true, true, true, true, true, true, true, true, true, true, true, true, true, true, true, true, false, false, false, false] rfl rfl (any_of HT_.out (by kernel_rfl)) (fun _ _ _ h => h) (Or.inl ⟨by rfl, ?_⟩) ?_ ?_
          rotate_left
          ·intro w'
           go_simp
           with_reducible rfl
          rotate_left
          ·simp only [Act.put, List.setIfInBounds_toArray, List.set_cons_zero, List.set_cons_succ, i64_w, i32_w]
           rfl
          refine pure_ (i := 16) (N := some 71) (v := ?_) (a' := ?_) #[true, true, true, true, true, true, true, true, true, true, true, true, true, true, true, true, true, false, false, false] rfl rfl (any_of HT_.out (by kernel_rfl)) (fun _ _ _ h => h) (Or.inl ⟨by rfl, ?_⟩) ?_ ?_
          rotate_left
          ·intro w'
           go_simp
           with_reducible rfl
          rotate_left
          ·simp only [Act.put, List.setIfInBounds_toArray, List.set_cons_zero, List.set_cons_succ, i64_w, i32_w]
           rfl
          refine pure_ (i := 17) (N := some 72) (v := undef) (a' := ?_) #[true, true, true, true, true, true, true, true, true, true, true, true, true, true, true, true, true, true, false, false] rfl rfl (any_of HT_.out (by kernel_rfl)) (fun _ _ _ h => h) (Or.inr ⟨by rfl, rfl⟩) ?_ ?_
          rotate_left
          ·simp only [Act.put, List.setIfInBounds_toArray, List.set_cons_zero, List.set_cons_succ, i64_w, i32_w]
           rfl
          refine pure_ (i := 18) (N := some 73) (v := ?_) (a' := ?_) #[true, true, true, true, true, true, true, true, true, true, true, true, true, true, true, true, true, true, true, false] rfl rfl (any_of HT_.out (by kernel_rfl)) (fun _ _ _ h => h) (Or.inl ⟨by rfl, ?_⟩) ?_ ?_
          rotate_left
          ·intro w'
           go_simp
           with_reducible rfl
          rotate_left
          ·simp only [Act.put, List.setIfInBounds_toArray, List.set_cons_zero, List.set_cons_succ, i64_w, i32_w]
           rfl
          refine pure_ (i := 19) (N := some 6) (v := ?_) (a' := ?_) #[true, true, true, true, true, true, true, true, true, true, true, true, true, true, true, true, true, true, true, true] rfl rfl (any_of HT_.out (by kernel_rfl)) (fun _ _ _ h => h) (Or.inl ⟨by rfl, ?_⟩) ?_ ?_
          rotate_left
          ·intro w'
           go_simp
           with_reducible rfl
          rotate_left
          ·simp only [Act.put, List.setIfInBounds_toArray, List.set_cons_zero, List.set_cons_succ, i64_w, i32_w]
           rfl
          refine done_ (done_of HT_.out (by kernel_rfl)) ?_
          try go_wp2
          go_ret
          exact ⟨by first | rfl | (simp [errW_none, errW_some] <;> rfl) | (simp only [← hji5]; first | rfl | (simp [errW_none, errW_some] <;> rfl)) | (simp [*, errW_none, errW_some] <;> rfl), by repeat (first | (with_reducible first | exact HB.out | apply b_a | apply b_n | apply b_d | refine below_set ?_ GE422.out | refine below_set ?_ GE433.out) | exact HB.out)⟩
        ·replace c72 := Bool.eq_false_iff.mpr c72
         subst c72
         have H1 : (some false) = some r := by rw [if_neg (show ¬ (false = true) by decide)] at H; exact H
         clear H
         have H := H1
         clear H1
         obtain rfl := Option.some.inj H
         try go_wp2
         have n0_ := mk0 (r_d HO_30.out)
         have n1_ := mk0 (r_d HO_423001.out)
         have n2_ := mk0 (r_d HO_434001.out)
         have n3_ := mk0 (blk_drew BK422.out)
         have n4_ := mk0 (blk_drew BK433.out)
         have n5_ := mk0 (b_d HB.out)
         clear HO_30
         clear HO_423001
         clear HO_434001
         clear BK422
         clear BK433
         clear HB
         have HO_30 := n0_
         have HO_423001 := n1_
         have HO_434001 := n2_
         have BK422 := n3_
         have BK433 := n4_
         have HB := n5_
         clear n0_ n1_ n2_ n3_ n4_ n5_
         refine start_ (n := 20) (S := fun w' => w'.cell? ⟨gb422, 0, none⟩ = some (.string t424) ∧ w'.cell? ⟨gb422, 1, none⟩ = some (.slice Ao18 t425.length co18)) (ds := []) #[false, false, false, false, false, false, false, false, false, false, false, false, false, false, false, false, false, false, false, false] (by kernel_rfl) rfl rfl ⟨(blk_cell BK422.out 0).trans rfl, (blk_cell BK422.out 1).trans rfl⟩ (fun hHeld => ?_); refine with_tabW w6_ClassificationLeaves.tab11 w6_ClassificationLeaves.bits11 (fun HT_ HW_ => ?_)
         generalize wr.drew = w97 at HO_30 HO_423001 HO_434001 BK422 BK433 HB hHeld ⊢
         refine pure_ (i := 1) (N := some 56) (v := ?_) (a' := ?_) #[false, true, false, false, false, false, false, false, false, false, false, false, false, false, false, false, false, false, false, false] rfl rfl (any_of HT_.out (by kernel_rfl)) (fun _ _ _ h => h) (Or.inl ⟨by rfl, ?_⟩) ?_ ?_
         rotate_left
         ·intro w'
          go_simp
          with_reducible rfl
         rotate_left
         ·simp only [Act.put, List.setIfInBounds_toArray, List.set_cons_zero, List.set_cons_succ, i64_w, i32_w]
          rfl
         refine pure_ (i := 4) (N := some 59) (v := ?_) (a' := ?_) #[false, true, false, false, true, false, false, false, false, false, false, false, false, false, false, false, false, false, false, false] rfl rfl (any_of HT_.out (by kernel_rfl)) (fun _ _ _ h => h) (Or.inl ⟨by rfl, ?_⟩) ?_ ?_
         rotate_left
         ·intro w'
          go_simp
          with_reducible rfl
         rotate_left
         ·simp only [Act.put, List.setIfInBounds_toArray, List.set_cons_zero, List.set_cons_succ, i64_w, i32_w]
          rfl
         refine take_ (i := 0) (N := some 55) (v := ?_) (a' := ?_) #[true, true, false, false, true, false, false, false, false, false, false, false, false, false, false, false, false, false, false, false] rfl rfl (take_ofW HT_.out HW_.out (by kernel_rfl)) (fun _ _ _ h => h) (Or.inl ⟨by rfl, ?_⟩) hHeld ?_ ?_
         rotate_left
         ·rintro w' ⟨s0, s1⟩
          go_simp
          with_reducible rfl
         rotate_left
         ·simp only [Act.put, List.setIfInBounds_toArray, List.set_cons_zero, List.set_cons_succ, i64_w, i32_w]
          rfl
         refine take_ (i := 3) (N := some 58) (v := ?_) (a' := ?_) #[true, true, false, true, true, false, false, false, false, false, false, false, false, false, false, false, false, false, false, false] rfl rfl (take_ofW HT_.out HW_.out (by kernel_rfl)) (fun _ _ _ h => h) (Or.inl ⟨by rfl, ?_⟩) hHeld ?_ ?_
         rotate_left
         ·rintro w' ⟨s0, s1⟩
          go_simp
          with_reducible rfl
         rotate_left
         ·simp only [Act.put, List.setIfInBounds_toArray, List.set_cons_zero, List.set_cons_succ, i64_w, i32_w]
          rfl
         refine one_ (i := 2) (N := some 57) #[true, true, true, true, true, false, false, false, false, false, false, false, false, false, false, false, false, false, false, false] rfl rfl (one_of HT_.out (by kernel_rfl)) (by decide) (fun K hK => ?_)
         refine goes_ Tryz.func8 (by kernel_rfl) rfl #[.agg #[.string t424, .slice Ao18 t425.length co18], .string (a1.extract 0 ((ji5) : Int).toNat)] (by rfl) rfl rfl (by (try simp only [List.map_toArray, List.map_cons, List.map_nil]); first | done | (simp only [hji5]; rfl) | rfl | (simp only [List.length_drop, List.length_take]; rfl)) ?_
         with_reducible refine (c_Children.calls k1 t424 _ _ t425 (a1.extract 0 ((ji5) : Int).toNat) t463 _ ?side1 ?side2 ?side3 A69.out).mono ?_
         (case side1 => repeat (first | exact (Kd.R_reads' HO_423001.out).2.2 | (with_reducible refine Kd.C_alloc ?_ _) | (with_reducible refine Kd.C_drewN ?_ _) | (with_reducible refine Kd.C_drew ?_)))
         (case side2 => exact (Kd.R_reads' HO_423001.out).2.1)
         (case side3 => first | exact HG.out | exact GL.below HG.out (by repeat (with_reducible first | exact HB.out | apply b_a | apply b_n | apply b_d | refine below_set ?_ GE422.out | refine below_set ?_ GE433.out)))
         rintro e w98 ⟨v464, rfl, ho0, hb⟩
         refine ⟨_, rfl, ?_⟩
         have n0_ := mk0 (Kd.R_elder' (by (with_reducible repeat (first | apply r_a | apply r_n | apply r_d)); exact HO_30.out) (Kd.R_base ho0) hb)
         have n1_ := mk0 (Kd.R_elder' (by (with_reducible repeat (first | apply r_a | apply r_n | apply r_d)); exact HO_423001.out) (Kd.R_base ho0) hb)
         have n2_ := mk0 (Kd.R_elder' (by (with_reducible repeat (first | apply r_a | apply r_n | apply r_d)); exact HO_434001.out) (Kd.R_base ho0) hb)
         have n3_ := mk0 (Kd.R_lower (Kd.R_new' (Kd.R_new' (Kd.R_new' ho0 (Kd.R_lt (by (with_reducible repeat (first | apply r_a | apply r_n | apply r_d)); exact HO_30.out))) (Kd.R_lt (by (with_reducible repeat (first | apply r_a | apply r_n | apply r_d)); exact HO_423001.out))) (Kd.R_lt (by (with_reducible repeat (first | apply r_a | apply r_n | apply r_d)); exact HO_434001.out))) (below_size (by repeat (with_reducible first | exact HB.out | apply b_a | apply b_n | apply b_d | refine below_set ?_ GE422.out | refine below_set ?_ GE433.out))))
         have n4_ := mk0 (blk_below (g := gb422) (o := .cells #[.string t424, .slice Ao18 t425.length co18] 24 (0, 0)) (by (with_reducible repeat (first | refine blk_drewN ?_ _ | refine blk_drew ?_ | refine blk_alloc ?_ _)); exact BK422.out) hb)
         have n5_ := mk0 (blk_below (g := gb433) (o := .cells #[.string t428, .slice Ao24 t429.length co24] 24 (0, 0)) (by (with_reducible repeat (first | refine blk_drewN ?_ _ | refine blk_drew ?_ | refine blk_alloc ?_ _)); exact BK433.out) hb)
         have n6_ := mk0 (below_step (by repeat (with_reducible first | exact HB.out | apply b_a | apply b_n | apply b_d | refine below_set ?_ GE422.out | refine below_set ?_ GE433.out)) hb)
         clear HO_30
         clear HO_423001
         clear HO_434001
         clear BK422
         clear BK433
         clear HB
         have HO_30 := n0_
         have HO_423001 := n1_
         have HO_434001 := n2_
         have HO465 := n3_
         have BK422 := n4_
         have BK433 := n5_
         have HB := n6_
         clear n0_ n1_ n2_ n3_ n4_ n5_ n6_
         (try clear hb)
         (try clear hb2)
         (try clear hk)
         (try clear hi)
         (try clear ho0)
         refine hK.out _ _ ⟨(blk_cell BK422.out 0).trans rfl, (blk_cell BK422.out 1).trans rfl⟩ (fun hHeld => ?_)
         clear hK K
         refine norm_ (a' := ?_) ?_ ?_
         rotate_left
         ·show Act.put _ (some 57) _ = _
          simp only [Act.put, List.setIfInBounds_toArray, List.set_cons_zero, List.set_cons_succ, i64_w, i32_w]
          rfl
         refine one_ (i := 5) (N := some 60) #[true, true, true, true, true, true, false, false, false, false, false, false, false, false, false, false, false, false, false, false] rfl rfl (one_of HT_.out (by kernel_rfl)) (by decide) (fun K hK => ?_)
         refine goes_ Tryz.func9 (by kernel_rfl) rfl #[.agg #[.string t424, .slice Ao18 t425.length co18], .string (a1.extract 0 ((ji5) : Int).toNat)] (by rfl) rfl rfl (by (try simp only [List.map_toArray, List.map_cons, List.map_nil]); first | done | (simp only [hji5]; rfl) | rfl | (simp only [List.length_drop, List.length_take]; rfl)) ?_
         with_reducible refine (r6_Children.calls k1 t424 _ _ t425 (a1.extract 0 ((ji5) : Int).toNat) t466 _ ?side1 ?side2 A70.out).mono ?_
         (case side1 => repeat (first | exact (Kd.R_reads' HO_423001.out).2.2 | (with_reducible refine Kd.C_alloc ?_ _) | (with_reducible refine Kd.C_drewN ?_ _) | (with_reducible refine Kd.C_drew ?_)))
         (case side2 => exact (Kd.R_reads' HO_423001.out).2.1)
         rintro e w99 ⟨v467, rfl, ho0, hb⟩
         refine ⟨_, rfl, ?_⟩
         have n0_ := mk0 (Kd.R_elder' (by (with_reducible repeat (first | apply r_a | apply r_n | apply r_d)); exact HO_30.out) (Kd.R_base ho0) hb)
         have n1_ := mk0 (Kd.R_elder' (by (with_reducible repeat (first | apply r_a | apply r_n | apply r_d)); exact HO_423001.out) (Kd.R_base ho0) hb)
         have n2_ := mk0 (Kd.R_elder' (by (with_reducible repeat (first | apply r_a | apply r_n | apply r_d)); exact HO_434001.out) (Kd.R_base ho0) hb)
         have n3_ := mk0 (Kd.R_elder' (by (with_reducible repeat (first | apply r_a | apply r_n | apply r_d)); exact HO465.out) (Kd.R_base ho0) hb)
         have n4_ := mk0 (Kd.R_lower (Kd.R_new' (Kd.R_new' (Kd.R_new' (Kd.R_new' ho0 (Kd.R_lt (by (with_reducible repeat (first | apply r_a | apply r_n | apply r_d)); exact HO_30.out))) (Kd.R_lt (by (with_reducible repeat (first | apply r_a | apply r_n | apply r_d)); exact HO_423001.out))) (Kd.R_lt (by (with_reducible repeat (first | apply r_a | apply r_n | apply r_d)); exact HO_434001.out))) (Kd.R_lt (by (with_reducible repeat (first | apply r_a | apply r_n | apply r_d)); exact HO465.out))) (below_size (by repeat (with_reducible first | exact HB.out | apply b_a | apply b_n | apply b_d | refine below_set ?_ GE422.out | refine below_set ?_ GE433.out))))
         have n5_ := mk0 (blk_below (g := gb422) (o := .cells #[.string t424, .slice Ao18 t425.length co18] 24 (0, 0)) (by (with_reducible repeat (first | refine blk_drewN ?_ _ | refine blk_drew ?_ | refine blk_alloc ?_ _)); exact BK422.out) hb)
         have n6_ := mk0 (blk_below (g := gb433) (o := .cells #[.string t428, .slice Ao24 t429.length co24] 24 (0, 0)) (by (with_reducible repeat (first | refine blk_drewN ?_ _ | refine blk_drew ?_ | refine blk_alloc ?_ _)); exact BK433.out) hb)
         have n7_ := mk0 (below_step (by repeat (with_reducible first | exact HB.out | apply b_a | apply b_n | apply b_d | refine below_set ?_ GE422.out | refine below_set ?_ GE433.out)) hb)
         clear HO_30
         clear HO_423001
         clear HO_434001
         clear HO465
         clear BK422
         clear BK433
         clear HB
         have HO_30 := n0_
         have HO_423001 := n1_
         have HO_434001 := n2_
         have HO465 := n3_
         have HO468 := n4_
         have BK422 := n5_
         have BK433 := n6_
         have HB := n7_
         clear n0_ n1_ n2_ n3_ n4_ n5_ n6_ n7_
         (try clear hb)
         (try clear hb2)
         (try clear hk)
         (try clear hi)
         (try clear ho0)
         obtain ⟨Ao100, co100, eo100⟩ := Kd.R_slice HO465.out
         (first | subst eo100 | (injection eo100 with f1_ f2_ f3_; have f4_ := f1_.symm; have f5_ := f3_.symm; clear f1_ f2_ f3_; subst f4_; subst f5_))
         obtain ⟨Ao101, co101, eo101⟩ := Kd.R_slice HO468.out
         (first | subst eo101 | (injection eo101 with f1_ f2_ f3_; have f4_ := f1_.symm; have f5_ := f3_.symm; clear f1_ f2_ f3_; subst f4_; subst f5_))
         refine hK.out _ _ ⟨(blk_cell BK422.out 0).trans rfl, (blk_cell BK422.out 1).trans rfl⟩ (fun hHeld => ?_)
         clear hK K
         refine norm_ (a' := ?_) ?_ ?_
         rotate_left
         ·show Act.put _ (some 60) _ = _
          simp only [Act.put, List.setIfInBounds_toArray, List.set_cons_zero, List.set_cons_succ, i64_w, i32_w]
          rfl
         refine one_ (i := 6) (N := some 61) #[true, true, true, true, true, true, true, false, false, false, false, false, false, false, false, false, false, false, false, false] rfl rfl (one_of HT_.out (by kernel_rfl)) (by decide) (fun K hK => ?_)
         refine goes_ Tryz.func7 (by kernel_rfl) rfl #[.slice Ao100 t463.length co100, .slice Ao101 t466.length co101] (by rfl) rfl rfl (by (try simp only [List.map_toArray, List.map_cons, List.map_nil]); first | done | rfl | (simp only [List.length_drop, List.length_take]; rfl)) ?_
         with_reducible refine (r6_SameStrings.calls k1 _ _ t463 _ _ t466 false _ ?side1 ?side2 ?side3 ?side4 A71.out).mono ?_
         (case side1 => repeat (first | exact (Kd.R_reads' HO465.out).2.2 | (with_reducible refine Kd.C_alloc ?_ _) | (with_reducible refine Kd.C_drewN ?_ _) | (with_reducible refine Kd.C_drew ?_)))
         (case side2 => exact (Kd.R_reads' HO465.out).2.1)
         (case side3 => repeat (first | exact (Kd.R_reads' HO468.out).2.2 | (with_reducible refine Kd.C_alloc ?_ _) | (with_reducible refine Kd.C_drewN ?_ _) | (with_reducible refine Kd.C_drew ?_)))
         (case side4 => exact (Kd.R_reads' HO468.out).2.1)
         rintro e w' ⟨rfl, ⟨nd, rfl⟩⟩
         refine ⟨_, rfl, ?_⟩
         refine hK.out _ _ ⟨(blk_cell BK422.out 0).trans rfl, (blk_cell BK422.out 1).trans rfl⟩ (fun hHeld => ?_)
         clear hK K
         refine norm_ (a' := ?_) ?_ ?_
         rotate_left
         ·show Act.put _ (some 61) _ = _
          simp only [Act.put, List.setIfInBounds_toArray, List.set_cons_zero, List.set_cons_succ, i64_w, i32_w]
          rfl
         refine pure_ (i := 7) (N := some 62) (v := ?_) (a' := ?_) #[true, true, true, true, true, true, true, true, false, false, false, false, false, false, false, false, false, false, false, false] rfl rfl (any_of HT_.out (by kernel_rfl)) (fun _ _ _ h => h) (Or.inl ⟨by rfl, ?_⟩) ?_ ?_
         rotate_left
         ·intro w'
          go_simp
          with_reducible rfl
         rotate_left
         ·simp only [Act.put, List.setIfInBounds_toArray, List.set_cons_zero, List.set_cons_succ, i64_w, i32_w]
          rfl
         refine pure_ (i := 8) (N := some 63) (v := undef) (a' := ?_) #[true, true, true, true, true, true, true, true, true, false, false, false, false, false, false, false, false, false, false, false] rfl rfl (any_of HT_.out (by kernel_rfl)) (fun _ _ _ h => h) (Or.inr ⟨by rfl, rfl⟩) ?_ ?_
         rotate_left
         ·simp only [Act.put, List.setIfInBounds_toArray, List.set_cons_zero, List.set_cons_succ, i64_w, i32_w]
          rfl
         refine pure_ (i := 9) (N := some 64) (v := undef) (a' := ?_) #[true, true, true, true, true, true, true, true, true, true, false, false, false, false, false, false, false, false, false, false] rfl rfl (any_of HT_.out (by kernel_rfl)) (fun _ _ _ h => h) (Or.inr ⟨by rfl, rfl⟩) ?_ ?_
         rotate_left
         ·simp only [Act.put, List.setIfInBounds_toArray, List.set_cons_zero, List.set_cons_succ, i64_w, i32_w]
          rfl
         refine pure_ (i := 10) (N := some 65) (v := undef) (a' := ?_) #[true, true, true, true, true, true, true, true, true, true, true, false, false, false, false, false, false, false, false, false] rfl rfl (any_of HT_.out (by kernel_rfl)) (fun _ _ _ h => h) (Or.inr ⟨by rfl, rfl⟩) ?_ ?_
         rotate_left
         ·simp only [Act.put, List.setIfInBounds_toArray, List.set_cons_zero, List.set_cons_succ, i64_w, i32_w]
          rfl
         refine pure_ (i := 11) (N := some 66) (v := undef) (a' := ?_) #[true, true, true, true, true, true, true, true, true, true, true, true, false, false, false, false, false, false, false, false] rfl rfl (any_of HT_.out (by kernel_rfl)) (fun _ _ _ h => h) (Or.inr ⟨by rfl, rfl⟩) ?_ ?_
         rotate_left
         ·simp only [Act.put, List.setIfInBounds_toArray, List.set_cons_zero, List.set_cons_succ, i64_w, i32_w]
          rfl
         refine pure_ (i := 12) (N := some 67) (v := undef) (a' := ?_) #[true, true, true, true, true, true, true, true, true, true, true, true, true, false, false, false, false, false, false, false] rfl rfl (any_of HT_.out (by kernel_rfl)) (fun _ _ _ h => h) (Or.inr ⟨by rfl, rfl⟩) ?_ ?_
         rotate_left
         ·simp only [Act.put, List.setIfInBounds_toArray, List.set_cons_zero, List.set_cons_succ, i64_w, i32_w]
          rfl
         refine pure_ (i := 13) (N := some 68) (v := undef) (a' := ?_) #[true, true, true, true, true, true, true, true, true, true, true, true, true, true, false, false, false, false, false, false] rfl rfl (any_of HT_.out (by kernel_rfl)) (fun _ _ _ h => h) (Or.inr ⟨by rfl, rfl⟩) ?_ ?_
         rotate_left
         ·simp only [Act.put, List.setIfInBounds_toArray, List.set_cons_zero, List.set_cons_succ, i64_w, i32_w]
          rfl
         refine pure_ (i := 14) (N := some 69) (v := undef) (a' := ?_) #[true, true, true, true, true, true, true, true, true, true, true, true, true, true, true, false, false, false, false, false] rfl rfl (any_of HT_.out (by kernel_rfl)) (fun _ _ _ h => h) (Or.inr ⟨by rfl, rfl⟩) ?_ ?_
         rotate_left
         ·simp only [Act.put, List.setIfInBounds_toArray, List.set_cons_zero, List.set_cons_succ, i64_w, i32_w]
          rfl
         refine pure_ (i := 15) (N := some 70) (v := ?_) (a' := ?_) #[true, true, true, true, true, true, true, true, true, true, true, true, true, true, true, true, false, false, false, false] rfl rfl (any_of HT_.out (by kernel_rfl)) (fun _ _ _ h => h) (Or.inl ⟨by rfl, ?_⟩) ?_ ?_
         rotate_left
         ·intro w'
          go_simp
          with_reducible rfl
         rotate_left
         ·simp only [Act.put, List.setIfInBounds_toArray, List.set_cons_zero, List.set_cons_succ, i64_w, i32_w]
          rfl
         refine pure_ (i := 16) (N := some 71) (v := ?_) (a' := ?_) #[true, true, true, true, true, true, true, true, true, true, true, true, true, true, true, true, true, false, false, false] rfl rfl (any_of HT_.out (by kernel_rfl)) (fun _ _ _ h => h) (Or.inl ⟨by rfl, ?_⟩) ?_ ?_
         rotate_left
         ·intro w'
          go_simp
          with_reducible rfl
         rotate_left
         ·simp only [Act.put, List.setIfInBounds_toArray, List.set_cons_zero, List.set_cons_succ, i64_w, i32_w]
          rfl
         refine pure_ (i := 17) (N := some 72) (v := undef) (a' := ?_) #[true, true, true, true, true, true, true, true, true, true, true, true, true, true, true, true, true, true, false, false] rfl rfl (any_of HT_.out (by kernel_rfl)) (fun _ _ _ h => h) (Or.inr ⟨by rfl, rfl⟩) ?_ ?_
         rotate_left
         ·simp only [Act.put, List.setIfInBounds_toArray, List.set_cons_zero, List.set_cons_succ, i64_w, i32_w]
          rfl
         refine pure_ (i := 18) (N := some 73) (v := ?_) (a' := ?_) #[true, true, true, true, true, true, true, true, true, true, true, true, true, true, true, true, true, true, true, false] rfl rfl (any_of HT_.out (by kernel_rfl)) (fun _ _ _ h => h) (Or.inl ⟨by rfl, ?_⟩) ?_ ?_
         rotate_left
         ·intro w'
          go_simp
          with_reducible rfl
         rotate_left
         ·simp only [Act.put, List.setIfInBounds_toArray, List.set_cons_zero, List.set_cons_succ, i64_w, i32_w]
          rfl
         refine pure_ (i := 19) (N := some 6) (v := ?_) (a' := ?_) #[true, true, true, true, true, true, true, true, true, true, true, true, true, true, true, true, true, true, true, true] rfl rfl (any_of HT_.out (by kernel_rfl)) (fun _ _ _ h => h) (Or.inl ⟨by rfl, ?_⟩) ?_ ?_
         rotate_left
         ·intro w'
          go_simp
          with_reducible rfl
         rotate_left
         ·simp only [Act.put, List.setIfInBounds_toArray, List.set_cons_zero, List.set_cons_succ, i64_w, i32_w]
          rfl
         refine done_ (done_of HT_.out (by kernel_rfl)) ?_
         try go_wp2
         go_ret
         exact ⟨by first | rfl | (simp [errW_none, errW_some] <;> rfl) | (simp only [← hji5]; first | rfl | (simp [errW_none, errW_some] <;> rfl)) | (simp [*, errW_none, errW_some] <;> rfl), by repeat (first | (with_reducible first | exact HB.out | apply b_a | apply b_n | apply b_d | refine below_set ?_ GE422.out | refine below_set ?_ GE433.out) | exact HB.out)⟩
    ·rw [if_neg c11] at H
     exact absurd H (by simp)
   ·rw [if_neg c9] at H
    exact absurd H (by simp)
  ·rw [if_neg c7] at H
   exact absurd H (by simp)
 ·rw [if_neg c6] at H
  exact absurd H (by simp)

end Go.Proofs.YtpnoliognpmkmaaGreatDoor.P
