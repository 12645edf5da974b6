/- Lean functions with the same answers as the program's Go functions, and for each the proof that the call comes to these answers; written by a program of mine out of the translation, the functions marked 'by hand' by me. -/
import Derived.Test.YtpnoliognpmkmaaDoorP0
import Derived.Test.YtpnoliognpmkmaaDoorP2
import Derived.Test.YtpnoliognpmkmaaDoorP3
import Derived.Test.YtpnoliognpmkmaaDoorP4
import Derived.Test.YtpnoliognpmkmaaDoorP5
import Derived.Test.YtpnoliognpmkmaaDoorP14
import Derived.Test.YtpnoliognpmkmaaDoorP22
import Derived.Test.YtpnoliognpmkmaaDoorP23
import Derived.Test.YtpnoliognpmkmaaDoorP24
namespace Go.Proofs.YtpnoliognpmkmaaDoor.P
open Go.RowKit Go.Proofs.YtpnoliognpmkmaaDoorW.PrintWords Go.Proofs.YtpnoliognpmkmaaDoorW.PrintLast Go.Proofs.YtpnoliognpmkmaaDoorW.PrintMore
attribute [local go_sem] max2_int min2_int max_two min_two max_three min_three max_four min_four   -- for this text's walks alone
set_option linter.unusedVariables false
set_option linter.unusedSimpArgs false

/-! ### priceofficelaw06_ClassificationOrders: function 11 -/
mutual
def priceofficelaw06_ClassificationOrders.l0 : Nat → List ByteArray → List ByteArray → Int → Int → Option (Bool)
  | 0, _, _, _, _ => none
  | k + 1, x8, x31, x32, x33 => if x33 < x32 then (if 0 ≤ x33 then (if x33 < (x31.length : Int) then (priceofficelaw06_ClassificationOrders.l1 k x8 (rdOf ByteArray.empty x31 x33) x31 x32 x33 x8 (x8.length : Int) 0) else (none)) else (none)) else ((priceofficelaw06_awake.f k).bind fun t532 => (some t532))
def priceofficelaw06_ClassificationOrders.l1 : Nat → List ByteArray → ByteArray → List ByteArray → Int → Int → List ByteArray → Int → Int → Option (Bool)
  | 0, _, _, _, _, _, _, _, _ => none
  | k + 1, x8, x10, x31, x32, x33, x37, x38, x39 => if x39 < x38 then (if 0 ≤ x39 then (if x39 < (x37.length : Int) then ((classification_Compare.f k x10 (rdOf ByteArray.empty x37 x39)).bind fun t535 => ((priceofficeref06_Compare.f k x10 (rdOf ByteArray.empty x37 x39)).bind fun t536 => (if t535 = t536 then ((classification_Within.f k x10 (rdOf ByteArray.empty x37 x39)).bind fun t537 => ((priceofficeref06_Within.f k x10 (rdOf ByteArray.empty x37 x39)).bind fun t538 => (if (t537 != t538) = true then (some false) else ((classification_Common.f k x10 (rdOf ByteArray.empty x37 x39)).bind fun t539 => ((priceofficeref06_Common.f k x10 (rdOf ByteArray.empty x37 x39)).bind fun t540 => (if t539.toList = t540.toList then (priceofficelaw06_ClassificationOrders.l1 k x8 x10 x31 x32 x33 x37 x38 (wrap64 (x39 + 1))) else (some false))))))) else (some false)))) else (none)) else (none)) else (priceofficelaw06_ClassificationOrders.l0 k x8 x31 x32 (wrap64 (x33 + 1)))
end
def priceofficelaw06_ClassificationOrders.f (k : Nat) (a0 : ByteArray) (a1 : ByteArray) (l2 : List Int) : Option (Bool) := if 0 ≤ (mn (a0.size : Int) 20) then (if (mn (a0.size : Int) 20) ≤ (a0.size : Int) then (if 0 ≤ (mn (a1.size : Int) 20) then (if (mn (a1.size : Int) 20) ≤ (a1.size : Int) then ((priceofficelaw06_code.f k l2 0).bind fun bt525 => ((priceofficelaw06_code.f k l2 bt525.2).bind fun bt527 => ((some (([a0.extract 0 ((mn (a0.size : Int) 20) : Int).toNat, a1.extract 0 ((mn (a1.size : Int) 20) : Int).toNat, bt525.1, bt527.1, (⟨#[]⟩ : ByteArray)] : List ByteArray) : List ByteArray)).bind fun y529 => (priceofficelaw06_ClassificationOrders.l0 k y529 y529 (y529.length : Int) 0)))) else (none)) else (none)) else (none)) else (none)
theorem priceofficelaw06_ClassificationOrders.mono_l : ∀ k, (∀ y0 y1 y2 y3, LeO (priceofficelaw06_ClassificationOrders.l0 k y0 y1 y2 y3) (priceofficelaw06_ClassificationOrders.l0 (k + 1) y0 y1 y2 y3)) ∧ (∀ y0 y1 y2 y3 y4 y5 y6 y7, LeO (priceofficelaw06_ClassificationOrders.l1 k y0 y1 y2 y3 y4 y5 y6 y7) (priceofficelaw06_ClassificationOrders.l1 (k + 1) y0 y1 y2 y3 y4 y5 y6 y7))
  | 0 => ⟨fun _ _ _ _ r h => by simp [priceofficelaw06_ClassificationOrders.l0] at h, fun _ _ _ _ _ _ _ _ r h => by simp [priceofficelaw06_ClassificationOrders.l1] at h⟩
  | k + 1 => by
    obtain ⟨ih0, ih1⟩ := priceofficelaw06_ClassificationOrders.mono_l k
    refine ⟨?_, ?_⟩
    · intro y0 y1 y2 y3
      unfold priceofficelaw06_ClassificationOrders.l0
      repeat' first
      | (with_reducible exact ih0 _ _ _ _)
      | (with_reducible exact ih1 _ _ _ _ _ _ _ _)
      | (with_reducible exact classification_Common.mono _ _ _)
      | (with_reducible exact classification_Compare.mono _ _ _)
      | (with_reducible exact classification_Within.mono _ _ _)
      | (with_reducible exact priceofficelaw06_awake.mono _)
      | (with_reducible exact priceofficelaw06_code.mono _ _ _)
      | (with_reducible exact priceofficeref06_Common.mono _ _ _)
      | (with_reducible exact priceofficeref06_Compare.mono _ _ _)
      | (with_reducible exact priceofficeref06_Within.mono _ _ _)
      | (with_reducible exact LeO.refl _)
      | (with_reducible exact LeO.none _)
      | (with_reducible refine LeO.ite ?_ ?_)
      | (with_reducible refine LeO.bind ?_ (fun _ => ?_))
      | exact ih0 _ _ _ _
      | exact ih1 _ _ _ _ _ _ _ _
      | exact classification_Common.mono _ _ _
      | exact classification_Compare.mono _ _ _
      | exact classification_Within.mono _ _ _
      | exact priceofficelaw06_awake.mono _
      | exact priceofficelaw06_code.mono _ _ _
      | exact priceofficeref06_Common.mono _ _ _
      | exact priceofficeref06_Compare.mono _ _ _
      | exact priceofficeref06_Within.mono _ _ _
      | exact LeO.none _
      | refine LeO.ite ?_ ?_
      | refine LeO.bind ?_ (fun _ => ?_)
    · intro y0 y1 y2 y3 y4 y5 y6 y7
      unfold priceofficelaw06_ClassificationOrders.l1
      repeat' first
      | (with_reducible exact ih0 _ _ _ _)
      | (with_reducible exact ih1 _ _ _ _ _ _ _ _)
      | (with_reducible exact classification_Common.mono _ _ _)
      | (with_reducible exact classification_Compare.mono _ _ _)
      | (with_reducible exact classification_Within.mono _ _ _)
      | (with_reducible exact priceofficelaw06_awake.mono _)
      | (with_reducible exact priceofficelaw06_code.mono _ _ _)
      | (with_reducible exact priceofficeref06_Common.mono _ _ _)
      | (with_reducible exact priceofficeref06_Compare.mono _ _ _)
      | (with_reducible exact priceofficeref06_Within.mono _ _ _)
      | (with_reducible exact LeO.refl _)
      | (with_reducible exact LeO.none _)
      | (with_reducible refine LeO.ite ?_ ?_)
      | (with_reducible refine LeO.bind ?_ (fun _ => ?_))
      | exact ih0 _ _ _ _
      | exact ih1 _ _ _ _ _ _ _ _
      | exact classification_Common.mono _ _ _
      | exact classification_Compare.mono _ _ _
      | exact classification_Within.mono _ _ _
      | exact priceofficelaw06_awake.mono _
      | exact priceofficelaw06_code.mono _ _ _
      | exact priceofficeref06_Common.mono _ _ _
      | exact priceofficeref06_Compare.mono _ _ _
      | exact priceofficeref06_Within.mono _ _ _
      | exact LeO.none _
      | refine LeO.ite ?_ ?_
      | refine LeO.bind ?_ (fun _ => ?_)
theorem priceofficelaw06_ClassificationOrders.mono : ∀ a0 a1 a2 k, LeO (priceofficelaw06_ClassificationOrders.f k a0 a1 a2) (priceofficelaw06_ClassificationOrders.f (k + 1) a0 a1 a2) := by
  intro a0 a1 a2 k
  obtain ⟨ih0, ih1⟩ := priceofficelaw06_ClassificationOrders.mono_l k
  unfold priceofficelaw06_ClassificationOrders.f
  repeat' first
      | (with_reducible exact ih0 _ _ _ _)
      | (with_reducible exact ih1 _ _ _ _ _ _ _ _)
      | (with_reducible exact classification_Common.mono _ _ _)
      | (with_reducible exact classification_Compare.mono _ _ _)
      | (with_reducible exact classification_Within.mono _ _ _)
      | (with_reducible exact priceofficelaw06_awake.mono _)
      | (with_reducible exact priceofficelaw06_code.mono _ _ _)
      | (with_reducible exact priceofficeref06_Common.mono _ _ _)
      | (with_reducible exact priceofficeref06_Compare.mono _ _ _)
      | (with_reducible exact priceofficeref06_Within.mono _ _ _)
      | (with_reducible exact LeO.refl _)
      | (with_reducible exact LeO.none _)
      | (with_reducible refine LeO.ite ?_ ?_)
      | (with_reducible refine LeO.bind ?_ (fun _ => ?_))
      | exact ih0 _ _ _ _
      | exact ih1 _ _ _ _ _ _ _ _
      | exact classification_Common.mono _ _ _
      | exact classification_Compare.mono _ _ _
      | exact classification_Within.mono _ _ _
      | exact priceofficelaw06_awake.mono _
      | exact priceofficelaw06_code.mono _ _ _
      | exact priceofficeref06_Common.mono _ _ _
      | exact priceofficeref06_Compare.mono _ _ _
      | exact priceofficeref06_Within.mono _ _ _
      | exact LeO.none _
      | refine LeO.ite ?_ ?_
      | refine LeO.bind ?_ (fun _ => ?_)
def priceofficelaw06_ClassificationOrders.T2 : Bool × List (List Nat × List Nat) := (true, [([], []), ([], []), ([1], [1]), ([2], [2]), ([0, 3], [0, 3]), ([], []), ([], []), ([6], [6]), ([7], [7]), ([5, 8], [5, 8]), ([], []), ([10], [10]), ([], []), ([12, 11], [12]), ([4, 9, 11, 13], [4, 9, 11, 13]), ([14, 13, 0, 1, 2, 3, 4, 5, 6, 7, 8, 9, 10, 11, 12, 13, 14], [14])])
def priceofficelaw06_ClassificationOrders.B2 : List Nat := [0, 0, 2, 6, 15, 0, 0, 64, 192, 480, 0, 1024, 0, 7168, 16383, 32767]
theorem priceofficelaw06_ClassificationOrders.tab2 : rtab .any (opsOf Tryd.f11 2) = priceofficelaw06_ClassificationOrders.T2 := by kernel_rfl
theorem priceofficelaw06_ClassificationOrders.bits2 : waitsOk priceofficelaw06_ClassificationOrders.T2.2 priceofficelaw06_ClassificationOrders.B2 = true := by kernel_rfl
set_option maxHeartbeats 8000000 in
set_option maxRecDepth 100000 in
theorem priceofficelaw06_ClassificationOrders.calls (k : Nat) (a0 : ByteArray) (a1 : ByteArray) (A2 : Option Addr) (c2 : Nat) (l2 : List Int) (r : Bool) (w : World) (hr2 : Kd.C (Kd.int .i64) w A2 l2.length l2) (hc2 : l2.length ≤ c2) (hG : GL w) (h : priceofficelaw06_ClassificationOrders.f k a0 a1 l2 = some r) :
    Calls Tryd.prog 11 #[.string a0, .string a1, .slice A2 l2.length c2] w fun e w' => e = .returned (.bool r) ∧ Below w.heap.size w w' := by
  have HG := Aside0.mk hG
  clear hG
  have hu25 := Tryd.underlying25
  have HR2 := Aside0.mk hr2
  have HC2 := Aside0.mk hc2
  clear hr2 hc2
  have HB := Aside0.mk (Below.refl w.heap.size w)
  have H : (if 0 ≤ (mn (a0.size : Int) 20) then (if (mn (a0.size : Int) 20) ≤ (a0.size : Int) then (if 0 ≤ (mn (a1.size : Int) 20) then (if (mn (a1.size : Int) 20) ≤ (a1.size : Int) then ((priceofficelaw06_code.f k l2 0).bind fun bt525 => ((priceofficelaw06_code.f k l2 bt525.2).bind fun bt527 => ((some (([a0.extract 0 ((mn (a0.size : Int) 20) : Int).toNat, a1.extract 0 ((mn (a1.size : Int) 20) : Int).toNat, bt525.1, bt527.1, (⟨#[]⟩ : ByteArray)] : List ByteArray) : List ByteArray)).bind fun y529 => (priceofficelaw06_ClassificationOrders.l0 k y529 y529 (y529.length : Int) 0)))) else (none)) else (none)) else (none)) else (none)) = some r := h
  clear h
  obtain ⟨ji4, hji4⟩ : ∃ j_ : Int, (mn (a0.size : Int) 20) = j_ := ⟨_, rfl⟩
  replace H : (if 0 ≤ (ji4) then (if (ji4) ≤ (a0.size : Int) then (if 0 ≤ (mn (a1.size : Int) 20) then (if (mn (a1.size : Int) 20) ≤ (a1.size : Int) then ((priceofficelaw06_code.f k l2 0).bind fun bt525 => ((priceofficelaw06_code.f k l2 bt525.2).bind fun bt527 => ((some (([a0.extract 0 ((ji4) : Int).toNat, a1.extract 0 ((mn (a1.size : Int) 20) : Int).toNat, bt525.1, bt527.1, (⟨#[]⟩ : ByteArray)] : List ByteArray) : List ByteArray)).bind fun y529 => (priceofficelaw06_ClassificationOrders.l0 k y529 y529 (y529.length : Int) 0)))) else (none)) else (none)) else (none)) else (none)) = some r := by first | (rw [hji4] at H; exact H) | (simp only [hji4] at H ⊢; exact H)
  (try (have hji4h : ji4 ≤ 20 := by (rw [← hji4]; unfold mn; (repeat' split) <;> omega)))
  (try (have hji4g : ji4 ≤ 64 := by omega))
  (try (have hji4l : 0 ≤ ji4 := by (rw [← hji4]; unfold mn; (repeat' split) <;> omega)))
  (try (have hji4m : 0 ≤ ji4 := by omega))
  have hji4_ : (if 20 < (a0.size : Int) then 20 else (a0.size : Int)) = ji4 := hji4
  by_cases c5 : 0 ≤ (ji4)
  · rw [if_pos c5] at H
    have c5b0 := eq_true c5
    have c5b1 : decide (0 ≤ (ji4)) = true := decide_eq_true c5
    clear c5
    by_cases c6 : (ji4) ≤ (a0.size : Int)
    · rw [if_pos c6] at H
      have c6b0 := eq_true c6
      have c6b1 : decide ((ji4) ≤ (a0.size : Int)) = true := decide_eq_true c6
      clear c6
      obtain ⟨ji7, hji7⟩ : ∃ j_ : Int, (mn (a1.size : Int) 20) = j_ := ⟨_, rfl⟩
      replace H : (if 0 ≤ (ji7) then (if (ji7) ≤ (a1.size : Int) then ((priceofficelaw06_code.f k l2 0).bind fun bt525 => ((priceofficelaw06_code.f k l2 bt525.2).bind fun bt527 => ((some (([a0.extract 0 ((ji4) : Int).toNat, a1.extract 0 ((ji7) : Int).toNat, bt525.1, bt527.1, (⟨#[]⟩ : ByteArray)] : List ByteArray) : List ByteArray)).bind fun y529 => (priceofficelaw06_ClassificationOrders.l0 k y529 y529 (y529.length : Int) 0)))) else (none)) else (none)) = some r := by first | (rw [hji7] at H; exact H) | (simp only [hji7] at H ⊢; exact H)
      (try (have hji7h : ji7 ≤ 20 := by (rw [← hji7]; unfold mn; (repeat' split) <;> omega)))
      (try (have hji7g : ji7 ≤ 64 := by omega))
      (try (have hji7l : 0 ≤ ji7 := by (rw [← hji7]; unfold mn; (repeat' split) <;> omega)))
      (try (have hji7m : 0 ≤ ji7 := by omega))
      have hji7_ : (if 20 < (a1.size : Int) then 20 else (a1.size : Int)) = ji7 := hji7
      by_cases c8 : 0 ≤ (ji7)
      · rw [if_pos c8] at H
        have c8b0 := eq_true c8
        have c8b1 : decide (0 ≤ (ji7)) = true := decide_eq_true c8
        clear c8
        by_cases c9 : (ji7) ≤ (a1.size : Int)
        · rw [if_pos c9] at H
          have c9b0 := eq_true c9
          have c9b1 : decide ((ji7) ≤ (a1.size : Int)) = true := decide_eq_true c9
          clear c9
          replace H := Option.bind_eq_some_iff.mp H
          obtain ⟨⟨t525, t526⟩, A100, H⟩ := H
          replace H : ((priceofficelaw06_code.f k l2 t526).bind fun bt527 => ((some (([a0.extract 0 ((ji4) : Int).toNat, a1.extract 0 ((ji7) : Int).toNat, t525, bt527.1, (⟨#[]⟩ : ByteArray)] : List ByteArray) : List ByteArray)).bind fun y529 => (priceofficelaw06_ClassificationOrders.l0 k y529 y529 (y529.length : Int) 0))) = some r := H
          have A10 := Aside0.mk A100
          clear A100
          replace H := Option.bind_eq_some_iff.mp H
          obtain ⟨⟨t527, t528⟩, A110, H⟩ := H
          replace H : ((some (([a0.extract 0 ((ji4) : Int).toNat, a1.extract 0 ((ji7) : Int).toNat, t525, t527, (⟨#[]⟩ : ByteArray)] : List ByteArray) : List ByteArray)).bind fun y529 => (priceofficelaw06_ClassificationOrders.l0 k y529 y529 (y529.length : Int) 0)) = some r := H
          have A11 := Aside0.mk A110
          clear A110
          obtain ⟨y529, hy529⟩ : ∃ y_ : List ByteArray, y_ = (([a0.extract 0 ((ji4) : Int).toNat, a1.extract 0 ((ji7) : Int).toNat, t525, t527, (⟨#[]⟩ : ByteArray)] : List ByteArray)) := ⟨_, rfl⟩
          replace H : (priceofficelaw06_ClassificationOrders.l0 k y529 y529 (y529.length : Int) 0) = some r := by first | (rw [hy529]; with_reducible exact H) | (have H2_ := (Option.bind_some _ _).symm.trans H; rw [hy529]; with_reducible exact H2_) | (have H2_ := (Option.bind_some _ _).symm.trans H; with_reducible exact H2_) | with_reducible exact H | (rw [hy529]; exact H) | exact H
          have Ny529 := Aside0.mk hy529
          clear hy529
          have H' := Aside0.mk H
          clear H
          go_enter Tryd.func11, Tryd.ntmps11
          try go_wp2_with (first | ((with_reducible refine gate_dst (N := 15) rfl ?_); refine box_event ?hg (N := 15) ?hd (cs := #[.slice A2 l2.length c2, .int .i64 0]) (t := 25) ?hr ?_; (case hd => rfl); (case hg => rfl); (case hr => first | (go_simp; done) | (go_simp; rfl)); intro gb524 hg w12 hbox hb; have n0_ := Aside0.mk (below_step (by repeat (first | (with_reducible first | exact HB.out | apply below_alloc | apply pw_below_drewN | apply below_drew1) | exact HB.out)) hb); have n1_ := Aside0.mk (hbox); have n2_ := Aside0.mk ((by rw [hg]; exact (below_size (by repeat (first | (with_reducible first | exact HB.out | apply below_alloc | apply pw_below_drewN | apply below_drew1) | exact HB.out))) : w.heap.size ≤ gb524)); have n3_ := Aside0.mk ((by rw [hg]; exact (below_size (by repeat (first | (with_reducible first | exact HB.out | apply below_alloc | apply pw_below_drewN | apply below_drew1) | exact HB.out))) : w.heap.size ≤ gb524)); have n4_ := Aside0.mk ((show IsS25 w w12 gb524 l2 0 from ⟨_, _, hbox, (by rw [hg]; exact (below_size (by repeat (first | (with_reducible first | exact HB.out | apply below_alloc | apply pw_below_drewN | apply below_drew1) | exact HB.out))) : w.heap.size ≤ gb524), HR2.out⟩)); clear HB; have HB := n0_; have BK524 := n1_; have GW524 := n2_; have GE524 := n3_; have HI524 := n4_; clear n0_ n1_ n2_ n3_ n4_; clear hb hbox hg))
          have n0_ := Aside0.mk (IsS25.drew HI524.out)
          have n1_ := Aside0.mk (below_drew1 HB.out)
          clear HI524
          clear HB
          have HI524 := n0_
          have HB := n1_
          clear n0_ n1_
          refine start_ (n := 16) (S := fun w' => True) (ds := []) #[false, false, false, false, false, false, false, false, false, false, false, false, false, false, false, false] (by kernel_rfl) rfl rfl trivial (fun hHeld => ?_); refine with_tabW priceofficelaw06_ClassificationOrders.tab2 priceofficelaw06_ClassificationOrders.bits2 (fun HT_ HW_ => ?_)
          generalize w12.drew = w13 at HI524 HB hHeld ⊢
          refine pure_ (i := 0) (N := some 16) (v := ?_) (a' := ?_) #[true, false, false, false, false, false, false, false, false, false, false, false, false, false, false, false] rfl rfl (any_of HT_.out (by kernel_rfl)) (fun _ _ _ h => h) (Or.inl ⟨by rfl, ?_⟩) ?_ ?_
          rotate_left
          · intro w'
            go_simp
            with_reducible rfl
          rotate_left
          · simp only [Act.put, List.setIfInBounds_toArray, List.set_cons_zero, List.set_cons_succ, i64_w, i32_w]
            rfl
          refine pure_ (i := 1) (N := some 17) (v := ?_) (a' := ?_) #[true, true, false, false, false, false, false, false, false, false, false, false, false, false, false, false] rfl rfl (any_of HT_.out (by kernel_rfl)) (fun _ _ _ h => h) (Or.inl ⟨by rfl, ?_⟩) ?_ ?_
          rotate_left
          · intro w'
            go_simp
            with_reducible rfl
          rotate_left
          · simp only [Act.put, List.setIfInBounds_toArray, List.set_cons_zero, List.set_cons_succ, i64_w, i32_w]
            rfl
          refine pure_ (i := 2) (N := some 18) (v := ?_) (a' := ?_) #[true, true, true, false, false, false, false, false, false, false, false, false, false, false, false, false] rfl rfl (any_of HT_.out (by kernel_rfl)) (fun _ _ _ h => h) (Or.inl ⟨by rfl, ?_⟩) ?_ ?_
          rotate_left
          · intro w'
            go_simp
            with_reducible rfl
          rotate_left
          · simp only [Act.put, List.setIfInBounds_toArray, List.set_cons_zero, List.set_cons_succ, i64_w, i32_w]
            rfl
          refine pure_ (i := 3) (N := some 19) (v := ?_) (a' := ?_) #[true, true, true, true, false, false, false, false, false, false, false, false, false, false, false, false] rfl rfl (any_of HT_.out (by kernel_rfl)) (fun _ _ _ h => h) (Or.inl ⟨by rfl, ?_⟩) ?_ ?_
          rotate_left
          · intro w'
            go_simp
            with_reducible rfl
          rotate_left
          · simp only [Act.put, List.setIfInBounds_toArray, List.set_cons_zero, List.set_cons_succ, i64_w, i32_w]
            rfl
          refine pure_ (i := 4) (N := some 20) (v := ?_) (a' := ?_) #[true, true, true, true, true, false, false, false, false, false, false, false, false, false, false, false] rfl rfl (any_of HT_.out (by kernel_rfl)) (fun _ _ _ h => h) (Or.inl ⟨by rfl, ?_⟩) ?_ ?_
          rotate_left
          · intro w'
            go_simp
            with_reducible rfl
          rotate_left
          · simp only [Act.put, List.setIfInBounds_toArray, List.set_cons_zero, List.set_cons_succ, i64_w, i32_w]
            rfl
          refine pure_ (i := 5) (N := some 21) (v := ?_) (a' := ?_) #[true, true, true, true, true, true, false, false, false, false, false, false, false, false, false, false] rfl rfl (any_of HT_.out (by kernel_rfl)) (fun _ _ _ h => h) (Or.inl ⟨by rfl, ?_⟩) ?_ ?_
          rotate_left
          · intro w'
            go_simp
            with_reducible rfl
          rotate_left
          · simp only [Act.put, List.setIfInBounds_toArray, List.set_cons_zero, List.set_cons_succ, i64_w, i32_w]
            rfl
          refine pure_ (i := 6) (N := some 22) (v := ?_) (a' := ?_) #[true, true, true, true, true, true, true, false, false, false, false, false, false, false, false, false] rfl rfl (any_of HT_.out (by kernel_rfl)) (fun _ _ _ h => h) (Or.inl ⟨by rfl, ?_⟩) ?_ ?_
          rotate_left
          · intro w'
            go_simp
            with_reducible rfl
          rotate_left
          · simp only [Act.put, List.setIfInBounds_toArray, List.set_cons_zero, List.set_cons_succ, i64_w, i32_w]
            rfl
          refine pure_ (i := 7) (N := some 23) (v := ?_) (a' := ?_) #[true, true, true, true, true, true, true, true, false, false, false, false, false, false, false, false] rfl rfl (any_of HT_.out (by kernel_rfl)) (fun _ _ _ h => h) (Or.inl ⟨by rfl, ?_⟩) ?_ ?_
          rotate_left
          · intro w'
            go_simp
            with_reducible rfl
          rotate_left
          · simp only [Act.put, List.setIfInBounds_toArray, List.set_cons_zero, List.set_cons_succ, i64_w, i32_w]
            rfl
          refine pure_ (i := 8) (N := some 24) (v := ?_) (a' := ?_) #[true, true, true, true, true, true, true, true, true, false, false, false, false, false, false, false] rfl rfl (any_of HT_.out (by kernel_rfl)) (fun _ _ _ h => h) (Or.inl ⟨by rfl, ?_⟩) ?_ ?_
          rotate_left
          · intro w'
            go_simp
            with_reducible rfl
          rotate_left
          · simp only [Act.put, List.setIfInBounds_toArray, List.set_cons_zero, List.set_cons_succ, i64_w, i32_w]
            rfl
          refine pure_ (i := 9) (N := some 25) (v := ?_) (a' := ?_) #[true, true, true, true, true, true, true, true, true, true, false, false, false, false, false, false] rfl rfl (any_of HT_.out (by kernel_rfl)) (fun _ _ _ h => h) (Or.inl ⟨by rfl, ?_⟩) ?_ ?_
          rotate_left
          · intro w'
            go_simp
            with_reducible rfl
          rotate_left
          · simp only [Act.put, List.setIfInBounds_toArray, List.set_cons_zero, List.set_cons_succ, i64_w, i32_w]
            rfl
          refine pure_ (i := 10) (N := some 26) (v := ?_) (a' := ?_) #[true, true, true, true, true, true, true, true, true, true, true, false, false, false, false, false] rfl rfl (any_of HT_.out (by kernel_rfl)) (fun _ _ _ h => h) (Or.inl ⟨by rfl, ?_⟩) ?_ ?_
          rotate_left
          · intro w'
            go_simp
            with_reducible rfl
          rotate_left
          · simp only [Act.put, List.setIfInBounds_toArray, List.set_cons_zero, List.set_cons_succ, i64_w, i32_w]
            rfl
          refine pure_ (i := 12) (N := some 28) (v := ?_) (a' := ?_) #[true, true, true, true, true, true, true, true, true, true, true, false, true, false, false, false] rfl rfl (any_of HT_.out (by kernel_rfl)) (fun _ _ _ h => h) (Or.inl ⟨by rfl, ?_⟩) ?_ ?_
          rotate_left
          · intro w'
            go_simp
            with_reducible rfl
          rotate_left
          · simp only [Act.put, List.setIfInBounds_toArray, List.set_cons_zero, List.set_cons_succ, i64_w, i32_w]
            rfl
          refine one_ (i := 11) (N := some 27) #[true, true, true, true, true, true, true, true, true, true, true, true, true, false, false, false] rfl rfl (one_of HT_.out (by kernel_rfl)) (by decide) (fun K hK => ?_)
          refine goes_ Tryd.func24 (by kernel_rfl) rfl #[.pointer (some ⟨gb524, 0, none⟩)] (by rfl) rfl rfl (by (try simp only [List.map_toArray, List.map_cons, List.map_nil]); first | done | rfl | (simp only [List.length_drop, List.length_take]; rfl)) ?_
          with_reducible refine (priceofficelaw06_code.calls k gb524 l2 0 t525 t526 w _ ?side1 ?side2 A10.out).mono ?_
          (case side1 => repeat (first | (with_reducible first | exact HI524.out | apply IsS25.alloc | apply IsS25.drewN | apply IsS25.drew | apply IsS25.set_1) | exact HI524.out))
          (case side2 => repeat (first | (with_reducible first | exact HB.out | apply below_alloc | apply pw_below_drewN | apply below_drew1 | refine below_set ?_ (IsS25.ge HI524.out)) | exact HB.out))
          rintro e w14 ⟨rfl, hi, hb, hk⟩
          refine ⟨_, rfl, ?_⟩
          have n0_ := Aside0.mk (hb)
          have n1_ := Aside0.mk (hi)
          clear HB
          clear HI524
          have HB := n0_
          have HI524 := n1_
          clear n0_ n1_
          (try clear hb)
          (try clear hb2)
          (try clear hk)
          (try clear hi)
          refine hK.out _ _ trivial (fun hHeld => ?_)
          clear hK K
          refine norm_ (a' := ?_) ?_ ?_
          rotate_left
          · show Act.put _ (some 27) _ = _
            simp only [Act.put, List.setIfInBounds_toArray, List.set_cons_zero, List.set_cons_succ, i64_w, i32_w]
            rfl
          refine one_ (i := 13) (N := some 29) #[true, true, true, true, true, true, true, true, true, true, true, true, true, true, false, false] rfl rfl (one_of HT_.out (by kernel_rfl)) (by decide) (fun K hK => ?_)
          refine goes_ Tryd.func24 (by kernel_rfl) rfl #[.pointer (some ⟨gb524, 0, none⟩)] (by rfl) rfl rfl (by (try simp only [List.map_toArray, List.map_cons, List.map_nil]); first | done | rfl | (simp only [List.length_drop, List.length_take]; rfl)) ?_
          with_reducible refine (priceofficelaw06_code.calls k gb524 l2 t526 t527 t528 w _ ?side1 ?side2 A11.out).mono ?_
          (case side1 => repeat (first | (with_reducible first | exact HI524.out | apply IsS25.alloc | apply IsS25.drewN | apply IsS25.drew | apply IsS25.set_1) | exact HI524.out))
          (case side2 => repeat (first | (with_reducible first | exact HB.out | apply below_alloc | apply pw_below_drewN | apply below_drew1 | refine below_set ?_ (IsS25.ge HI524.out)) | exact HB.out))
          rintro e w15 ⟨rfl, hi, hb, hk⟩
          refine ⟨_, rfl, ?_⟩
          have n0_ := Aside0.mk (hb)
          have n1_ := Aside0.mk (hi)
          clear HB
          clear HI524
          have HB := n0_
          have HI524 := n1_
          clear n0_ n1_
          (try clear hb)
          (try clear hb2)
          (try clear hk)
          (try clear hi)
          refine hK.out _ _ trivial (fun hHeld => ?_)
          clear hK K
          refine norm_ (a' := ?_) ?_ ?_
          rotate_left
          · show Act.put _ (some 29) _ = _
            simp only [Act.put, List.setIfInBounds_toArray, List.set_cons_zero, List.set_cons_succ, i64_w, i32_w]
            rfl
          refine one_ (i := 14) (N := some 30) #[true, true, true, true, true, true, true, true, true, true, true, true, true, true, true, false] rfl rfl (one_of HT_.out (by kernel_rfl)) (by decide) (fun K hK => ?_)
          refine Kd.R_lit_step Kd.string _ 9 ?hg (N := 30) ?hd (xs := ([a0.extract 0 ((ji4) : Int).toNat, a1.extract 0 ((ji7) : Int).toNat, t525, t527, (⟨#[]⟩ : ByteArray)] : List ByteArray)) (inner := [.string (a0.extract 0 ((ji4) : Int).toNat), .string (a1.extract 0 ((ji7) : Int).toNat), .string t525, .string t527, .string (⟨#[]⟩ : ByteArray)]) (ok := fun _ => True) (okp := fun _ => True) ?hr ?hp (fun _ hk => hk) trivial (Below.refl _ _) (Nat.le_refl _) (by simp) ?_; (case hd => rfl); (case hg => rfl); (case hr => first | (go_simp; done) | (go_simp; rfl)); (case hp => exact (Reps.one (show Kd.M Kd.string _ _ _ (a0.extract 0 ((ji4) : Int).toNat) [.string (a0.extract 0 ((ji4) : Int).toNat)] from rfl) (Reps.one (show Kd.M Kd.string _ _ _ (a1.extract 0 ((ji7) : Int).toNat) [.string (a1.extract 0 ((ji7) : Int).toNat)] from rfl) (Reps.one (show Kd.M Kd.string _ _ _ t525 [.string t525] from rfl) (Reps.one (show Kd.M Kd.string _ _ _ t527 [.string t527] from rfl) (Reps.one (show Kd.M Kd.string _ _ _ (⟨#[]⟩ : ByteArray) [.string (⟨#[]⟩ : ByteArray)] from rfl) (Reps.none _ _)))))))
          intro v530 w16 ho17 hb hg_ hnew_
          clear hg_ hnew_
          (first | rw [← Ny529.out] at ho17 | (simp only [Int.reduceToNat] at ho17; rw [← Ny529.out] at ho17))
          have n0_ := Aside0.mk (Kd.R_lower ho17 (below_size (by repeat (first | (with_reducible first | exact HB.out | apply below_alloc | apply pw_below_drewN | apply below_drew1 | refine below_set ?_ (IsS25.ge HI524.out)) | exact HB.out))))
          have n1_ := Aside0.mk (IsS25.below (by repeat (first | (with_reducible first | exact HI524.out | apply IsS25.alloc | apply IsS25.drewN | apply IsS25.drew | apply IsS25.set_1) | exact HI524.out)) hb)
          have n2_ := Aside0.mk (below_step (by repeat (first | (with_reducible first | exact HB.out | apply below_alloc | apply pw_below_drewN | apply below_drew1 | refine below_set ?_ (IsS25.ge HI524.out)) | exact HB.out)) hb)
          clear HI524
          clear HB
          have HO531 := n0_
          have HI524 := n1_
          have HB := n2_
          clear n0_ n1_ n2_
          clear hb ho17
          refine hK.out _ _ trivial (fun hHeld => ?_)
          clear hK K
          refine norm_ (a' := ?_) ?_ ?_
          rotate_left
          · show Act.put _ (some 30) _ = _
            simp only [Act.put, List.setIfInBounds_toArray, List.set_cons_zero, List.set_cons_succ, i64_w, i32_w]
            rfl
          refine pure_ (i := 15) (N := some 8) (v := ?_) (a' := ?_) #[true, true, true, true, true, true, true, true, true, true, true, true, true, true, true, true] rfl rfl (any_of HT_.out (by kernel_rfl)) (fun _ _ _ h => h) (Or.inl ⟨by rfl, ?_⟩) ?_ ?_
          rotate_left
          · intro w'
            go_simp
            with_reducible rfl
          rotate_left
          · simp only [Act.put, List.setIfInBounds_toArray, List.set_cons_zero, List.set_cons_succ, i64_w, i32_w]
            rfl
          refine done_ (done_of HT_.out (by kernel_rfl)) ?_
          obtain ⟨Ao18, co18, eo18⟩ := Kd.R_slice HO531.out
          subst eo18
          try go_wp2
          go_loopg [33] k (fun kq v33 w' => ∃ (x33_1 : Int), v33 = .int .i64 x33_1 ∧ Aside0 (priceofficelaw06_ClassificationOrders.l0 kq y529 y529 (y529.length : Int) x33_1 = some r) ∧ Aside0 (kq ≤ k) ∧ Aside0 (Kd.R Kd.string 9 w' w.heap.size (fun _ => True) (.slice Ao18 y529.length co18) y529) ∧ Aside0 (Kd.R Kd.string 9 w' w.heap.size (fun _ => True) (.slice Ao18 y529.length co18) y529) ∧ Aside0 (Below w.heap.size w w'))
          case atStart => exact ⟨(0), (by first | rfl | (simp; done) | (simp [*]; done)), H', ⟨Nat.le_refl _⟩, ⟨by (with_reducible repeat (first | apply Kd.R_alloc | apply Kd.R_drewN | apply Kd.R_drew)); exact HO531.out⟩, ⟨by (with_reducible repeat (first | apply Kd.R_alloc | apply Kd.R_drewN | apply Kd.R_drew)); exact HO531.out⟩, ⟨by repeat (first | (with_reducible first | exact HB.out | apply below_alloc | apply pw_below_drewN | apply below_drew1 | refine below_set ?_ (IsS25.ge HI524.out)) | exact HB.out)⟩⟩
          case round =>
            clear H'
            try clear c1
            try clear c2
            try clear p2
            try clear c5
            try clear c5b0
            try clear c5b1
            try clear c6
            try clear c6b0
            try clear c6b1
            try clear c8
            try clear c8b0
            try clear c8b1
            try clear c9
            try clear c9b0
            try clear c9b1
            try clear c11
            obtain ⟨x33_1, rfl, HA, HK1, HO_8, HO_31, HB⟩ := hrel
            cases gk with
            | zero => exact absurd HA.out (by simp [priceofficelaw06_ClassificationOrders.l0])
            | succ k1 =>
              have H := HA.out
              clear HA
              simp only [priceofficelaw06_ClassificationOrders.l0] at H
              by_cases c19 : x33_1 < (y529.length : Int)
              · rw [if_pos c19] at H
                have c19b0 : decide (x33_1 < (y529.length : Int)) = true := decide_eq_true c19
                clear c19
                by_cases c20 : 0 ≤ x33_1
                · rw [if_pos c20] at H
                  have c20b0 : decide (0 ≤ x33_1) = true := decide_eq_true c20
                  clear c20
                  by_cases c21 : x33_1 < (y529.length : Int)
                  · rw [if_pos c21] at H
                    have c21b0 : decide (x33_1 < (y529.length : Int)) = true := decide_eq_true c21
                    clear c21
                    have H' := Aside0.mk H
                    clear H
                    have p533 : 0 ≤ (x33_1 : Int) := of_decide_eq_true (by first | (with_reducible assumption) | assumption)
                    have q533 : x33_1 < (y529.length : Int) := of_decide_eq_true (by first | (with_reducible assumption) | assumption)
                    obtain ⟨ad533, e533, hx533_0⟩ := Kd.at_string (Kd.R_reads' HO_31.out).2.2 x33_1 p533 q533
                    cases e533
                    replace p533 := eq_true p533
                    replace q533 := eq_true q533
                    go_wp2
                    go_loopg [39] k1 (fun kq v39 w' => ∃ (x39_2 : Int), v39 = .int .i64 x39_2 ∧ Aside0 (priceofficelaw06_ClassificationOrders.l1 kq y529 (rdOf ByteArray.empty y529 x33_1) y529 (y529.length : Int) x33_1 y529 (y529.length : Int) x39_2 = some r) ∧ Aside0 (kq ≤ k1) ∧ Aside0 (Kd.R Kd.string 9 w' w.heap.size (fun _ => True) (.slice (some ad533) y529.length co18) y529) ∧ Aside0 (Kd.R Kd.string 9 w' w.heap.size (fun _ => True) (.slice (some ad533) y529.length co18) y529) ∧ Aside0 (Kd.R Kd.string 9 w' w.heap.size (fun _ => True) (.slice (some ad533) y529.length co18) y529) ∧ Aside0 (Below w.heap.size w w'))
                    case atStart => exact ⟨(0), (by first | rfl | (simp; done) | (simp [*]; done)), H', ⟨Nat.le_refl _⟩, ⟨by (with_reducible repeat (first | apply Kd.R_alloc | apply Kd.R_drewN | apply Kd.R_drew)); exact HO_8.out⟩, ⟨by (with_reducible repeat (first | apply Kd.R_alloc | apply Kd.R_drewN | apply Kd.R_drew)); exact HO_31.out⟩, ⟨by (with_reducible repeat (first | apply Kd.R_alloc | apply Kd.R_drewN | apply Kd.R_drew)); exact HO_8.out⟩, ⟨by repeat (first | (with_reducible first | exact HB.out | apply below_alloc | apply pw_below_drewN | apply below_drew1) | exact HB.out)⟩⟩
                    case round =>
                      clear H'
                      try clear c1
                      try clear c2
                      try clear p2
                      try clear c5
                      try clear c5b0
                      try clear c5b1
                      try clear p5
                      try clear q5
                      try clear hx5
                      try clear c6
                      try clear c6b0
                      try clear c6b1
                      try clear c8
                      try clear c8b0
                      try clear c8b1
                      try clear c9
                      try clear c9b0
                      try clear c9b1
                      try clear c11
                      try clear c19
                      try clear c19b0
                      try clear c20
                      try clear c20b0
                      try clear c21
                      try clear c21b0
                      try clear hx533_0
                      try clear p2
                      try clear p533
                      try clear q533
                      obtain ⟨x39_2, rfl, HA, HK2, HO_8, HO_31, HO_37, HB⟩ := hrel
                      cases gk with
                      | zero => exact absurd HA.out (by simp [priceofficelaw06_ClassificationOrders.l1])
                      | succ k2 =>
                        have H := HA.out
                        clear HA
                        simp only [priceofficelaw06_ClassificationOrders.l1] at H
                        by_cases c22 : x39_2 < (y529.length : Int)
                        · rw [if_pos c22] at H
                          have c22b0 : decide (x39_2 < (y529.length : Int)) = true := decide_eq_true c22
                          clear c22
                          by_cases c23 : 0 ≤ x39_2
                          · rw [if_pos c23] at H
                            have c23b0 : decide (0 ≤ x39_2) = true := decide_eq_true c23
                            clear c23
                            by_cases c24 : x39_2 < (y529.length : Int)
                            · rw [if_pos c24] at H
                              have c24b0 : decide (x39_2 < (y529.length : Int)) = true := decide_eq_true c24
                              clear c24
                              replace H := Option.bind_eq_some_iff.mp H
                              obtain ⟨t535, A250, H⟩ := H
                              replace H : ((priceofficeref06_Compare.f k2 (rdOf ByteArray.empty y529 x33_1) (rdOf ByteArray.empty y529 x39_2)).bind fun t536 => (if t535 = t536 then ((classification_Within.f k2 (rdOf ByteArray.empty y529 x33_1) (rdOf ByteArray.empty y529 x39_2)).bind fun t537 => ((priceofficeref06_Within.f k2 (rdOf ByteArray.empty y529 x33_1) (rdOf ByteArray.empty y529 x39_2)).bind fun t538 => (if (t537 != t538) = true then (some false) else ((classification_Common.f k2 (rdOf ByteArray.empty y529 x33_1) (rdOf ByteArray.empty y529 x39_2)).bind fun t539 => ((priceofficeref06_Common.f k2 (rdOf ByteArray.empty y529 x33_1) (rdOf ByteArray.empty y529 x39_2)).bind fun t540 => (if t539.toList = t540.toList then (priceofficelaw06_ClassificationOrders.l1 k2 y529 (rdOf ByteArray.empty y529 x33_1) y529 (y529.length : Int) x33_1 y529 (y529.length : Int) (wrap64 (x39_2 + 1))) else (some false))))))) else (some false))) = some r := H
                              have A25 := Aside0.mk A250
                              clear A250
                              replace H := Option.bind_eq_some_iff.mp H
                              obtain ⟨t536, A260, H⟩ := H
                              replace H : (if t535 = t536 then ((classification_Within.f k2 (rdOf ByteArray.empty y529 x33_1) (rdOf ByteArray.empty y529 x39_2)).bind fun t537 => ((priceofficeref06_Within.f k2 (rdOf ByteArray.empty y529 x33_1) (rdOf ByteArray.empty y529 x39_2)).bind fun t538 => (if (t537 != t538) = true then (some false) else ((classification_Common.f k2 (rdOf ByteArray.empty y529 x33_1) (rdOf ByteArray.empty y529 x39_2)).bind fun t539 => ((priceofficeref06_Common.f k2 (rdOf ByteArray.empty y529 x33_1) (rdOf ByteArray.empty y529 x39_2)).bind fun t540 => (if t539.toList = t540.toList then (priceofficelaw06_ClassificationOrders.l1 k2 y529 (rdOf ByteArray.empty y529 x33_1) y529 (y529.length : Int) x33_1 y529 (y529.length : Int) (wrap64 (x39_2 + 1))) else (some false))))))) else (some false)) = some r := H
                              have A26 := Aside0.mk A260
                              clear A260
                              by_cases c27 : t535 = t536
                              · rw [if_pos c27] at H
                                have c27b0 : (t535 == t536) = true := beq_iff_eq.mpr c27
                                have c27b1 : (t535 != t536) = false := bne_eq_false_iff_eq.mpr c27
                                clear c27
                                replace H := Option.bind_eq_some_iff.mp H
                                obtain ⟨t537, A280, H⟩ := H
                                replace H : ((priceofficeref06_Within.f k2 (rdOf ByteArray.empty y529 x33_1) (rdOf ByteArray.empty y529 x39_2)).bind fun t538 => (if (t537 != t538) = true then (some false) else ((classification_Common.f k2 (rdOf ByteArray.empty y529 x33_1) (rdOf ByteArray.empty y529 x39_2)).bind fun t539 => ((priceofficeref06_Common.f k2 (rdOf ByteArray.empty y529 x33_1) (rdOf ByteArray.empty y529 x39_2)).bind fun t540 => (if t539.toList = t540.toList then (priceofficelaw06_ClassificationOrders.l1 k2 y529 (rdOf ByteArray.empty y529 x33_1) y529 (y529.length : Int) x33_1 y529 (y529.length : Int) (wrap64 (x39_2 + 1))) else (some false)))))) = some r := H
                                have A28 := Aside0.mk A280
                                clear A280
                                replace H := Option.bind_eq_some_iff.mp H
                                obtain ⟨t538, A290, H⟩ := H
                                replace H : (if (t537 != t538) = true then (some false) else ((classification_Common.f k2 (rdOf ByteArray.empty y529 x33_1) (rdOf ByteArray.empty y529 x39_2)).bind fun t539 => ((priceofficeref06_Common.f k2 (rdOf ByteArray.empty y529 x33_1) (rdOf ByteArray.empty y529 x39_2)).bind fun t540 => (if t539.toList = t540.toList then (priceofficelaw06_ClassificationOrders.l1 k2 y529 (rdOf ByteArray.empty y529 x33_1) y529 (y529.length : Int) x33_1 y529 (y529.length : Int) (wrap64 (x39_2 + 1))) else (some false))))) = some r := H
                                have A29 := Aside0.mk A290
                                clear A290
                                by_cases c30 : (t537 != t538) = true
                                · rw [if_pos c30] at H
                                  have c30b0 : (t537 != t538) = true := c30
                                  (try (have c30b1 : decide (t537 = t538) = false := by simpa using c30))
                                  (try (have c30b2 : (t537 == t538) = false := by simpa using c30))
                                  (try (have c30b3 : ¬ (t537 = t538) := by simpa using c30))
                                  clear c30
                                  obtain rfl := Option.some.inj H
                                  have p534 : 0 ≤ (x39_2 : Int) := of_decide_eq_true (by first | (with_reducible assumption) | assumption)
                                  have q534 : x39_2 < (y529.length : Int) := of_decide_eq_true (by first | (with_reducible assumption) | assumption)
                                  obtain ⟨ad534, e534, hx534_0⟩ := Kd.at_string (Kd.R_reads' HO_37.out).2.2 x39_2 p534 q534
                                  obtain rfl : ad533 = ad534 := (by injection e534)
                                  replace p534 := eq_true p534
                                  replace q534 := eq_true q534
                                  go_wp2_with (first | ((with_reducible refine gate_callee (f := 30) rfl ?_); refine goesL_ (some 45) rfl rfl Tryd.func30 (by kernel_rfl) rfl #[.string (rdOf ByteArray.empty y529 x33_1), .string (rdOf ByteArray.empty y529 x39_2)] rfl (by (try simp only [List.map_toArray, List.map_cons, List.map_nil]); first | done | rfl | (simp only [List.length_drop, List.length_take]; rfl)) ?_; (with_reducible refine (classification_Compare.calls k2 (rdOf ByteArray.empty y529 x33_1) (rdOf ByteArray.empty y529 x39_2) t535 _ ?side1 A25.out).mono ?_); (case side1 => first | exact HG.out | exact GL.below HG.out (by repeat (first | (with_reducible first | exact HB.out | apply below_alloc | apply pw_below_drewN | apply below_drew1) | exact HB.out))); rintro e w31 ⟨rfl, hb⟩; refine ⟨_, rfl, ?_⟩; have n0_ := Aside0.mk (Kd.R_below (by (with_reducible repeat (first | apply Kd.R_alloc | apply Kd.R_drewN | apply Kd.R_drew)); exact HO_8.out) hb); have n1_ := Aside0.mk (Kd.R_below (by (with_reducible repeat (first | apply Kd.R_alloc | apply Kd.R_drewN | apply Kd.R_drew)); exact HO_31.out) hb); have n2_ := Aside0.mk (Kd.R_below (by (with_reducible repeat (first | apply Kd.R_alloc | apply Kd.R_drewN | apply Kd.R_drew)); exact HO_37.out) hb); have n3_ := Aside0.mk (below_step (by repeat (first | (with_reducible first | exact HB.out | apply below_alloc | apply pw_below_drewN | apply below_drew1) | exact HB.out)) hb); clear HO_8; clear HO_31; clear HO_37; clear HB; have HO_8 := n0_; have HO_31 := n1_; have HO_37 := n2_; have HB := n3_; clear n0_ n1_ n2_ n3_; (try clear hb); (try clear hb2); (try clear hk); (try clear hi)) | ((with_reducible refine gate_callee (f := 41) rfl ?_); refine goesL_ (some 48) rfl rfl Tryd.func41 (by kernel_rfl) rfl #[.string (rdOf ByteArray.empty y529 x33_1), .string (rdOf ByteArray.empty y529 x39_2)] rfl (by (try simp only [List.map_toArray, List.map_cons, List.map_nil]); first | done | rfl | (simp only [List.length_drop, List.length_take]; rfl)) ?_; (with_reducible refine (priceofficeref06_Compare.calls k2 (rdOf ByteArray.empty y529 x33_1) (rdOf ByteArray.empty y529 x39_2) t536 _ A26.out).mono ?_); rintro e w32 ⟨rfl, hb⟩; refine ⟨_, rfl, ?_⟩; have n0_ := Aside0.mk (Kd.R_below (by (with_reducible repeat (first | apply Kd.R_alloc | apply Kd.R_drewN | apply Kd.R_drew)); exact HO_8.out) hb); have n1_ := Aside0.mk (Kd.R_below (by (with_reducible repeat (first | apply Kd.R_alloc | apply Kd.R_drewN | apply Kd.R_drew)); exact HO_31.out) hb); have n2_ := Aside0.mk (Kd.R_below (by (with_reducible repeat (first | apply Kd.R_alloc | apply Kd.R_drewN | apply Kd.R_drew)); exact HO_37.out) hb); have n3_ := Aside0.mk (below_step (by repeat (first | (with_reducible first | exact HB.out | apply below_alloc | apply pw_below_drewN | apply below_drew1) | exact HB.out)) hb); clear HO_8; clear HO_31; clear HO_37; clear HB; have HO_8 := n0_; have HO_31 := n1_; have HO_37 := n2_; have HB := n3_; clear n0_ n1_ n2_ n3_; (try clear hb); (try clear hb2); (try clear hk); (try clear hi)) | (go_at_call 42; (with_reducible refine (classification_Within.calls k2 (rdOf ByteArray.empty y529 x33_1) (rdOf ByteArray.empty y529 x39_2) t537 _ ?side1 A28.out).mono ?_); (case side1 => first | exact HG.out | exact GL.below HG.out (by repeat (first | (with_reducible first | exact HB.out | apply below_alloc | apply pw_below_drewN | apply below_drew1) | exact HB.out))); rintro e w33 ⟨rfl, hb⟩; have n0_ := Aside0.mk (Kd.R_below (by (with_reducible repeat (first | apply Kd.R_alloc | apply Kd.R_drewN | apply Kd.R_drew)); exact HO_8.out) hb); have n1_ := Aside0.mk (Kd.R_below (by (with_reducible repeat (first | apply Kd.R_alloc | apply Kd.R_drewN | apply Kd.R_drew)); exact HO_31.out) hb); have n2_ := Aside0.mk (Kd.R_below (by (with_reducible repeat (first | apply Kd.R_alloc | apply Kd.R_drewN | apply Kd.R_drew)); exact HO_37.out) hb); have n3_ := Aside0.mk (below_step (by repeat (first | (with_reducible first | exact HB.out | apply below_alloc | apply pw_below_drewN | apply below_drew1) | exact HB.out)) hb); clear HO_8; clear HO_31; clear HO_37; clear HB; have HO_8 := n0_; have HO_31 := n1_; have HO_37 := n2_; have HB := n3_; clear n0_ n1_ n2_ n3_; (try clear hb); (try clear hb2); (try clear hk); (try clear hi)) | (go_at_call 43; (with_reducible refine (priceofficeref06_Within.calls k2 (rdOf ByteArray.empty y529 x33_1) (rdOf ByteArray.empty y529 x39_2) t538 _ A29.out).mono ?_); rintro e w34 ⟨rfl, hb⟩; have n0_ := Aside0.mk (Kd.R_below (by (with_reducible repeat (first | apply Kd.R_alloc | apply Kd.R_drewN | apply Kd.R_drew)); exact HO_8.out) hb); have n1_ := Aside0.mk (Kd.R_below (by (with_reducible repeat (first | apply Kd.R_alloc | apply Kd.R_drewN | apply Kd.R_drew)); exact HO_31.out) hb); have n2_ := Aside0.mk (Kd.R_below (by (with_reducible repeat (first | apply Kd.R_alloc | apply Kd.R_drewN | apply Kd.R_drew)); exact HO_37.out) hb); have n3_ := Aside0.mk (below_step (by repeat (first | (with_reducible first | exact HB.out | apply below_alloc | apply pw_below_drewN | apply below_drew1) | exact HB.out)) hb); clear HO_8; clear HO_31; clear HO_37; clear HB; have HO_8 := n0_; have HO_31 := n1_; have HO_37 := n2_; have HB := n3_; clear n0_ n1_ n2_ n3_; (try clear hb); (try clear hb2); (try clear hk); (try clear hi)))
                                  go_ret
                                  exact ⟨by first | rfl | (simp [errW_none, errW_some] <;> rfl) | (simp only [← hji4, ← hji7]; first | rfl | (simp [errW_none, errW_some] <;> rfl)) | (simp [*, errW_none, errW_some] <;> rfl), by repeat (first | (with_reducible first | exact HB.out | apply below_alloc | apply pw_below_drewN | apply below_drew1) | exact HB.out)⟩
                                · rw [if_neg c30] at H
                                  have c30b0 : (t537 != t538) = false := by simpa using c30
                                  (try (have c30b1 : decide (t537 = t538) = true := by simpa using c30))
                                  (try (have c30b2 : (t537 == t538) = true := by simpa using c30))
                                  clear c30
                                  replace H := Option.bind_eq_some_iff.mp H
                                  obtain ⟨t539, A350, H⟩ := H
                                  replace H : ((priceofficeref06_Common.f k2 (rdOf ByteArray.empty y529 x33_1) (rdOf ByteArray.empty y529 x39_2)).bind fun t540 => (if t539.toList = t540.toList then (priceofficelaw06_ClassificationOrders.l1 k2 y529 (rdOf ByteArray.empty y529 x33_1) y529 (y529.length : Int) x33_1 y529 (y529.length : Int) (wrap64 (x39_2 + 1))) else (some false))) = some r := H
                                  have A35 := Aside0.mk A350
                                  clear A350
                                  replace H := Option.bind_eq_some_iff.mp H
                                  obtain ⟨t540, A360, H⟩ := H
                                  replace H : (if t539.toList = t540.toList then (priceofficelaw06_ClassificationOrders.l1 k2 y529 (rdOf ByteArray.empty y529 x33_1) y529 (y529.length : Int) x33_1 y529 (y529.length : Int) (wrap64 (x39_2 + 1))) else (some false)) = some r := H
                                  have A36 := Aside0.mk A360
                                  clear A360
                                  by_cases c37 : t539.toList = t540.toList
                                  · rw [if_pos c37] at H
                                    have c37b0 : (t539.toList == t540.toList) = true := beq_iff_eq.mpr c37
                                    have c37b1 : (t539.toList != t540.toList) = false := bne_eq_false_iff_eq.mpr c37
                                    clear c37
                                    have H' := Aside0.mk H
                                    clear H
                                    have p534 : 0 ≤ (x39_2 : Int) := of_decide_eq_true (by first | (with_reducible assumption) | assumption)
                                    have q534 : x39_2 < (y529.length : Int) := of_decide_eq_true (by first | (with_reducible assumption) | assumption)
                                    obtain ⟨ad534, e534, hx534_0⟩ := Kd.at_string (Kd.R_reads' HO_37.out).2.2 x39_2 p534 q534
                                    obtain rfl : ad533 = ad534 := (by injection e534)
                                    replace p534 := eq_true p534
                                    replace q534 := eq_true q534
                                    go_wp2_with (first | ((with_reducible refine gate_callee (f := 30) rfl ?_); refine goesL_ (some 45) rfl rfl Tryd.func30 (by kernel_rfl) rfl #[.string (rdOf ByteArray.empty y529 x33_1), .string (rdOf ByteArray.empty y529 x39_2)] rfl (by (try simp only [List.map_toArray, List.map_cons, List.map_nil]); first | done | rfl | (simp only [List.length_drop, List.length_take]; rfl)) ?_; (with_reducible refine (classification_Compare.calls k2 (rdOf ByteArray.empty y529 x33_1) (rdOf ByteArray.empty y529 x39_2) t535 _ ?side1 A25.out).mono ?_); (case side1 => first | exact HG.out | exact GL.below HG.out (by repeat (first | (with_reducible first | exact HB.out | apply below_alloc | apply pw_below_drewN | apply below_drew1) | exact HB.out))); rintro e w38 ⟨rfl, hb⟩; refine ⟨_, rfl, ?_⟩; have n0_ := Aside0.mk (Kd.R_below (by (with_reducible repeat (first | apply Kd.R_alloc | apply Kd.R_drewN | apply Kd.R_drew)); exact HO_8.out) hb); have n1_ := Aside0.mk (Kd.R_below (by (with_reducible repeat (first | apply Kd.R_alloc | apply Kd.R_drewN | apply Kd.R_drew)); exact HO_31.out) hb); have n2_ := Aside0.mk (Kd.R_below (by (with_reducible repeat (first | apply Kd.R_alloc | apply Kd.R_drewN | apply Kd.R_drew)); exact HO_37.out) hb); have n3_ := Aside0.mk (below_step (by repeat (first | (with_reducible first | exact HB.out | apply below_alloc | apply pw_below_drewN | apply below_drew1) | exact HB.out)) hb); clear HO_8; clear HO_31; clear HO_37; clear HB; have HO_8 := n0_; have HO_31 := n1_; have HO_37 := n2_; have HB := n3_; clear n0_ n1_ n2_ n3_; (try clear hb); (try clear hb2); (try clear hk); (try clear hi)) | ((with_reducible refine gate_callee (f := 41) rfl ?_); refine goesL_ (some 48) rfl rfl Tryd.func41 (by kernel_rfl) rfl #[.string (rdOf ByteArray.empty y529 x33_1), .string (rdOf ByteArray.empty y529 x39_2)] rfl (by (try simp only [List.map_toArray, List.map_cons, List.map_nil]); first | done | rfl | (simp only [List.length_drop, List.length_take]; rfl)) ?_; (with_reducible refine (priceofficeref06_Compare.calls k2 (rdOf ByteArray.empty y529 x33_1) (rdOf ByteArray.empty y529 x39_2) t536 _ A26.out).mono ?_); rintro e w39 ⟨rfl, hb⟩; refine ⟨_, rfl, ?_⟩; have n0_ := Aside0.mk (Kd.R_below (by (with_reducible repeat (first | apply Kd.R_alloc | apply Kd.R_drewN | apply Kd.R_drew)); exact HO_8.out) hb); have n1_ := Aside0.mk (Kd.R_below (by (with_reducible repeat (first | apply Kd.R_alloc | apply Kd.R_drewN | apply Kd.R_drew)); exact HO_31.out) hb); have n2_ := Aside0.mk (Kd.R_below (by (with_reducible repeat (first | apply Kd.R_alloc | apply Kd.R_drewN | apply Kd.R_drew)); exact HO_37.out) hb); have n3_ := Aside0.mk (below_step (by repeat (first | (with_reducible first | exact HB.out | apply below_alloc | apply pw_below_drewN | apply below_drew1) | exact HB.out)) hb); clear HO_8; clear HO_31; clear HO_37; clear HB; have HO_8 := n0_; have HO_31 := n1_; have HO_37 := n2_; have HB := n3_; clear n0_ n1_ n2_ n3_; (try clear hb); (try clear hb2); (try clear hk); (try clear hi)) | (go_at_call 42; (with_reducible refine (classification_Within.calls k2 (rdOf ByteArray.empty y529 x33_1) (rdOf ByteArray.empty y529 x39_2) t537 _ ?side1 A28.out).mono ?_); (case side1 => first | exact HG.out | exact GL.below HG.out (by repeat (first | (with_reducible first | exact HB.out | apply below_alloc | apply pw_below_drewN | apply below_drew1) | exact HB.out))); rintro e w40 ⟨rfl, hb⟩; have n0_ := Aside0.mk (Kd.R_below (by (with_reducible repeat (first | apply Kd.R_alloc | apply Kd.R_drewN | apply Kd.R_drew)); exact HO_8.out) hb); have n1_ := Aside0.mk (Kd.R_below (by (with_reducible repeat (first | apply Kd.R_alloc | apply Kd.R_drewN | apply Kd.R_drew)); exact HO_31.out) hb); have n2_ := Aside0.mk (Kd.R_below (by (with_reducible repeat (first | apply Kd.R_alloc | apply Kd.R_drewN | apply Kd.R_drew)); exact HO_37.out) hb); have n3_ := Aside0.mk (below_step (by repeat (first | (with_reducible first | exact HB.out | apply below_alloc | apply pw_below_drewN | apply below_drew1) | exact HB.out)) hb); clear HO_8; clear HO_31; clear HO_37; clear HB; have HO_8 := n0_; have HO_31 := n1_; have HO_37 := n2_; have HB := n3_; clear n0_ n1_ n2_ n3_; (try clear hb); (try clear hb2); (try clear hk); (try clear hi)) | (go_at_call 43; (with_reducible refine (priceofficeref06_Within.calls k2 (rdOf ByteArray.empty y529 x33_1) (rdOf ByteArray.empty y529 x39_2) t538 _ A29.out).mono ?_); rintro e w41 ⟨rfl, hb⟩; have n0_ := Aside0.mk (Kd.R_below (by (with_reducible repeat (first | apply Kd.R_alloc | apply Kd.R_drewN | apply Kd.R_drew)); exact HO_8.out) hb); have n1_ := Aside0.mk (Kd.R_below (by (with_reducible repeat (first | apply Kd.R_alloc | apply Kd.R_drewN | apply Kd.R_drew)); exact HO_31.out) hb); have n2_ := Aside0.mk (Kd.R_below (by (with_reducible repeat (first | apply Kd.R_alloc | apply Kd.R_drewN | apply Kd.R_drew)); exact HO_37.out) hb); have n3_ := Aside0.mk (below_step (by repeat (first | (with_reducible first | exact HB.out | apply below_alloc | apply pw_below_drewN | apply below_drew1) | exact HB.out)) hb); clear HO_8; clear HO_31; clear HO_37; clear HB; have HO_8 := n0_; have HO_31 := n1_; have HO_37 := n2_; have HB := n3_; clear n0_ n1_ n2_ n3_; (try clear hb); (try clear hb2); (try clear hk); (try clear hi)) | (go_at_call 44; (with_reducible refine (classification_Common.calls k2 (rdOf ByteArray.empty y529 x33_1) (rdOf ByteArray.empty y529 x39_2) t539 _ ?side1 A35.out).mono ?_); (case side1 => first | exact HG.out | exact GL.below HG.out (by repeat (first | (with_reducible first | exact HB.out | apply below_alloc | apply pw_below_drewN | apply below_drew1) | exact HB.out))); rintro e w42 ⟨rfl, hb⟩; have n0_ := Aside0.mk (Kd.R_below (by (with_reducible repeat (first | apply Kd.R_alloc | apply Kd.R_drewN | apply Kd.R_drew)); exact HO_8.out) hb); have n1_ := Aside0.mk (Kd.R_below (by (with_reducible repeat (first | apply Kd.R_alloc | apply Kd.R_drewN | apply Kd.R_drew)); exact HO_31.out) hb); have n2_ := Aside0.mk (Kd.R_below (by (with_reducible repeat (first | apply Kd.R_alloc | apply Kd.R_drewN | apply Kd.R_drew)); exact HO_37.out) hb); have n3_ := Aside0.mk (below_step (by repeat (first | (with_reducible first | exact HB.out | apply below_alloc | apply pw_below_drewN | apply below_drew1) | exact HB.out)) hb); clear HO_8; clear HO_31; clear HO_37; clear HB; have HO_8 := n0_; have HO_31 := n1_; have HO_37 := n2_; have HB := n3_; clear n0_ n1_ n2_ n3_; (try clear hb); (try clear hb2); (try clear hk); (try clear hi)) | (go_at_call 45; (with_reducible refine (priceofficeref06_Common.calls k2 (rdOf ByteArray.empty y529 x33_1) (rdOf ByteArray.empty y529 x39_2) t540 _ A36.out).mono ?_); rintro e w43 ⟨rfl, hb⟩; have n0_ := Aside0.mk (Kd.R_below (by (with_reducible repeat (first | apply Kd.R_alloc | apply Kd.R_drewN | apply Kd.R_drew)); exact HO_8.out) hb); have n1_ := Aside0.mk (Kd.R_below (by (with_reducible repeat (first | apply Kd.R_alloc | apply Kd.R_drewN | apply Kd.R_drew)); exact HO_31.out) hb); have n2_ := Aside0.mk (Kd.R_below (by (with_reducible repeat (first | apply Kd.R_alloc | apply Kd.R_drewN | apply Kd.R_drew)); exact HO_37.out) hb); have n3_ := Aside0.mk (below_step (by repeat (first | (with_reducible first | exact HB.out | apply below_alloc | apply pw_below_drewN | apply below_drew1) | exact HB.out)) hb); clear HO_8; clear HO_31; clear HO_37; clear HB; have HO_8 := n0_; have HO_31 := n1_; have HO_37 := n2_; have HB := n3_; clear n0_ n1_ n2_ n3_; (try clear hb); (try clear hb2); (try clear hk); (try clear hi)))
                                    go_roundg k2
                                    case measure => have := HK1.out; have := HK2.out; omega
                                    case rel => exact ⟨(wrap64 (x39_2 + 1)), (by first | rfl | (simp; done) | (simp [*]; done)), H', ⟨by have := HK1.out; have := HK2.out; omega⟩, ⟨by (with_reducible repeat (first | apply Kd.R_alloc | apply Kd.R_drewN | apply Kd.R_drew)); exact HO_8.out⟩, ⟨by (with_reducible repeat (first | apply Kd.R_alloc | apply Kd.R_drewN | apply Kd.R_drew)); exact HO_31.out⟩, ⟨by (with_reducible repeat (first | apply Kd.R_alloc | apply Kd.R_drewN | apply Kd.R_drew)); exact HO_37.out⟩, ⟨by repeat (first | (with_reducible first | exact HB.out | apply below_alloc | apply pw_below_drewN | apply below_drew1) | exact HB.out)⟩⟩
                                  · rw [if_neg c37] at H
                                    have c37b0 : (t539.toList == t540.toList) = false := beq_eq_false_iff_ne.mpr c37
                                    have c37b1 : (t539.toList != t540.toList) = true := bne_iff_ne.mpr c37
                                    obtain rfl := Option.some.inj H
                                    have p534 : 0 ≤ (x39_2 : Int) := of_decide_eq_true (by first | (with_reducible assumption) | assumption)
                                    have q534 : x39_2 < (y529.length : Int) := of_decide_eq_true (by first | (with_reducible assumption) | assumption)
                                    obtain ⟨ad534, e534, hx534_0⟩ := Kd.at_string (Kd.R_reads' HO_37.out).2.2 x39_2 p534 q534
                                    obtain rfl : ad533 = ad534 := (by injection e534)
                                    replace p534 := eq_true p534
                                    replace q534 := eq_true q534
                                    go_wp2_with (first | ((with_reducible refine gate_callee (f := 30) rfl ?_); refine goesL_ (some 45) rfl rfl Tryd.func30 (by kernel_rfl) rfl #[.string (rdOf ByteArray.empty y529 x33_1), .string (rdOf ByteArray.empty y529 x39_2)] rfl (by (try simp only [List.map_toArray, List.map_cons, List.map_nil]); first | done | rfl | (simp only [List.length_drop, List.length_take]; rfl)) ?_; (with_reducible refine (classification_Compare.calls k2 (rdOf ByteArray.empty y529 x33_1) (rdOf ByteArray.empty y529 x39_2) t535 _ ?side1 A25.out).mono ?_); (case side1 => first | exact HG.out | exact GL.below HG.out (by repeat (first | (with_reducible first | exact HB.out | apply below_alloc | apply pw_below_drewN | apply below_drew1) | exact HB.out))); rintro e w44 ⟨rfl, hb⟩; refine ⟨_, rfl, ?_⟩; have n0_ := Aside0.mk (Kd.R_below (by (with_reducible repeat (first | apply Kd.R_alloc | apply Kd.R_drewN | apply Kd.R_drew)); exact HO_8.out) hb); have n1_ := Aside0.mk (Kd.R_below (by (with_reducible repeat (first | apply Kd.R_alloc | apply Kd.R_drewN | apply Kd.R_drew)); exact HO_31.out) hb); have n2_ := Aside0.mk (Kd.R_below (by (with_reducible repeat (first | apply Kd.R_alloc | apply Kd.R_drewN | apply Kd.R_drew)); exact HO_37.out) hb); have n3_ := Aside0.mk (below_step (by repeat (first | (with_reducible first | exact HB.out | apply below_alloc | apply pw_below_drewN | apply below_drew1) | exact HB.out)) hb); clear HO_8; clear HO_31; clear HO_37; clear HB; have HO_8 := n0_; have HO_31 := n1_; have HO_37 := n2_; have HB := n3_; clear n0_ n1_ n2_ n3_; (try clear hb); (try clear hb2); (try clear hk); (try clear hi)) | ((with_reducible refine gate_callee (f := 41) rfl ?_); refine goesL_ (some 48) rfl rfl Tryd.func41 (by kernel_rfl) rfl #[.string (rdOf ByteArray.empty y529 x33_1), .string (rdOf ByteArray.empty y529 x39_2)] rfl (by (try simp only [List.map_toArray, List.map_cons, List.map_nil]); first | done | rfl | (simp only [List.length_drop, List.length_take]; rfl)) ?_; (with_reducible refine (priceofficeref06_Compare.calls k2 (rdOf ByteArray.empty y529 x33_1) (rdOf ByteArray.empty y529 x39_2) t536 _ A26.out).mono ?_); rintro e w45 ⟨rfl, hb⟩; refine ⟨_, rfl, ?_⟩; have n0_ := Aside0.mk (Kd.R_below (by (with_reducible repeat (first | apply Kd.R_alloc | apply Kd.R_drewN | apply Kd.R_drew)); exact HO_8.out) hb); have n1_ := Aside0.mk (Kd.R_below (by (with_reducible repeat (first | apply Kd.R_alloc | apply Kd.R_drewN | apply Kd.R_drew)); exact HO_31.out) hb); have n2_ := Aside0.mk (Kd.R_below (by (with_reducible repeat (first | apply Kd.R_alloc | apply Kd.R_drewN | apply Kd.R_drew)); exact HO_37.out) hb); have n3_ := Aside0.mk (below_step (by repeat (first | (with_reducible first | exact HB.out | apply below_alloc | apply pw_below_drewN | apply below_drew1) | exact HB.out)) hb); clear HO_8; clear HO_31; clear HO_37; clear HB; have HO_8 := n0_; have HO_31 := n1_; have HO_37 := n2_; have HB := n3_; clear n0_ n1_ n2_ n3_; (try clear hb); (try clear hb2); (try clear hk); (try clear hi)) | (go_at_call 42; (with_reducible refine (classification_Within.calls k2 (rdOf ByteArray.empty y529 x33_1) (rdOf ByteArray.empty y529 x39_2) t537 _ ?side1 A28.out).mono ?_); (case side1 => first | exact HG.out | exact GL.below HG.out (by repeat (first | (with_reducible first | exact HB.out | apply below_alloc | apply pw_below_drewN | apply below_drew1) | exact HB.out))); rintro e w46 ⟨rfl, hb⟩; have n0_ := Aside0.mk (Kd.R_below (by (with_reducible repeat (first | apply Kd.R_alloc | apply Kd.R_drewN | apply Kd.R_drew)); exact HO_8.out) hb); have n1_ := Aside0.mk (Kd.R_below (by (with_reducible repeat (first | apply Kd.R_alloc | apply Kd.R_drewN | apply Kd.R_drew)); exact HO_31.out) hb); have n2_ := Aside0.mk (Kd.R_below (by (with_reducible repeat (first | apply Kd.R_alloc | apply Kd.R_drewN | apply Kd.R_drew)); exact HO_37.out) hb); have n3_ := Aside0.mk (below_step (by repeat (first | (with_reducible first | exact HB.out | apply below_alloc | apply pw_below_drewN | apply below_drew1) | exact HB.out)) hb); clear HO_8; clear HO_31; clear HO_37; clear HB; have HO_8 := n0_; have HO_31 := n1_; have HO_37 := n2_; have HB := n3_; clear n0_ n1_ n2_ n3_; (try clear hb); (try clear hb2); (try clear hk); (try clear hi)) | (go_at_call 43; (with_reducible refine (priceofficeref06_Within.calls k2 (rdOf ByteArray.empty y529 x33_1) (rdOf ByteArray.empty y529 x39_2) t538 _ A29.out).mono ?_); rintro e w47 ⟨rfl, hb⟩; have n0_ := Aside0.mk (Kd.R_below (by (with_reducible repeat (first | apply Kd.R_alloc | apply Kd.R_drewN | apply Kd.R_drew)); exact HO_8.out) hb); have n1_ := Aside0.mk (Kd.R_below (by (with_reducible repeat (first | apply Kd.R_alloc | apply Kd.R_drewN | apply Kd.R_drew)); exact HO_31.out) hb); have n2_ := Aside0.mk (Kd.R_below (by (with_reducible repeat (first | apply Kd.R_alloc | apply Kd.R_drewN | apply Kd.R_drew)); exact HO_37.out) hb); have n3_ := Aside0.mk (below_step (by repeat (first | (with_reducible first | exact HB.out | apply below_alloc | apply pw_below_drewN | apply below_drew1) | exact HB.out)) hb); clear HO_8; clear HO_31; clear HO_37; clear HB; have HO_8 := n0_; have HO_31 := n1_; have HO_37 := n2_; have HB := n3_; clear n0_ n1_ n2_ n3_; (try clear hb); (try clear hb2); (try clear hk); (try clear hi)) | (go_at_call 44; (with_reducible refine (classification_Common.calls k2 (rdOf ByteArray.empty y529 x33_1) (rdOf ByteArray.empty y529 x39_2) t539 _ ?side1 A35.out).mono ?_); (case side1 => first | exact HG.out | exact GL.below HG.out (by repeat (first | (with_reducible first | exact HB.out | apply below_alloc | apply pw_below_drewN | apply below_drew1) | exact HB.out))); rintro e w48 ⟨rfl, hb⟩; have n0_ := Aside0.mk (Kd.R_below (by (with_reducible repeat (first | apply Kd.R_alloc | apply Kd.R_drewN | apply Kd.R_drew)); exact HO_8.out) hb); have n1_ := Aside0.mk (Kd.R_below (by (with_reducible repeat (first | apply Kd.R_alloc | apply Kd.R_drewN | apply Kd.R_drew)); exact HO_31.out) hb); have n2_ := Aside0.mk (Kd.R_below (by (with_reducible repeat (first | apply Kd.R_alloc | apply Kd.R_drewN | apply Kd.R_drew)); exact HO_37.out) hb); have n3_ := Aside0.mk (below_step (by repeat (first | (with_reducible first | exact HB.out | apply below_alloc | apply pw_below_drewN | apply below_drew1) | exact HB.out)) hb); clear HO_8; clear HO_31; clear HO_37; clear HB; have HO_8 := n0_; have HO_31 := n1_; have HO_37 := n2_; have HB := n3_; clear n0_ n1_ n2_ n3_; (try clear hb); (try clear hb2); (try clear hk); (try clear hi)) | (go_at_call 45; (with_reducible refine (priceofficeref06_Common.calls k2 (rdOf ByteArray.empty y529 x33_1) (rdOf ByteArray.empty y529 x39_2) t540 _ A36.out).mono ?_); rintro e w49 ⟨rfl, hb⟩; have n0_ := Aside0.mk (Kd.R_below (by (with_reducible repeat (first | apply Kd.R_alloc | apply Kd.R_drewN | apply Kd.R_drew)); exact HO_8.out) hb); have n1_ := Aside0.mk (Kd.R_below (by (with_reducible repeat (first | apply Kd.R_alloc | apply Kd.R_drewN | apply Kd.R_drew)); exact HO_31.out) hb); have n2_ := Aside0.mk (Kd.R_below (by (with_reducible repeat (first | apply Kd.R_alloc | apply Kd.R_drewN | apply Kd.R_drew)); exact HO_37.out) hb); have n3_ := Aside0.mk (below_step (by repeat (first | (with_reducible first | exact HB.out | apply below_alloc | apply pw_below_drewN | apply below_drew1) | exact HB.out)) hb); clear HO_8; clear HO_31; clear HO_37; clear HB; have HO_8 := n0_; have HO_31 := n1_; have HO_37 := n2_; have HB := n3_; clear n0_ n1_ n2_ n3_; (try clear hb); (try clear hb2); (try clear hk); (try clear hi)))
                                    go_ret
                                    exact ⟨by first | rfl | (simp [errW_none, errW_some] <;> rfl) | (simp only [← hji4, ← hji7]; first | rfl | (simp [errW_none, errW_some] <;> rfl)) | (simp [*, errW_none, errW_some] <;> rfl), by repeat (first | (with_reducible first | exact HB.out | apply below_alloc | apply pw_below_drewN | apply below_drew1) | exact HB.out)⟩
                              · rw [if_neg c27] at H
                                have c27b0 : (t535 == t536) = false := beq_eq_false_iff_ne.mpr c27
                                have c27b1 : (t535 != t536) = true := bne_iff_ne.mpr c27
                                obtain rfl := Option.some.inj H
                                have p534 : 0 ≤ (x39_2 : Int) := of_decide_eq_true (by first | (with_reducible assumption) | assumption)
                                have q534 : x39_2 < (y529.length : Int) := of_decide_eq_true (by first | (with_reducible assumption) | assumption)
                                obtain ⟨ad534, e534, hx534_0⟩ := Kd.at_string (Kd.R_reads' HO_37.out).2.2 x39_2 p534 q534
                                obtain rfl : ad533 = ad534 := (by injection e534)
                                replace p534 := eq_true p534
                                replace q534 := eq_true q534
                                go_wp2_with (first | ((with_reducible refine gate_callee (f := 30) rfl ?_); refine goesL_ (some 45) rfl rfl Tryd.func30 (by kernel_rfl) rfl #[.string (rdOf ByteArray.empty y529 x33_1), .string (rdOf ByteArray.empty y529 x39_2)] rfl (by (try simp only [List.map_toArray, List.map_cons, List.map_nil]); first | done | rfl | (simp only [List.length_drop, List.length_take]; rfl)) ?_; (with_reducible refine (classification_Compare.calls k2 (rdOf ByteArray.empty y529 x33_1) (rdOf ByteArray.empty y529 x39_2) t535 _ ?side1 A25.out).mono ?_); (case side1 => first | exact HG.out | exact GL.below HG.out (by repeat (first | (with_reducible first | exact HB.out | apply below_alloc | apply pw_below_drewN | apply below_drew1) | exact HB.out))); rintro e w50 ⟨rfl, hb⟩; refine ⟨_, rfl, ?_⟩; have n0_ := Aside0.mk (Kd.R_below (by (with_reducible repeat (first | apply Kd.R_alloc | apply Kd.R_drewN | apply Kd.R_drew)); exact HO_8.out) hb); have n1_ := Aside0.mk (Kd.R_below (by (with_reducible repeat (first | apply Kd.R_alloc | apply Kd.R_drewN | apply Kd.R_drew)); exact HO_31.out) hb); have n2_ := Aside0.mk (Kd.R_below (by (with_reducible repeat (first | apply Kd.R_alloc | apply Kd.R_drewN | apply Kd.R_drew)); exact HO_37.out) hb); have n3_ := Aside0.mk (below_step (by repeat (first | (with_reducible first | exact HB.out | apply below_alloc | apply pw_below_drewN | apply below_drew1) | exact HB.out)) hb); clear HO_8; clear HO_31; clear HO_37; clear HB; have HO_8 := n0_; have HO_31 := n1_; have HO_37 := n2_; have HB := n3_; clear n0_ n1_ n2_ n3_; (try clear hb); (try clear hb2); (try clear hk); (try clear hi)) | ((with_reducible refine gate_callee (f := 41) rfl ?_); refine goesL_ (some 48) rfl rfl Tryd.func41 (by kernel_rfl) rfl #[.string (rdOf ByteArray.empty y529 x33_1), .string (rdOf ByteArray.empty y529 x39_2)] rfl (by (try simp only [List.map_toArray, List.map_cons, List.map_nil]); first | done | rfl | (simp only [List.length_drop, List.length_take]; rfl)) ?_; (with_reducible refine (priceofficeref06_Compare.calls k2 (rdOf ByteArray.empty y529 x33_1) (rdOf ByteArray.empty y529 x39_2) t536 _ A26.out).mono ?_); rintro e w51 ⟨rfl, hb⟩; refine ⟨_, rfl, ?_⟩; have n0_ := Aside0.mk (Kd.R_below (by (with_reducible repeat (first | apply Kd.R_alloc | apply Kd.R_drewN | apply Kd.R_drew)); exact HO_8.out) hb); have n1_ := Aside0.mk (Kd.R_below (by (with_reducible repeat (first | apply Kd.R_alloc | apply Kd.R_drewN | apply Kd.R_drew)); exact HO_31.out) hb); have n2_ := Aside0.mk (Kd.R_below (by (with_reducible repeat (first | apply Kd.R_alloc | apply Kd.R_drewN | apply Kd.R_drew)); exact HO_37.out) hb); have n3_ := Aside0.mk (below_step (by repeat (first | (with_reducible first | exact HB.out | apply below_alloc | apply pw_below_drewN | apply below_drew1) | exact HB.out)) hb); clear HO_8; clear HO_31; clear HO_37; clear HB; have HO_8 := n0_; have HO_31 := n1_; have HO_37 := n2_; have HB := n3_; clear n0_ n1_ n2_ n3_; (try clear hb); (try clear hb2); (try clear hk); (try clear hi)))
                                go_ret
                                exact ⟨by first | rfl | (simp [errW_none, errW_some] <;> rfl) | (simp only [← hji4, ← hji7]; first | rfl | (simp [errW_none, errW_some] <;> rfl)) | (simp [*, errW_none, errW_some] <;> rfl), by repeat (first | (with_reducible first | exact HB.out | apply below_alloc | apply pw_below_drewN | apply below_drew1) | exact HB.out)⟩
                            · rw [if_neg c24] at H
                              exact absurd H (by simp)
                          · rw [if_neg c23] at H
                            exact absurd H (by simp)
                        · rw [if_neg c22] at H
                          have c22b0 : decide (x39_2 < (y529.length : Int)) = false := decide_eq_false c22
                          clear c22
                          have H' := Aside0.mk H
                          clear H
                          go_wp2
                          go_roundg k2
                          case measure => have := HK1.out; have := HK2.out; omega
                          case rel => exact ⟨(wrap64 (x33_1 + 1)), (by first | rfl | (simp; done) | (simp [*]; done)), H', ⟨by have := HK1.out; have := HK2.out; omega⟩, ⟨by (with_reducible repeat (first | apply Kd.R_alloc | apply Kd.R_drewN | apply Kd.R_drew)); exact HO_8.out⟩, ⟨by (with_reducible repeat (first | apply Kd.R_alloc | apply Kd.R_drewN | apply Kd.R_drew)); exact HO_31.out⟩, ⟨by repeat (first | (with_reducible first | exact HB.out | apply below_alloc | apply pw_below_drewN | apply below_drew1) | exact HB.out)⟩⟩
                  · rw [if_neg c21] at H
                    exact absurd H (by simp)
                · rw [if_neg c20] at H
                  exact absurd H (by simp)
              · rw [if_neg c19] at H
                have c19b0 : decide (x33_1 < (y529.length : Int)) = false := decide_eq_false c19
                clear c19
                replace H := Option.bind_eq_some_iff.mp H
                obtain ⟨t532, A520, H⟩ := H
                replace H : (some t532) = some r := H
                have A52 := Aside0.mk A520
                clear A520
                obtain rfl := Option.some.inj H
                go_wp2_with (first | ((with_reducible refine gate_callee (f := 17) rfl ?_); refine goesL_ (some 70) rfl rfl Tryd.func17 (by kernel_rfl) rfl #[] rfl (by (try simp only [List.map_toArray, List.map_cons, List.map_nil]); first | done | rfl | (simp only [List.length_drop, List.length_take]; rfl)) ?_; (with_reducible refine (priceofficelaw06_awake.calls k1  t532 _ ?side1 A52.out).mono ?_); (case side1 => first | exact HG.out | exact GL.below HG.out (by repeat (first | (with_reducible first | exact HB.out | apply below_alloc | apply pw_below_drewN | apply below_drew1) | exact HB.out))); rintro e w53 ⟨rfl, hb⟩; refine ⟨_, rfl, ?_⟩; have n0_ := Aside0.mk (Kd.R_below (by (with_reducible repeat (first | apply Kd.R_alloc | apply Kd.R_drewN | apply Kd.R_drew)); exact HO_8.out) hb); have n1_ := Aside0.mk (Kd.R_below (by (with_reducible repeat (first | apply Kd.R_alloc | apply Kd.R_drewN | apply Kd.R_drew)); exact HO_31.out) hb); have n2_ := Aside0.mk (below_step (by repeat (first | (with_reducible first | exact HB.out | apply below_alloc | apply pw_below_drewN | apply below_drew1) | exact HB.out)) hb); clear HO_8; clear HO_31; clear HB; have HO_8 := n0_; have HO_31 := n1_; have HB := n2_; clear n0_ n1_ n2_; (try clear hb); (try clear hb2); (try clear hk); (try clear hi)))
                go_ret
                exact ⟨by first | rfl | (simp [errW_none, errW_some] <;> rfl) | (simp only [← hji4, ← hji7]; first | rfl | (simp [errW_none, errW_some] <;> rfl)) | (simp [*, errW_none, errW_some] <;> rfl), by repeat (first | (with_reducible first | exact HB.out | apply below_alloc | apply pw_below_drewN | apply below_drew1) | exact HB.out)⟩
        · rw [if_neg c9] at H
          exact absurd H (by simp)
      · rw [if_neg c8] at H
        exact absurd H (by simp)
    · rw [if_neg c6] at H
      exact absurd H (by simp)
  · rw [if_neg c5] at H
    exact absurd H (by simp)

end Go.Proofs.YtpnoliognpmkmaaDoor.P
