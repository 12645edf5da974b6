/- Lean functions with the same answers as the program's Go functions, and for each the proof that the call comes to these answers; written by a program of mine out of the translation, the functions marked 'by hand' by me. -/
import Derived.Test.YtpnoliognpmkmaaDoorP0
import Derived.Test.YtpnoliognpmkmaaDoorP3
import Derived.Test.YtpnoliognpmkmaaDoorP4
import Derived.Test.YtpnoliognpmkmaaDoorP11
import Derived.Test.YtpnoliognpmkmaaDoorP15
import Derived.Test.YtpnoliognpmkmaaDoorP28
import Derived.Test.YtpnoliognpmkmaaDoorP29
namespace Go.Proofs.YtpnoliognpmkmaaDoor.P
open Go.RowKit Go.Proofs.YtpnoliognpmkmaaDoorW.PrintWords Go.Proofs.YtpnoliognpmkmaaDoorW.PrintLast Go.Proofs.YtpnoliognpmkmaaDoorW.PrintMore
attribute [local go_sem] max2_int min2_int max_two min_two max_three min_three max_four min_four   -- for this text's walks alone
set_option linter.unusedVariables false
set_option linter.unusedSimpArgs false

/-! ### priceofficelaw06_ClassificationDivides: function 3 -/
mutual
def priceofficelaw06_ClassificationDivides.l0 : Nat → List ByteArray → Int → Int → ByteArray → List ByteArray → Option (Bool)
  | 0, _, _, _, _, _ => none
  | k + 1, x19, x20, x21, x581000, x581001 => if x21 < x20 then (if 0 ≤ x21 then (if x21 < (x19.length : Int) then ((classification_Children.f k x581000 x581001 (rdOf ByteArray.empty x19 x21)).bind fun t589 => (priceofficelaw06_ClassificationDivides.l1 k (rdOf ByteArray.empty x19 x21) t589 ([] : List ByteArray) x19 x20 x21 t589 (t589.length : Int) 0 x581000 x581001)) else (none)) else (none)) else ((priceofficelaw06_awake.f k).bind fun t587 => (some t587))
def priceofficelaw06_ClassificationDivides.l1 : Nat → ByteArray → List ByteArray → List ByteArray → List ByteArray → Int → Int → List ByteArray → Int → Int → ByteArray → List ByteArray → Option (Bool)
  | 0, _, _, _, _, _, _, _, _, _, _, _ => none
  | k + 1, x6, x7, x8, x19, x20, x21, x28, x29, x30, x581000, x581001 => if x30 < x29 then (if 0 ≤ x30 then (if x30 < (x28.length : Int) then ((classification_Leaves.f k x581000 x581001 (rdOf ByteArray.empty x28 x30)).bind fun t593 => (if x8.length + t593.length < 8796093022208 then (priceofficelaw06_ClassificationDivides.l1 k x6 x7 (x8 ++ t593) x19 x20 x21 x28 x29 (wrap64 (x30 + 1)) x581000 x581001) else (none))) else (none)) else (none)) else (if (x7.length : Int) = 0 then (priceofficelaw06_ClassificationDivides.j2 k x6 (([x6] : List ByteArray)) x19 x20 x21 x581000 x581001) else (priceofficelaw06_ClassificationDivides.j2 k x6 x8 x19 x20 x21 x581000 x581001))
def priceofficelaw06_ClassificationDivides.j2 : Nat → ByteArray → List ByteArray → List ByteArray → Int → Int → ByteArray → List ByteArray → Option (Bool)
  | 0, _, _, _, _, _, _, _ => none
  | k + 1, x6, x8, x19, x20, x21, x581000, x581001 => (classification_Leaves.f k x581000 x581001 x6).bind fun t602 => ((priceofficeref06_SameStrings.f k t602 x8).bind fun t605 => (if t605 = true then (priceofficelaw06_ClassificationDivides.l0 k x19 x20 (wrap64 (x21 + 1)) x581000 x581001) else (some false)))
end
def priceofficelaw06_ClassificationDivides.f (k : Nat) (l0 : List Int) : Option (Bool) := (priceofficemake_Tape_Tree.f k l0 0).bind fun bt575 => ((some (([(⟨#[]⟩ : ByteArray)] : List ByteArray) : List ByteArray)).bind fun y581 => (if y581.length + bt575.2.1.length < 8796093022208 then ((some (y581 ++ bt575.2.1 : List ByteArray)).bind fun y584 => (priceofficelaw06_ClassificationDivides.l0 k y584 (y584.length : Int) 0 bt575.1 bt575.2.1)) else (none)))
theorem priceofficelaw06_ClassificationDivides.mono_l : ∀ k, (∀ y0 y1 y2 y3 y4, LeO (priceofficelaw06_ClassificationDivides.l0 k y0 y1 y2 y3 y4) (priceofficelaw06_ClassificationDivides.l0 (k + 1) y0 y1 y2 y3 y4)) ∧ (∀ y0 y1 y2 y3 y4 y5 y6 y7 y8 y9 y10, LeO (priceofficelaw06_ClassificationDivides.l1 k y0 y1 y2 y3 y4 y5 y6 y7 y8 y9 y10) (priceofficelaw06_ClassificationDivides.l1 (k + 1) y0 y1 y2 y3 y4 y5 y6 y7 y8 y9 y10)) ∧ (∀ y0 y1 y2 y3 y4 y5 y6, LeO (priceofficelaw06_ClassificationDivides.j2 k y0 y1 y2 y3 y4 y5 y6) (priceofficelaw06_ClassificationDivides.j2 (k + 1) y0 y1 y2 y3 y4 y5 y6))
  | 0 => ⟨fun _ _ _ _ _ r h => by simp [priceofficelaw06_ClassificationDivides.l0] at h, fun _ _ _ _ _ _ _ _ _ _ _ r h => by simp [priceofficelaw06_ClassificationDivides.l1] at h, fun _ _ _ _ _ _ _ r h => by simp [priceofficelaw06_ClassificationDivides.j2] at h⟩
  | k + 1 => by
    obtain ⟨ih0, ih1, ih2⟩ := priceofficelaw06_ClassificationDivides.mono_l k
    refine ⟨?_, ?_, ?_⟩
    · intro y0 y1 y2 y3 y4
      unfold priceofficelaw06_ClassificationDivides.l0
      repeat' first
      | (with_reducible exact ih0 _ _ _ _ _)
      | (with_reducible exact ih1 _ _ _ _ _ _ _ _ _ _ _)
      | (with_reducible exact ih2 _ _ _ _ _ _ _)
      | (with_reducible exact classification_Children.mono _ _ _ _)
      | (with_reducible exact classification_Leaves.mono _ _ _ _)
      | (with_reducible exact priceofficelaw06_awake.mono _)
      | (with_reducible exact priceofficemake_Tape_Tree.mono _ _ _)
      | (with_reducible exact priceofficeref06_SameStrings.mono _ _ _)
      | (with_reducible exact LeO.refl _)
      | (with_reducible exact LeO.none _)
      | (with_reducible refine LeO.ite ?_ ?_)
      | (with_reducible refine LeO.bind ?_ (fun _ => ?_))
      | exact ih0 _ _ _ _ _
      | exact ih1 _ _ _ _ _ _ _ _ _ _ _
      | exact ih2 _ _ _ _ _ _ _
      | exact classification_Children.mono _ _ _ _
      | exact classification_Leaves.mono _ _ _ _
      | exact priceofficelaw06_awake.mono _
      | exact priceofficemake_Tape_Tree.mono _ _ _
      | exact priceofficeref06_SameStrings.mono _ _ _
      | exact LeO.none _
      | refine LeO.ite ?_ ?_
      | refine LeO.bind ?_ (fun _ => ?_)
    · intro y0 y1 y2 y3 y4 y5 y6 y7 y8 y9 y10
      unfold priceofficelaw06_ClassificationDivides.l1
      repeat' first
      | (with_reducible exact ih0 _ _ _ _ _)
      | (with_reducible exact ih1 _ _ _ _ _ _ _ _ _ _ _)
      | (with_reducible exact ih2 _ _ _ _ _ _ _)
      | (with_reducible exact classification_Children.mono _ _ _ _)
      | (with_reducible exact classification_Leaves.mono _ _ _ _)
      | (with_reducible exact priceofficelaw06_awake.mono _)
      | (with_reducible exact priceofficemake_Tape_Tree.mono _ _ _)
      | (with_reducible exact priceofficeref06_SameStrings.mono _ _ _)
      | (with_reducible exact LeO.refl _)
      | (with_reducible exact LeO.none _)
      | (with_reducible refine LeO.ite ?_ ?_)
      | (with_reducible refine LeO.bind ?_ (fun _ => ?_))
      | exact ih0 _ _ _ _ _
      | exact ih1 _ _ _ _ _ _ _ _ _ _ _
      | exact ih2 _ _ _ _ _ _ _
      | exact classification_Children.mono _ _ _ _
      | exact classification_Leaves.mono _ _ _ _
      | exact priceofficelaw06_awake.mono _
      | exact priceofficemake_Tape_Tree.mono _ _ _
      | exact priceofficeref06_SameStrings.mono _ _ _
      | exact LeO.none _
      | refine LeO.ite ?_ ?_
      | refine LeO.bind ?_ (fun _ => ?_)
    · intro y0 y1 y2 y3 y4 y5 y6
      unfold priceofficelaw06_ClassificationDivides.j2
      repeat' first
      | (with_reducible exact ih0 _ _ _ _ _)
      | (with_reducible exact ih1 _ _ _ _ _ _ _ _ _ _ _)
      | (with_reducible exact ih2 _ _ _ _ _ _ _)
      | (with_reducible exact classification_Children.mono _ _ _ _)
      | (with_reducible exact classification_Leaves.mono _ _ _ _)
      | (with_reducible exact priceofficelaw06_awake.mono _)
      | (with_reducible exact priceofficemake_Tape_Tree.mono _ _ _)
      | (with_reducible exact priceofficeref06_SameStrings.mono _ _ _)
      | (with_reducible exact LeO.refl _)
      | (with_reducible exact LeO.none _)
      | (with_reducible refine LeO.ite ?_ ?_)
      | (with_reducible refine LeO.bind ?_ (fun _ => ?_))
      | exact ih0 _ _ _ _ _
      | exact ih1 _ _ _ _ _ _ _ _ _ _ _
      | exact ih2 _ _ _ _ _ _ _
      | exact classification_Children.mono _ _ _ _
      | exact classification_Leaves.mono _ _ _ _
      | exact priceofficelaw06_awake.mono _
      | exact priceofficemake_Tape_Tree.mono _ _ _
      | exact priceofficeref06_SameStrings.mono _ _ _
      | exact LeO.none _
      | refine LeO.ite ?_ ?_
      | refine LeO.bind ?_ (fun _ => ?_)
theorem priceofficelaw06_ClassificationDivides.mono : ∀ a0 k, LeO (priceofficelaw06_ClassificationDivides.f k a0) (priceofficelaw06_ClassificationDivides.f (k + 1) a0) := by
  intro a0 k
  obtain ⟨ih0, ih1, ih2⟩ := priceofficelaw06_ClassificationDivides.mono_l k
  unfold priceofficelaw06_ClassificationDivides.f
  repeat' first
      | (with_reducible exact ih0 _ _ _ _ _)
      | (with_reducible exact ih1 _ _ _ _ _ _ _ _ _ _ _)
      | (with_reducible exact ih2 _ _ _ _ _ _ _)
      | (with_reducible exact classification_Children.mono _ _ _ _)
      | (with_reducible exact classification_Leaves.mono _ _ _ _)
      | (with_reducible exact priceofficelaw06_awake.mono _)
      | (with_reducible exact priceofficemake_Tape_Tree.mono _ _ _)
      | (with_reducible exact priceofficeref06_SameStrings.mono _ _ _)
      | (with_reducible exact LeO.refl _)
      | (with_reducible exact LeO.none _)
      | (with_reducible refine LeO.ite ?_ ?_)
      | (with_reducible refine LeO.bind ?_ (fun _ => ?_))
      | exact ih0 _ _ _ _ _
      | exact ih1 _ _ _ _ _ _ _ _ _ _ _
      | exact ih2 _ _ _ _ _ _ _
      | exact classification_Children.mono _ _ _ _
      | exact classification_Leaves.mono _ _ _ _
      | exact priceofficelaw06_awake.mono _
      | exact priceofficemake_Tape_Tree.mono _ _ _
      | exact priceofficeref06_SameStrings.mono _ _ _
      | exact LeO.none _
      | refine LeO.ite ?_ ?_
      | refine LeO.bind ?_ (fun _ => ?_)
set_option maxHeartbeats 8000000 in
set_option maxRecDepth 100000 in
theorem priceofficelaw06_ClassificationDivides.calls (k : Nat) (A0 : Option Addr) (c0 : Nat) (l0 : List Int) (r : Bool) (w : World) (hr0 : Kd.C (Kd.int .i64) w A0 l0.length l0) (hc0 : l0.length ≤ c0) (hG : GL w) (h : priceofficelaw06_ClassificationDivides.f k l0 = some r) :
    Calls Tryd.prog 3 #[.slice A0 l0.length c0] w fun e w' => e = .returned (.bool r) ∧ Below w.heap.size w w' := by
  have HG := Aside0.mk hG
  clear hG
  have hu25 := Tryd.underlying25
  have hu28 := Tryd.underlying28
  have HR0 := Aside0.mk hr0
  have HC0 := Aside0.mk hc0
  clear hr0 hc0
  have HB := Aside0.mk (Below.refl w.heap.size w)
  have H : ((priceofficemake_Tape_Tree.f k l0 0).bind fun bt575 => ((some (([(⟨#[]⟩ : ByteArray)] : List ByteArray) : List ByteArray)).bind fun y581 => (if y581.length + bt575.2.1.length < 8796093022208 then ((some (y581 ++ bt575.2.1 : List ByteArray)).bind fun y584 => (priceofficelaw06_ClassificationDivides.l0 k y584 (y584.length : Int) 0 bt575.1 bt575.2.1)) else (none)))) = some r := h
  clear h
  replace H := Option.bind_eq_some_iff.mp H
  obtain ⟨⟨t575, t576, t579⟩, A20, H⟩ := H
  replace H : ((some (([(⟨#[]⟩ : ByteArray)] : List ByteArray) : List ByteArray)).bind fun y581 => (if y581.length + t576.length < 8796093022208 then ((some (y581 ++ t576 : List ByteArray)).bind fun y584 => (priceofficelaw06_ClassificationDivides.l0 k y584 (y584.length : Int) 0 t575 t576)) else (none))) = some r := H
  have A2 := Aside0.mk A20
  clear A20
  obtain ⟨y581, hy581⟩ : ∃ y_ : List ByteArray, y_ = (([(⟨#[]⟩ : ByteArray)] : List ByteArray)) := ⟨_, rfl⟩
  replace H : (if y581.length + t576.length < 8796093022208 then ((some (y581 ++ t576 : List ByteArray)).bind fun y584 => (priceofficelaw06_ClassificationDivides.l0 k y584 (y584.length : Int) 0 t575 t576)) else (none)) = some r := by first | (rw [hy581]; with_reducible exact H) | (have H2_ := (Option.bind_some _ _).symm.trans H; rw [hy581]; with_reducible exact H2_) | (have H2_ := (Option.bind_some _ _).symm.trans H; with_reducible exact H2_) | with_reducible exact H | (rw [hy581]; exact H) | exact H
  have Ny581 := Aside0.mk hy581
  clear hy581
  by_cases c3 : y581.length + t576.length < 8796093022208
  · rw [if_pos c3] at H
    have LMc3 := Aside0.mk c3
    clear c3
    obtain ⟨y584, hy584⟩ : ∃ y_ : List ByteArray, y_ = (y581 ++ t576) := ⟨_, rfl⟩
    replace H : (priceofficelaw06_ClassificationDivides.l0 k y584 (y584.length : Int) 0 t575 t576) = some r := by first | (rw [hy584]; with_reducible exact H) | (have H2_ := (Option.bind_some _ _).symm.trans H; rw [hy584]; with_reducible exact H2_) | (have H2_ := (Option.bind_some _ _).symm.trans H; with_reducible exact H2_) | with_reducible exact H | (rw [hy584]; exact H) | exact H
    have Ny584 := Aside0.mk hy584
    clear hy584
    have H' := Aside0.mk H
    clear H
    go_enter Tryd.func3, Tryd.ntmps3
    go_wp2_with (first | ((with_reducible refine gate_dst (N := 13) rfl ?_); refine box_event ?hg (N := 13) ?hd (cs := #[.slice A0 l0.length c0, .int .i64 0]) (t := 25) ?hr ?_; (case hd => rfl); (case hg => rfl); (case hr => first | (go_simp; done) | (go_simp; rfl)); intro gb574 hg w4 hbox hb; have n0_ := Aside0.mk (below_step (by repeat (first | (with_reducible first | exact HB.out | apply below_alloc | apply pw_below_drewN | apply below_drew1) | exact HB.out)) hb); have n1_ := Aside0.mk (hbox); have n2_ := Aside0.mk ((by rw [hg]; exact (below_size (by repeat (first | (with_reducible first | exact HB.out | apply below_alloc | apply pw_below_drewN | apply below_drew1) | exact HB.out))) : w.heap.size ≤ gb574)); have n3_ := Aside0.mk ((by rw [hg]; exact (below_size (by repeat (first | (with_reducible first | exact HB.out | apply below_alloc | apply pw_below_drewN | apply below_drew1) | exact HB.out))) : w.heap.size ≤ gb574)); have n4_ := Aside0.mk ((show IsS25 w w4 gb574 l0 0 from ⟨_, _, hbox, (by rw [hg]; exact (below_size (by repeat (first | (with_reducible first | exact HB.out | apply below_alloc | apply pw_below_drewN | apply below_drew1) | exact HB.out))) : w.heap.size ≤ gb574), HR0.out⟩)); clear HB; have HB := n0_; have BK574 := n1_; have GW574 := n2_; have GE574 := n3_; have HI574 := n4_; clear n0_ n1_ n2_ n3_ n4_; clear hb hbox hg) | ((with_reducible refine gate_callee (f := 13) rfl ?_); refine goesL_ (some 15) rfl rfl Tryd.func13 (by kernel_rfl) rfl #[.pointer (some ⟨gb574, 0, none⟩)] rfl (by (try simp only [List.map_toArray, List.map_cons, List.map_nil]); first | done | rfl | (simp only [List.length_drop, List.length_take]; rfl)) ?_; (with_reducible refine (priceofficemake_Tape_Tree.calls k gb574 l0 0 t575 t576 t579 w _ ?side1 ?side2 A2.out).mono ?_); (case side1 => repeat (first | (with_reducible first | exact HI574.out | apply IsS25.alloc | apply IsS25.drewN | apply IsS25.drew | apply IsS25.set_1) | exact HI574.out)); (case side2 => repeat (first | (with_reducible first | exact HB.out | apply below_alloc | apply pw_below_drewN | apply below_drew1 | refine below_set ?_ (IsS25.ge HI574.out)) | exact HB.out)); rintro e w5 ⟨v577, rfl, ho0, hi, hb, hk⟩; refine ⟨_, rfl, ?_⟩; have n0_ := Aside0.mk (Kd.R_lower ho0 (below_size (by repeat (first | (with_reducible first | exact HB.out | apply below_alloc | apply pw_below_drewN | apply below_drew1 | refine below_set ?_ (IsS25.ge HI574.out)) | exact HB.out)))); have n1_ := Aside0.mk (hb); have n2_ := Aside0.mk (hi); clear HB; clear HI574; have HO578 := n0_; have HB := n1_; have HI574 := n2_; clear n0_ n1_ n2_; (try clear hb); (try clear hb2); (try clear hk); (try clear hi); (try clear ho0)) | ((with_reducible refine gate_dst (N := 4) rfl ?_); refine box_event ?hg (N := 4) ?hd (cs := #[.string (⟨#[]⟩ : ByteArray), .slice none 0 0]) (t := 28) ?hr ?_; (case hd => rfl); (case hg => rfl); (case hr => first | (go_simp; done) | (go_simp; rfl)); intro gb580 hg w6 hbox hb; have n0_ := Aside0.mk (Kd.R_below (by (with_reducible repeat (first | apply Kd.R_alloc | apply Kd.R_drewN | apply Kd.R_drew)); exact HO578.out) hb); have n1_ := Aside0.mk (IsS25.below (by repeat (first | (with_reducible first | exact HI574.out | apply IsS25.alloc | apply IsS25.drewN | apply IsS25.drew | apply IsS25.set_1) | exact HI574.out)) hb); have n2_ := Aside0.mk (below_step (by repeat (first | (with_reducible first | exact HB.out | apply below_alloc | apply pw_below_drewN | apply below_drew1 | refine below_set ?_ (IsS25.ge HI574.out)) | exact HB.out)) hb); have n3_ := Aside0.mk (hbox); have n4_ := Aside0.mk ((by rw [hg]; exact (below_size (by repeat (first | (with_reducible first | exact HB.out | apply below_alloc | apply pw_below_drewN | apply below_drew1 | refine below_set ?_ (IsS25.ge HI574.out)) | exact HB.out))) : w.heap.size ≤ gb580)); have n5_ := Aside0.mk ((by rw [hg]; exact (below_size (by repeat (first | (with_reducible first | exact HB.out | apply below_alloc | apply pw_below_drewN | apply below_drew1 | refine below_set ?_ (IsS25.ge HI574.out)) | exact HB.out))) : w.heap.size ≤ gb580)); have n6_ := Aside0.mk ((by rw [hg]; exact Nat.ne_of_lt (IsS25.lt (show IsS25 w _ gb574 l0 t579 from by repeat (first | (with_reducible first | exact HI574.out | apply IsS25.alloc | apply IsS25.drewN | apply IsS25.drew | apply IsS25.set_1) | exact HI574.out))) : gb574 ≠ gb580)); have n7_ := Aside0.mk ((by rw [hg]; exact Nat.ne_of_gt (IsS25.lt (show IsS25 w _ gb574 l0 t579 from by repeat (first | (with_reducible first | exact HI574.out | apply IsS25.alloc | apply IsS25.drewN | apply IsS25.drew | apply IsS25.set_1) | exact HI574.out))) : gb580 ≠ gb574)); clear HO578; clear HI574; clear HB; have HO578 := n0_; have HI574 := n1_; have HB := n2_; have BK580 := n3_; have GW580 := n4_; have GE580 := n5_; have NB574_580 := n6_; have NB580_574 := n7_; clear n0_ n1_ n2_ n3_ n4_ n5_ n6_ n7_; clear hb hbox hg; have hnb7 := NB580_574.out; have hnc7 := NB574_580.out; have hcz8_0 : w6.cell? ⟨gb580, 0, none⟩ = some (.string (⟨#[]⟩ : ByteArray)) := (blk_cell BK580.out 0).trans rfl; have hcz8_1 : w6.cell? ⟨gb580, 1, none⟩ = some (.slice none 0 0) := (blk_cell BK580.out 1).trans rfl; have hfz8_0 := blk_frozen BK580.out 0; have hfz8_1 := blk_frozen BK580.out 1; obtain ⟨Ao9, co9, eo9⟩ := Kd.R_slice HO578.out; subst eo9) | ((with_reducible refine gate_dst (N := 16) rfl ?_); refine Kd.R_lit Kd.string _ 9 ?hg (N := 16) ?hd (xs := ([(⟨#[]⟩ : ByteArray)] : List ByteArray)) (inner := [.string (⟨#[]⟩ : ByteArray)]) (ok := fun _ => True) (okp := fun _ => True) ?hr ?hp (fun _ hk => hk) trivial (Below.refl _ _) (Nat.le_refl _) (by simp) ?_; (case hd => rfl); (case hg => rfl); (case hr => first | (go_simp; done) | (go_simp; rfl)); (case hp => exact (Reps.one (show Kd.M Kd.string _ _ _ (⟨#[]⟩ : ByteArray) [.string (⟨#[]⟩ : ByteArray)] from rfl) (Reps.none _ _))); intro v582 w10 ho11 hb hg_ hnew_; clear hg_ hnew_; (first | rw [← Ny581.out] at ho11 | (simp only [Int.reduceToNat] at ho11; rw [← Ny581.out] at ho11)); have n0_ := Aside0.mk (Kd.R_elder' (by (with_reducible repeat (first | apply Kd.R_alloc | apply Kd.R_drewN | apply Kd.R_drew)); exact (Kd.R_mono (Kd.R_far (p := ⟨gb580, 1, none⟩) (Kd.R_far (p := ⟨gb580, 0, none⟩) (Kd.R_types HO578.out BK580.out (by decide)) (fun _ hk => hk.2) (.string t575)) (fun _ hk => hk.2) (.slice Ao9 t576.length co9)) (fun _ h_ => h_.1))) (Kd.R_base ho11) hb); have n1_ := Aside0.mk (Kd.R_lower (Kd.R_new' ho11 (Kd.R_lt (by (with_reducible repeat (first | apply Kd.R_alloc | apply Kd.R_drewN | apply Kd.R_drew)); exact (Kd.R_mono (Kd.R_far (p := ⟨gb580, 1, none⟩) (Kd.R_far (p := ⟨gb580, 0, none⟩) (Kd.R_types HO578.out BK580.out (by decide)) (fun _ hk => hk.2) (.string t575)) (fun _ hk => hk.2) (.slice Ao9 t576.length co9)) (fun _ h_ => h_.1))))) (below_size (by repeat (first | (with_reducible first | exact HB.out | apply below_alloc | apply pw_below_drewN | apply below_drew1 | refine below_set ?_ (IsS25.ge HI574.out) | refine below_set ?_ GE580.out) | exact HB.out)))); have n2_ := Aside0.mk (IsS25.below (show IsS25 w ((w6.setCell ⟨gb580, 0, none⟩ (.string t575)).setCell ⟨gb580, 1, none⟩ (.slice Ao9 t576.length co9)) gb574 l0 t579 from by repeat (first | (with_reducible first | exact HI574.out | apply IsS25.alloc | apply IsS25.drewN | apply IsS25.drew | apply IsS25.set_1 | refine IsS25.far ?_ NB574_580.out _) | exact HI574.out)) hb); have n3_ := Aside0.mk (blk_below (g := gb580) (o := .cells #[.string t575, .slice Ao9 t576.length co9] 28 (0, 0)) (by (with_reducible repeat (first | refine blk_drewN ?_ _ | refine blk_drew ?_ | refine blk_alloc ?_ _)); refine blk_put (cs := #[.string t575, .slice none 0 0]) ?_ 1 _ rfl; (with_reducible repeat (first | refine blk_drewN ?_ _ | refine blk_drew ?_ | refine blk_alloc ?_ _)); refine blk_put (cs := #[.string (⟨#[]⟩ : ByteArray), .slice none 0 0]) ?_ 0 _ rfl; (with_reducible repeat (first | refine blk_drewN ?_ _ | refine blk_drew ?_ | refine blk_alloc ?_ _)); exact BK580.out) hb); have n4_ := Aside0.mk (below_step (by repeat (first | (with_reducible first | exact HB.out | apply below_alloc | apply pw_below_drewN | apply below_drew1 | refine below_set ?_ (IsS25.ge HI574.out) | refine below_set ?_ GE580.out) | exact HB.out)) hb); clear HO578; clear HI574; clear BK580; clear HB; have HO578 := n0_; have HO583 := n1_; have HI574 := n2_; have BK580 := n3_; have HB := n4_; clear n0_ n1_ n2_ n3_ n4_; clear hb ho11; have hcz12_0 : w10.cell? ⟨gb580, 0, none⟩ = some (.string t575) := (blk_cell BK580.out 0).trans rfl; have hcz12_1 : w10.cell? ⟨gb580, 1, none⟩ = some (.slice Ao9 t576.length co9) := (blk_cell BK580.out 1).trans rfl; have hfz12_0 := blk_frozen BK580.out 0; have hfz12_1 := blk_frozen BK580.out 1) | ((with_reducible refine gate_builtin (b := .append) (xs := #[.tmp 16, .tmp 18]) rfl ?_); at_builtin; refine Kd.R_append_rows Kd.string (w0 := w) w.heap.size rfl (.tmp 16) (.tmp 18) 26 9 (.string ⟨#[]⟩) 16 rfl Tryd.underlying26 info9 rfl (by decide) (by omega) v582 y581 t576 _ _ _ (fun k_ => some k_ ≠ (.slice Ao9 t576.length co9 : Value).ownBlock) (fun _ => False) rfl rfl ?aO ?aR (fun _ _ h => h) (fun _ h => h.elim) ?aF ?aB ?aS ?aL ?_; (case aR => repeat (first | exact (Kd.R_reads' HO578.out).2.2 | (with_reducible refine Kd.C_alloc ?_ _) | (with_reducible refine Kd.C_drewN ?_ _) | (with_reducible refine Kd.C_drew ?_))); (case aB => exact (by repeat (first | (with_reducible first | exact HB.out | apply below_alloc | apply pw_below_drewN | apply below_drew1 | refine below_set ?_ (IsS25.ge HI574.out) | refine below_set ?_ GE580.out) | exact HB.out))); (case aF => exact (fun k_ hk => Kd.fresh' (Kd.R_lt (by (with_reducible repeat (first | apply Kd.R_alloc | apply Kd.R_drewN | apply Kd.R_drew)); exact HO578.out)) k_ hk)); (case aO => exact (by (with_reducible repeat (first | apply Kd.R_alloc | apply Kd.R_drewN | apply Kd.R_drew)); exact Kd.R_mono HO583.out (fun _ hk => hk.2))); (case aS => exact (below_size (by repeat (first | (with_reducible first | exact HB.out | apply below_alloc | apply pw_below_drewN | apply below_drew1 | refine below_set ?_ (IsS25.ge HI574.out) | refine below_set ?_ GE580.out) | exact HB.out)))); (case aL => have := LMc3.out; omega); intro v585 w13 ho hb hg hat; rw [← Ny584.out] at ho; have n0_ := Aside0.mk (IsS25.grown (by repeat (first | (with_reducible first | exact HI574.out | apply IsS25.alloc | apply IsS25.drewN | apply IsS25.drew | apply IsS25.set_1 | refine IsS25.far ?_ NB574_580.out _) | exact HI574.out)) hg (IsS25.own_ne HI574.out HO583.out (by decide))); have n1_ := Aside0.mk (Kd.R_after (ok := (fun _ => True)) (by (with_reducible repeat (first | apply Kd.R_alloc | apply Kd.R_drewN | apply Kd.R_drew)); exact HO578.out) hg hat); have n2_ := Aside0.mk (blk_grown (g := gb580) (o := .cells #[.string t575, .slice Ao9 t576.length co9] 28 (0, 0)) (by (with_reducible repeat (first | refine blk_drewN ?_ _ | refine blk_drew ?_ | refine blk_alloc ?_ _)); exact BK580.out) hg (Kd.R_ne HO583.out BK580.out (by decide))); have n3_ := Aside0.mk (hb); have n4_ := Aside0.mk (ho); clear HI574; clear HO578; clear BK580; clear HB; clear HO583; have HI574 := n0_; have HO578 := n1_; have BK580 := n2_; have HB := n3_; have HO586 := n4_; clear n0_ n1_ n2_ n3_ n4_; clear ho hb hg hat; obtain ⟨Ao14, co14, eo14⟩ := Kd.R_slice HO586.out; subst eo14))
    go_loopg [21] k (fun kq v21 w' => ∃ (x21_1 : Int), v21 = .int .i64 x21_1 ∧ Aside0 (priceofficelaw06_ClassificationDivides.l0 kq y584 (y584.length : Int) x21_1 t575 t576 = some r) ∧ Aside0 (kq ≤ k) ∧ Aside0 (Kd.R Kd.string 9 w' w.heap.size (fun k_ => some k_ ≠ ((.slice Ao9 t576.length co9) : Value).ownBlock) (.slice Ao14 y584.length co14) y584) ∧ Aside0 (Kd.R Kd.string 9 w' w.heap.size (fun k_ => some k_ ≠ ((.slice Ao14 y584.length co14) : Value).ownBlock) (.slice Ao9 t576.length co9) t576) ∧ Aside0 (w'.heap[gb580]? = some (.cells #[.string t575, (.slice Ao9 t576.length co9)] 28 (0, 0))) ∧ Aside0 (Below w.heap.size w w'))
    case atStart => exact ⟨(0), (by first | rfl | (simp; done) | (simp [*]; done)), H', ⟨Nat.le_refl _⟩, ⟨by (with_reducible repeat (first | apply Kd.R_alloc | apply Kd.R_drewN | apply Kd.R_drew)); exact HO586.out⟩, ⟨by (with_reducible repeat (first | apply Kd.R_alloc | apply Kd.R_drewN | apply Kd.R_drew)); exact Kd.R_mono HO578.out (fun _ hk => hk.2)⟩, ⟨by (with_reducible repeat (first | refine blk_drewN ?_ _ | refine blk_drew ?_ | refine blk_alloc ?_ _)); exact BK580.out⟩, ⟨by repeat (first | (with_reducible first | exact HB.out | apply below_alloc | apply pw_below_drewN | apply below_drew1 | refine below_set ?_ (IsS25.ge HI574.out) | refine below_set ?_ GE580.out) | exact HB.out)⟩⟩
    case round =>
      clear H'
      try clear c1
      try clear p2
      try clear c3
      try clear c7
      try clear c13
      try clear hcz12_0
      try clear hcz12_1
      try clear hcz8_0
      try clear hcz8_1
      try clear hfz12_0
      try clear hfz12_1
      try clear hfz8_0
      try clear hfz8_1
      obtain ⟨x21_1, rfl, HA, HK1, HO_19, HO_581001, BK580, HB⟩ := hrel
      cases gk with
      | zero => exact absurd HA.out (by simp [priceofficelaw06_ClassificationDivides.l0])
      | succ k1 =>
        have H := HA.out
        clear HA
        simp only [priceofficelaw06_ClassificationDivides.l0] at H
        by_cases c15 : x21_1 < (y584.length : Int)
        · rw [if_pos c15] at H
          have c15b0 : decide (x21_1 < (y584.length : Int)) = true := decide_eq_true c15
          clear c15
          by_cases c16 : 0 ≤ x21_1
          · rw [if_pos c16] at H
            have c16b0 : decide (0 ≤ x21_1) = true := decide_eq_true c16
            clear c16
            by_cases c17 : x21_1 < (y584.length : Int)
            · rw [if_pos c17] at H
              have c17b0 : decide (x21_1 < (y584.length : Int)) = true := decide_eq_true c17
              clear c17
              replace H := Option.bind_eq_some_iff.mp H
              obtain ⟨t589, A180, H⟩ := H
              replace H : (priceofficelaw06_ClassificationDivides.l1 k1 (rdOf ByteArray.empty y584 x21_1) t589 ([] : List ByteArray) y584 (y584.length : Int) x21_1 t589 (t589.length : Int) 0 t575 t576) = some r := H
              have A18 := Aside0.mk A180
              clear A180
              have H' := Aside0.mk H
              clear H
              have p588 : 0 ≤ (x21_1 : Int) := of_decide_eq_true (by first | (with_reducible assumption) | assumption)
              have q588 : x21_1 < (y584.length : Int) := of_decide_eq_true (by first | (with_reducible assumption) | assumption)
              obtain ⟨ad588, e588, hx588_0⟩ := Kd.at_string (Kd.R_reads' HO_19.out).2.2 x21_1 p588 q588
              cases e588
              replace p588 := eq_true p588
              replace q588 := eq_true q588
              have hcz19_0 : wr.cell? ⟨gb580, 0, none⟩ = some (.string t575) := (blk_cell BK580.out 0).trans rfl
              have hcz19_1 : wr.cell? ⟨gb580, 1, none⟩ = some (.slice Ao9 t576.length co9) := (blk_cell BK580.out 1).trans rfl
              have hfz19_0 := blk_frozen BK580.out 0
              have hfz19_1 := blk_frozen BK580.out 1
              go_wp2_with (first | ((with_reducible refine gate_callee (f := 14) rfl ?_); refine goesL_ (some 27) rfl rfl Tryd.func14 (by kernel_rfl) rfl #[.agg #[.string t575, .slice Ao9 t576.length co9], .string (rdOf ByteArray.empty y584 x21_1)] rfl (by (try simp only [List.map_toArray, List.map_cons, List.map_nil]); first | done | rfl | (simp only [List.length_drop, List.length_take]; rfl)) ?_; (with_reducible refine (classification_Children.calls k1 t575 _ _ t576 (rdOf ByteArray.empty y584 x21_1) t589 _ ?side1 ?side2 ?side3 A18.out).mono ?_); (case side1 => repeat (first | exact (Kd.R_reads' HO_581001.out).2.2 | (with_reducible refine Kd.C_alloc ?_ _) | (with_reducible refine Kd.C_drewN ?_ _) | (with_reducible refine Kd.C_drew ?_))); (case side2 => exact (Kd.R_reads' HO_581001.out).2.1); (case side3 => first | exact HG.out | exact GL.below HG.out (by repeat (first | (with_reducible first | exact HB.out | apply below_alloc | apply pw_below_drewN | apply below_drew1 | refine below_set ?_ GE580.out) | exact HB.out))); rintro e w20 ⟨v590, rfl, ho0, hb⟩; refine ⟨_, rfl, ?_⟩; have n0_ := Aside0.mk (Kd.R_elder' (by (with_reducible repeat (first | apply Kd.R_alloc | apply Kd.R_drewN | apply Kd.R_drew)); exact HO_19.out) (Kd.R_base ho0) hb); have n1_ := Aside0.mk (Kd.R_elder' (by (with_reducible repeat (first | apply Kd.R_alloc | apply Kd.R_drewN | apply Kd.R_drew)); exact HO_581001.out) (Kd.R_base ho0) hb); have n2_ := Aside0.mk (Kd.R_lower (Kd.R_new' (Kd.R_new' ho0 (Kd.R_lt (by (with_reducible repeat (first | apply Kd.R_alloc | apply Kd.R_drewN | apply Kd.R_drew)); exact HO_19.out))) (Kd.R_lt (by (with_reducible repeat (first | apply Kd.R_alloc | apply Kd.R_drewN | apply Kd.R_drew)); exact HO_581001.out))) (below_size (by repeat (first | (with_reducible first | exact HB.out | apply below_alloc | apply pw_below_drewN | apply below_drew1 | refine below_set ?_ GE580.out) | exact HB.out)))); have n3_ := Aside0.mk (blk_below (g := gb580) (o := .cells #[.string t575, .slice Ao9 t576.length co9] 28 (0, 0)) (by (with_reducible repeat (first | refine blk_drewN ?_ _ | refine blk_drew ?_ | refine blk_alloc ?_ _)); exact BK580.out) hb); have n4_ := Aside0.mk (below_step (by repeat (first | (with_reducible first | exact HB.out | apply below_alloc | apply pw_below_drewN | apply below_drew1 | refine below_set ?_ GE580.out) | exact HB.out)) hb); clear HO_19; clear HO_581001; clear BK580; clear HB; have HO_19 := n0_; have HO_581001 := n1_; have HO591 := n2_; have BK580 := n3_; have HB := n4_; clear n0_ n1_ n2_ n3_ n4_; (try clear hb); (try clear hb2); (try clear hk); (try clear hi); (try clear ho0); obtain ⟨Ao21, co21, eo21⟩ := Kd.R_slice HO591.out; subst eo21))
              go_loopg [8, 30] k1 (fun kq v8 v30 w' => ∃ (x8_2 : List ByteArray) (x30_2 : Int), v30 = .int .i64 x30_2 ∧ Aside0 (priceofficelaw06_ClassificationDivides.l1 kq (rdOf ByteArray.empty y584 x21_1) t589 x8_2 y584 (y584.length : Int) x21_1 t589 (t589.length : Int) x30_2 t575 t576 = some r) ∧ Aside0 (kq ≤ k1) ∧ Aside0 (Kd.R Kd.string 9 w' w.heap.size (fun k_ => some k_ ≠ (v8 : Value).ownBlock ∧ some k_ ≠ ((.slice (some ad588) y584.length co14) : Value).ownBlock ∧ some k_ ≠ ((.slice Ao9 t576.length co9) : Value).ownBlock) (.slice Ao21 t589.length co21) t589) ∧ Aside0 (Kd.R Kd.string 9 w' w.heap.size (fun k_ => some k_ ≠ ((.slice Ao21 t589.length co21) : Value).ownBlock ∧ some k_ ≠ ((.slice (some ad588) y584.length co14) : Value).ownBlock ∧ some k_ ≠ ((.slice Ao21 t589.length co21) : Value).ownBlock ∧ some k_ ≠ ((.slice Ao9 t576.length co9) : Value).ownBlock) v8 x8_2) ∧ Aside0 (Kd.R Kd.string 9 w' w.heap.size (fun k_ => some k_ ≠ ((.slice Ao21 t589.length co21) : Value).ownBlock ∧ some k_ ≠ (v8 : Value).ownBlock ∧ some k_ ≠ ((.slice Ao21 t589.length co21) : Value).ownBlock ∧ some k_ ≠ ((.slice Ao9 t576.length co9) : Value).ownBlock) (.slice (some ad588) y584.length co14) y584) ∧ Aside0 (Kd.R Kd.string 9 w' w.heap.size (fun k_ => some k_ ≠ (v8 : Value).ownBlock ∧ some k_ ≠ ((.slice (some ad588) y584.length co14) : Value).ownBlock ∧ some k_ ≠ ((.slice Ao9 t576.length co9) : Value).ownBlock) (.slice Ao21 t589.length co21) t589) ∧ Aside0 (Kd.R Kd.string 9 w' w.heap.size (fun k_ => some k_ ≠ ((.slice Ao21 t589.length co21) : Value).ownBlock ∧ some k_ ≠ (v8 : Value).ownBlock ∧ some k_ ≠ ((.slice (some ad588) y584.length co14) : Value).ownBlock ∧ some k_ ≠ ((.slice Ao21 t589.length co21) : Value).ownBlock) (.slice Ao9 t576.length co9) t576) ∧ Aside0 (w'.heap[gb580]? = some (.cells #[.string t575, (.slice Ao9 t576.length co9)] 28 (0, 0))) ∧ Aside0 (Below w.heap.size w w'))
              case atStart => exact ⟨(([] : List ByteArray)), (0), (by first | rfl | (simp; done) | (simp [*]; done)), H', ⟨Nat.le_refl _⟩, ⟨by (with_reducible repeat (first | apply Kd.R_alloc | apply Kd.R_drewN | apply Kd.R_drew)); exact Kd.R_mono HO591.out (fun _ hk => ⟨(by simp [Value.ownBlock]), ⟨hk.1.2, hk.2⟩⟩)⟩, ⟨by first | exact Kd.R_nil _ _ _ _ _ | exact Kd.N_nil _ _ _ _ _ | exact Kd.V_nil _ _ _ _ _ | exact Kd.Q_nil _ _ _ _ _ | exact Kd.S_nil _ _ _ _ _⟩, ⟨by (with_reducible repeat (first | apply Kd.R_alloc | apply Kd.R_drewN | apply Kd.R_drew)); exact Kd.R_mono HO_19.out (fun _ hk => ⟨hk.2, ⟨(by simp [Value.ownBlock]), ⟨hk.2, hk.1⟩⟩⟩)⟩, ⟨by (with_reducible repeat (first | apply Kd.R_alloc | apply Kd.R_drewN | apply Kd.R_drew)); exact Kd.R_mono HO591.out (fun _ hk => ⟨(by simp [Value.ownBlock]), ⟨hk.1.2, hk.2⟩⟩)⟩, ⟨by (with_reducible repeat (first | apply Kd.R_alloc | apply Kd.R_drewN | apply Kd.R_drew)); exact Kd.R_mono HO_581001.out (fun _ hk => ⟨hk.2, ⟨(by simp [Value.ownBlock]), ⟨hk.1, hk.2⟩⟩⟩)⟩, ⟨by (with_reducible repeat (first | refine blk_drewN ?_ _ | refine blk_drew ?_ | refine blk_alloc ?_ _)); exact BK580.out⟩, ⟨by repeat (first | (with_reducible first | exact HB.out | apply below_alloc | apply pw_below_drewN | apply below_drew1 | refine below_set ?_ GE580.out) | exact HB.out)⟩⟩
              case round =>
                clear H'
                try clear c1
                try clear p2
                try clear c3
                try clear p5
                try clear q5
                try clear hx5
                try clear c7
                try clear c13
                try clear c14
                try clear c15
                try clear c15b0
                try clear c16
                try clear c16b0
                try clear c17
                try clear c17b0
                try clear hcz12_0
                try clear hcz12_1
                try clear hcz19_0
                try clear hcz19_1
                try clear hcz8_0
                try clear hcz8_1
                try clear hfz12_0
                try clear hfz12_1
                try clear hfz19_0
                try clear hfz19_1
                try clear hfz8_0
                try clear hfz8_1
                try clear hx588_0
                try clear p2
                try clear p588
                try clear q588
                obtain ⟨x8_2, x30_2, rfl, HA, HK2, HO_7, HO_8, HO_19, HO_28, HO_581001, BK580, HB⟩ := hrel
                cases gk with
                | zero => exact absurd HA.out (by simp [priceofficelaw06_ClassificationDivides.l1])
                | succ k2 =>
                  have H := HA.out
                  clear HA
                  simp only [priceofficelaw06_ClassificationDivides.l1] at H
                  by_cases c22 : x30_2 < (t589.length : Int)
                  · rw [if_pos c22] at H
                    have c22b0 : decide (x30_2 < (t589.length : Int)) = true := decide_eq_true c22
                    clear c22
                    by_cases c23 : 0 ≤ x30_2
                    · rw [if_pos c23] at H
                      have c23b0 : decide (0 ≤ x30_2) = true := decide_eq_true c23
                      clear c23
                      by_cases c24 : x30_2 < (t589.length : Int)
                      · rw [if_pos c24] at H
                        have c24b0 : decide (x30_2 < (t589.length : Int)) = true := decide_eq_true c24
                        clear c24
                        replace H := Option.bind_eq_some_iff.mp H
                        obtain ⟨t593, A250, H⟩ := H
                        replace H : (if x8_2.length + t593.length < 8796093022208 then (priceofficelaw06_ClassificationDivides.l1 k2 (rdOf ByteArray.empty y584 x21_1) t589 (x8_2 ++ t593) y584 (y584.length : Int) x21_1 t589 (t589.length : Int) (wrap64 (x30_2 + 1)) t575 t576) else (none)) = some r := H
                        have A25 := Aside0.mk A250
                        clear A250
                        by_cases c26 : x8_2.length + t593.length < 8796093022208
                        · rw [if_pos c26] at H
                          have LMc26 := Aside0.mk c26
                          clear c26
                          obtain ⟨y596, hy596⟩ : ∃ y_ : List ByteArray, y_ = (x8_2 ++ t593) := ⟨_, rfl⟩
                          replace H : (priceofficelaw06_ClassificationDivides.l1 k2 (rdOf ByteArray.empty y584 x21_1) t589 y596 y584 (y584.length : Int) x21_1 t589 (t589.length : Int) (wrap64 (x30_2 + 1)) t575 t576) = some r := by first | (rw [hy596]; with_reducible exact H) | (have H2_ := (Option.bind_some _ _).symm.trans H; rw [hy596]; with_reducible exact H2_) | (have H2_ := (Option.bind_some _ _).symm.trans H; with_reducible exact H2_) | with_reducible exact H | (rw [hy596]; exact H) | exact H
                          have Ny596 := Aside0.mk hy596
                          clear hy596
                          have H' := Aside0.mk H
                          clear H
                          have p592 : 0 ≤ (x30_2 : Int) := of_decide_eq_true (by first | (with_reducible assumption) | assumption)
                          have q592 : x30_2 < (t589.length : Int) := of_decide_eq_true (by first | (with_reducible assumption) | assumption)
                          obtain ⟨ad592, e592, hx592_0⟩ := Kd.at_string (Kd.R_reads' HO_28.out).2.2 x30_2 p592 q592
                          cases e592
                          replace p592 := eq_true p592
                          replace q592 := eq_true q592
                          have hcz27_0 : wr.cell? ⟨gb580, 0, none⟩ = some (.string t575) := (blk_cell BK580.out 0).trans rfl
                          have hcz27_1 : wr.cell? ⟨gb580, 1, none⟩ = some (.slice Ao9 t576.length co9) := (blk_cell BK580.out 1).trans rfl
                          have hfz27_0 := blk_frozen BK580.out 0
                          have hfz27_1 := blk_frozen BK580.out 1
                          go_wp2_with (first | ((with_reducible refine gate_callee (f := 15) rfl ?_); refine goesL_ (some 37) rfl rfl Tryd.func15 (by kernel_rfl) rfl #[.agg #[.string t575, .slice Ao9 t576.length co9], .string (rdOf ByteArray.empty t589 x30_2)] rfl (by (try simp only [List.map_toArray, List.map_cons, List.map_nil]); first | done | rfl | (simp only [List.length_drop, List.length_take]; rfl)) ?_; (with_reducible refine (classification_Leaves.calls k2 t575 _ _ t576 (rdOf ByteArray.empty t589 x30_2) t593 _ ?side1 ?side2 ?side3 A25.out).mono ?_); (case side1 => repeat (first | exact (Kd.R_reads' HO_581001.out).2.2 | (with_reducible refine Kd.C_alloc ?_ _) | (with_reducible refine Kd.C_drewN ?_ _) | (with_reducible refine Kd.C_drew ?_))); (case side2 => exact (Kd.R_reads' HO_581001.out).2.1); (case side3 => first | exact HG.out | exact GL.below HG.out (by repeat (first | (with_reducible first | exact HB.out | apply below_alloc | apply pw_below_drewN | apply below_drew1 | refine below_set ?_ GE580.out) | exact HB.out))); rintro e w28 ⟨v594, rfl, ho0, hb⟩; refine ⟨_, rfl, ?_⟩; have n0_ := Aside0.mk (Kd.R_elder' (by (with_reducible repeat (first | apply Kd.R_alloc | apply Kd.R_drewN | apply Kd.R_drew)); exact HO_7.out) (Kd.R_base ho0) hb); have n1_ := Aside0.mk (Kd.R_elder' (by (with_reducible repeat (first | apply Kd.R_alloc | apply Kd.R_drewN | apply Kd.R_drew)); exact HO_8.out) (Kd.R_base ho0) hb); have n2_ := Aside0.mk (Kd.R_elder' (by (with_reducible repeat (first | apply Kd.R_alloc | apply Kd.R_drewN | apply Kd.R_drew)); exact HO_19.out) (Kd.R_base ho0) hb); have n3_ := Aside0.mk (Kd.R_elder' (by (with_reducible repeat (first | apply Kd.R_alloc | apply Kd.R_drewN | apply Kd.R_drew)); exact HO_28.out) (Kd.R_base ho0) hb); have n4_ := Aside0.mk (Kd.R_elder' (by (with_reducible repeat (first | apply Kd.R_alloc | apply Kd.R_drewN | apply Kd.R_drew)); exact HO_581001.out) (Kd.R_base ho0) hb); have n5_ := Aside0.mk (Kd.R_lower (Kd.R_new' (Kd.R_new' (Kd.R_new' (Kd.R_new' (Kd.R_new' ho0 (Kd.R_lt (by (with_reducible repeat (first | apply Kd.R_alloc | apply Kd.R_drewN | apply Kd.R_drew)); exact HO_7.out))) (Kd.R_lt (by (with_reducible repeat (first | apply Kd.R_alloc | apply Kd.R_drewN | apply Kd.R_drew)); exact HO_8.out))) (Kd.R_lt (by (with_reducible repeat (first | apply Kd.R_alloc | apply Kd.R_drewN | apply Kd.R_drew)); exact HO_19.out))) (Kd.R_lt (by (with_reducible repeat (first | apply Kd.R_alloc | apply Kd.R_drewN | apply Kd.R_drew)); exact HO_28.out))) (Kd.R_lt (by (with_reducible repeat (first | apply Kd.R_alloc | apply Kd.R_drewN | apply Kd.R_drew)); exact HO_581001.out))) (below_size (by repeat (first | (with_reducible first | exact HB.out | apply below_alloc | apply pw_below_drewN | apply below_drew1 | refine below_set ?_ GE580.out) | exact HB.out)))); have n6_ := Aside0.mk (blk_below (g := gb580) (o := .cells #[.string t575, .slice Ao9 t576.length co9] 28 (0, 0)) (by (with_reducible repeat (first | refine blk_drewN ?_ _ | refine blk_drew ?_ | refine blk_alloc ?_ _)); exact BK580.out) hb); have n7_ := Aside0.mk (below_step (by repeat (first | (with_reducible first | exact HB.out | apply below_alloc | apply pw_below_drewN | apply below_drew1 | refine below_set ?_ GE580.out) | exact HB.out)) hb); clear HO_7; clear HO_8; clear HO_19; clear HO_28; clear HO_581001; clear BK580; clear HB; have HO_7 := n0_; have HO_8 := n1_; have HO_19 := n2_; have HO_28 := n3_; have HO_581001 := n4_; have HO595 := n5_; have BK580 := n6_; have HB := n7_; clear n0_ n1_ n2_ n3_ n4_ n5_ n6_ n7_; (try clear hb); (try clear hb2); (try clear hk); (try clear hi); (try clear ho0); obtain ⟨Ao30, co30, eo30⟩ := Kd.R_slice HO595.out; subst eo30) | ((with_reducible refine gate_builtin (b := .append) (xs := #[.tmp 34, .tmp 37]) rfl ?_); at_builtin; refine Kd.R_append_rows Kd.string (w0 := w) w.heap.size rfl (.tmp 34) (.tmp 37) 26 9 (.string ⟨#[]⟩) 16 rfl Tryd.underlying26 info9 rfl (by decide) (by omega) u8 x8_2 t593 _ _ _ (fun k_ => some k_ ≠ (.slice (some ad592) t589.length co21 : Value).ownBlock ∧ some k_ ≠ (.slice (some ad588) y584.length co14 : Value).ownBlock ∧ some k_ ≠ (.slice (some ad592) t589.length co21 : Value).ownBlock ∧ some k_ ≠ (.slice Ao9 t576.length co9 : Value).ownBlock ∧ some k_ ≠ (.slice Ao30 t593.length co30 : Value).ownBlock) (fun _ => False) rfl rfl ?aO ?aR (fun _ _ h => h) (fun _ h => h.elim) ?aF ?aB ?aS ?aL ?_; (case aR => repeat (first | exact (Kd.R_reads' HO595.out).2.2 | (with_reducible refine Kd.C_alloc ?_ _) | (with_reducible refine Kd.C_drewN ?_ _) | (with_reducible refine Kd.C_drew ?_))); (case aB => exact (by repeat (first | (with_reducible first | exact HB.out | apply below_alloc | apply pw_below_drewN | apply below_drew1 | refine below_set ?_ GE580.out) | exact HB.out))); (case aF => exact (fun k_ hk => ⟨Kd.fresh' (Kd.R_lt (by (with_reducible repeat (first | apply Kd.R_alloc | apply Kd.R_drewN | apply Kd.R_drew)); exact HO_7.out)) k_ hk, Kd.fresh' (Kd.R_lt (by (with_reducible repeat (first | apply Kd.R_alloc | apply Kd.R_drewN | apply Kd.R_drew)); exact HO_19.out)) k_ hk, Kd.fresh' (Kd.R_lt (by (with_reducible repeat (first | apply Kd.R_alloc | apply Kd.R_drewN | apply Kd.R_drew)); exact HO_28.out)) k_ hk, Kd.fresh' (Kd.R_lt (by (with_reducible repeat (first | apply Kd.R_alloc | apply Kd.R_drewN | apply Kd.R_drew)); exact HO_581001.out)) k_ hk, Kd.fresh' (Kd.R_lt (by (with_reducible repeat (first | apply Kd.R_alloc | apply Kd.R_drewN | apply Kd.R_drew)); exact HO595.out)) k_ hk⟩)); (case aO => exact (by (with_reducible repeat (first | apply Kd.R_alloc | apply Kd.R_drewN | apply Kd.R_drew)); exact Kd.R_mono HO_8.out (fun _ hk => ⟨hk.1.1, ⟨hk.1.2.1, ⟨hk.1.2.2.1, ⟨hk.1.2.2.2, hk.2⟩⟩⟩⟩))); (case aS => exact (below_size (by repeat (first | (with_reducible first | exact HB.out | apply below_alloc | apply pw_below_drewN | apply below_drew1 | refine below_set ?_ GE580.out) | exact HB.out)))); (case aL => have := LMc26.out; omega); intro v597 w29 ho hb hg hat; rw [← Ny596.out] at ho; have n0_ := Aside0.mk (Kd.R_after (ok := (fun k_ => some k_ ≠ (.slice (some ad588) y584.length co14 : Value).ownBlock ∧ some k_ ≠ (.slice Ao9 t576.length co9 : Value).ownBlock ∧ some k_ ≠ (.slice Ao30 t593.length co30 : Value).ownBlock)) (by (with_reducible repeat (first | apply Kd.R_alloc | apply Kd.R_drewN | apply Kd.R_drew)); exact Kd.R_mono HO_7.out (fun _ hk => ⟨⟨hk.1.2.1, ⟨hk.1.2.2, hk.2⟩⟩, hk.1.1⟩)) hg hat); have n1_ := Aside0.mk (Kd.R_after (ok := (fun k_ => some k_ ≠ (.slice (some ad592) t589.length co21 : Value).ownBlock ∧ some k_ ≠ (.slice (some ad592) t589.length co21 : Value).ownBlock ∧ some k_ ≠ (.slice Ao9 t576.length co9 : Value).ownBlock ∧ some k_ ≠ (.slice Ao30 t593.length co30 : Value).ownBlock)) (by (with_reducible repeat (first | apply Kd.R_alloc | apply Kd.R_drewN | apply Kd.R_drew)); exact Kd.R_mono HO_19.out (fun _ hk => ⟨⟨hk.1.1, ⟨hk.1.2.2.1, ⟨hk.1.2.2.2, hk.2⟩⟩⟩, hk.1.2.1⟩)) hg hat); have n2_ := Aside0.mk (Kd.R_after (ok := (fun k_ => some k_ ≠ (.slice (some ad588) y584.length co14 : Value).ownBlock ∧ some k_ ≠ (.slice Ao9 t576.length co9 : Value).ownBlock ∧ some k_ ≠ (.slice Ao30 t593.length co30 : Value).ownBlock)) (by (with_reducible repeat (first | apply Kd.R_alloc | apply Kd.R_drewN | apply Kd.R_drew)); exact Kd.R_mono HO_28.out (fun _ hk => ⟨⟨hk.1.2.1, ⟨hk.1.2.2, hk.2⟩⟩, hk.1.1⟩)) hg hat); have n3_ := Aside0.mk (Kd.R_after (ok := (fun k_ => some k_ ≠ (.slice (some ad592) t589.length co21 : Value).ownBlock ∧ some k_ ≠ (.slice (some ad588) y584.length co14 : Value).ownBlock ∧ some k_ ≠ (.slice (some ad592) t589.length co21 : Value).ownBlock ∧ some k_ ≠ (.slice Ao30 t593.length co30 : Value).ownBlock)) (by (with_reducible repeat (first | apply Kd.R_alloc | apply Kd.R_drewN | apply Kd.R_drew)); exact Kd.R_mono HO_581001.out (fun _ hk => ⟨⟨hk.1.1, ⟨hk.1.2.2.1, ⟨hk.1.2.2.2, hk.2⟩⟩⟩, hk.1.2.1⟩)) hg hat); have n4_ := Aside0.mk (blk_grown (g := gb580) (o := .cells #[.string t575, .slice Ao9 t576.length co9] 28 (0, 0)) (by (with_reducible repeat (first | refine blk_drewN ?_ _ | refine blk_drew ?_ | refine blk_alloc ?_ _)); exact BK580.out) hg (Kd.R_ne HO_8.out BK580.out (by decide))); have n5_ := Aside0.mk (Kd.R_after (ok := (fun k_ => some k_ ≠ (.slice (some ad592) t589.length co21 : Value).ownBlock ∧ some k_ ≠ (.slice (some ad588) y584.length co14 : Value).ownBlock ∧ some k_ ≠ (.slice (some ad592) t589.length co21 : Value).ownBlock ∧ some k_ ≠ (.slice Ao9 t576.length co9 : Value).ownBlock)) (by (with_reducible repeat (first | apply Kd.R_alloc | apply Kd.R_drewN | apply Kd.R_drew)); exact Kd.R_mono HO595.out (fun _ hk => ⟨⟨hk.1.1.1.1.2, ⟨hk.1.1.2, ⟨hk.1.2, hk.2⟩⟩⟩, hk.1.1.1.2⟩)) hg hat); have n6_ := Aside0.mk (hb); have n7_ := Aside0.mk (ho); clear HO_7; clear HO_19; clear HO_28; clear HO_581001; clear BK580; clear HO595; clear HB; clear HO_8; have HO_7 := n0_; have HO_19 := n1_; have HO_28 := n2_; have HO_581001 := n3_; have BK580 := n4_; have HO595 := n5_; have HB := n6_; have HO598 := n7_; clear n0_ n1_ n2_ n3_ n4_ n5_ n6_ n7_; clear ho hb hg hat))
                          go_roundg k2
                          case measure => have := HK1.out; have := HK2.out; omega
                          case rel => exact ⟨(y596), (wrap64 (x30_2 + 1)), (by first | rfl | (simp; done) | (simp [*]; done)), H', ⟨by have := HK1.out; have := HK2.out; omega⟩, ⟨by (with_reducible repeat (first | apply Kd.R_alloc | apply Kd.R_drewN | apply Kd.R_drew)); exact Kd.R_mono HO_7.out (fun _ hk => ⟨hk.2, ⟨hk.1.1, hk.1.2.1⟩⟩)⟩, ⟨by (with_reducible repeat (first | apply Kd.R_alloc | apply Kd.R_drewN | apply Kd.R_drew)); exact Kd.R_mono HO598.out (fun _ hk => ⟨hk.1, ⟨hk.2.1, ⟨hk.2.2.1, hk.2.2.2.1⟩⟩⟩)⟩, ⟨by (with_reducible repeat (first | apply Kd.R_alloc | apply Kd.R_drewN | apply Kd.R_drew)); exact Kd.R_mono HO_19.out (fun _ hk => ⟨hk.1.1, ⟨hk.2, ⟨hk.1.2.1, hk.1.2.2.1⟩⟩⟩)⟩, ⟨by (with_reducible repeat (first | apply Kd.R_alloc | apply Kd.R_drewN | apply Kd.R_drew)); exact Kd.R_mono HO_28.out (fun _ hk => ⟨hk.2, ⟨hk.1.1, hk.1.2.1⟩⟩)⟩, ⟨by (with_reducible repeat (first | apply Kd.R_alloc | apply Kd.R_drewN | apply Kd.R_drew)); exact Kd.R_mono HO_581001.out (fun _ hk => ⟨hk.1.1, ⟨hk.2, ⟨hk.1.2.1, hk.1.2.2.1⟩⟩⟩)⟩, ⟨by (with_reducible repeat (first | refine blk_drewN ?_ _ | refine blk_drew ?_ | refine blk_alloc ?_ _)); exact BK580.out⟩, ⟨by repeat (first | (with_reducible first | exact HB.out | apply below_alloc | apply pw_below_drewN | apply below_drew1 | refine below_set ?_ GE580.out) | exact HB.out)⟩⟩
                        · rw [if_neg c26] at H
                          exact absurd H (by simp)
                      · rw [if_neg c24] at H
                        exact absurd H (by simp)
                    · rw [if_neg c23] at H
                      exact absurd H (by simp)
                  · rw [if_neg c22] at H
                    have c22b0 : decide (x30_2 < (t589.length : Int)) = false := decide_eq_false c22
                    clear c22
                    have HC31 := Aside0.mk H
                    clear H
                    go_upto_if 42 with (fail)
                    go_cut [8] (fun v8 wc => ∃ (kq : Nat) (x8_70 : List ByteArray), Aside0 (priceofficelaw06_ClassificationDivides.j2 kq (rdOf ByteArray.empty y584 x21_1) x8_70 y584 (y584.length : Int) x21_1 t575 t576 = some r) ∧ Aside0 (kq ≤ k2) ∧ Aside0 (Kd.R Kd.string 9 wc w.heap.size (fun k_ => some k_ ≠ ((.slice (some ad588) y584.length co14) : Value).ownBlock ∧ some k_ ≠ ((.slice Ao9 t576.length co9) : Value).ownBlock) v8 x8_70) ∧ Aside0 (Kd.R Kd.string 9 wc w.heap.size (fun k_ => some k_ ≠ (v8 : Value).ownBlock ∧ some k_ ≠ ((.slice Ao9 t576.length co9) : Value).ownBlock) (.slice (some ad588) y584.length co14) y584) ∧ Aside0 (Kd.R Kd.string 9 wc w.heap.size (fun k_ => some k_ ≠ (v8 : Value).ownBlock ∧ some k_ ≠ ((.slice (some ad588) y584.length co14) : Value).ownBlock) (.slice Ao9 t576.length co9) t576) ∧ Aside0 (wc.heap[gb580]? = some (.cells #[.string t575, (.slice Ao9 t576.length co9)] 28 (0, 0))) ∧ Aside0 (Below w.heap.size w wc))
                    case first =>
                      have H := HC31.out
                      clear HC31
                      by_cases c32 : (t589.length : Int) = 0
                      · rw [if_pos c32] at H
                        have c32b0 : ((t589.length : Int) == 0) = true := beq_iff_eq.mpr c32
                        have c32b1 : ((t589.length : Int) != 0) = false := bne_eq_false_iff_eq.mpr c32
                        clear c32
                        (first | rw [c32b0] | (simp only [i64_w, i32_w]; rw [c32b0]) | skip)
                        obtain ⟨y599, hy599⟩ : ∃ y_ : List ByteArray, y_ = (([(rdOf ByteArray.empty y584 x21_1)] : List ByteArray)) := ⟨_, rfl⟩
                        replace H : (priceofficelaw06_ClassificationDivides.j2 k2 (rdOf ByteArray.empty y584 x21_1) y599 y584 (y584.length : Int) x21_1 t575 t576) = some r := by first | (rw [hy599]; with_reducible exact H) | (have H2_ := (Option.bind_some _ _).symm.trans H; rw [hy599]; with_reducible exact H2_) | (have H2_ := (Option.bind_some _ _).symm.trans H; with_reducible exact H2_) | with_reducible exact H | (rw [hy599]; exact H) | exact H
                        have Ny599 := Aside0.mk hy599
                        clear hy599
                        have H' := Aside0.mk H
                        clear H
                        go_wp2_with (first | ((with_reducible refine gate_dst (N := 44) rfl ?_); refine Kd.R_lit Kd.string _ 9 ?hg (N := 44) ?hd (xs := ([(rdOf ByteArray.empty y584 x21_1)] : List ByteArray)) (inner := [.string (rdOf ByteArray.empty y584 x21_1)]) (ok := fun _ => True) (okp := fun _ => True) ?hr ?hp (fun _ hk => hk) trivial (Below.refl _ _) (Nat.le_refl _) (by simp) ?_; (case hd => rfl); (case hg => rfl); (case hr => first | (go_simp; done) | (go_simp; rfl)); (case hp => exact (Reps.one (show Kd.M Kd.string _ _ _ (rdOf ByteArray.empty y584 x21_1) [.string (rdOf ByteArray.empty y584 x21_1)] from rfl) (Reps.none _ _))); intro v600 w33 ho34 hb hg_ hnew_; clear hg_ hnew_; (first | rw [← Ny599.out] at ho34 | (simp only [Int.reduceToNat] at ho34; rw [← Ny599.out] at ho34)); have n0_ := Aside0.mk (Kd.R_elder' (by (with_reducible repeat (first | apply Kd.R_alloc | apply Kd.R_drewN | apply Kd.R_drew)); exact HO_7.out) (Kd.R_base ho34) hb); have n1_ := Aside0.mk (Kd.R_elder' (by (with_reducible repeat (first | apply Kd.R_alloc | apply Kd.R_drewN | apply Kd.R_drew)); exact HO_8.out) (Kd.R_base ho34) hb); have n2_ := Aside0.mk (Kd.R_elder' (by (with_reducible repeat (first | apply Kd.R_alloc | apply Kd.R_drewN | apply Kd.R_drew)); exact HO_19.out) (Kd.R_base ho34) hb); have n3_ := Aside0.mk (Kd.R_elder' (by (with_reducible repeat (first | apply Kd.R_alloc | apply Kd.R_drewN | apply Kd.R_drew)); exact HO_28.out) (Kd.R_base ho34) hb); have n4_ := Aside0.mk (Kd.R_elder' (by (with_reducible repeat (first | apply Kd.R_alloc | apply Kd.R_drewN | apply Kd.R_drew)); exact HO_581001.out) (Kd.R_base ho34) hb); have n5_ := Aside0.mk (Kd.R_lower (Kd.R_new' (Kd.R_new' (Kd.R_new' (Kd.R_new' (Kd.R_new' ho34 (Kd.R_lt (by (with_reducible repeat (first | apply Kd.R_alloc | apply Kd.R_drewN | apply Kd.R_drew)); exact HO_7.out))) (Kd.R_lt (by (with_reducible repeat (first | apply Kd.R_alloc | apply Kd.R_drewN | apply Kd.R_drew)); exact HO_8.out))) (Kd.R_lt (by (with_reducible repeat (first | apply Kd.R_alloc | apply Kd.R_drewN | apply Kd.R_drew)); exact HO_19.out))) (Kd.R_lt (by (with_reducible repeat (first | apply Kd.R_alloc | apply Kd.R_drewN | apply Kd.R_drew)); exact HO_28.out))) (Kd.R_lt (by (with_reducible repeat (first | apply Kd.R_alloc | apply Kd.R_drewN | apply Kd.R_drew)); exact HO_581001.out))) (below_size (by repeat (first | (with_reducible first | exact HB.out | apply below_alloc | apply pw_below_drewN | apply below_drew1 | refine below_set ?_ GE580.out) | exact HB.out)))); have n6_ := Aside0.mk (blk_below (g := gb580) (o := .cells #[.string t575, .slice Ao9 t576.length co9] 28 (0, 0)) (by (with_reducible repeat (first | refine blk_drewN ?_ _ | refine blk_drew ?_ | refine blk_alloc ?_ _)); exact BK580.out) hb); have n7_ := Aside0.mk (below_step (by repeat (first | (with_reducible first | exact HB.out | apply below_alloc | apply pw_below_drewN | apply below_drew1 | refine below_set ?_ GE580.out) | exact HB.out)) hb); clear HO_7; clear HO_8; clear HO_19; clear HO_28; clear HO_581001; clear BK580; clear HB; have HO_7 := n0_; have HO_8 := n1_; have HO_19 := n2_; have HO_28 := n3_; have HO_581001 := n4_; have HO601 := n5_; have BK580 := n6_; have HB := n7_; clear n0_ n1_ n2_ n3_ n4_ n5_ n6_ n7_; clear hb ho34))
                        go_meet
                        case rel => exact ⟨_, (y599), H', ⟨by have := HK1.out; have := HK2.out; first | omega | exact Nat.le_refl _⟩, ⟨by (with_reducible repeat (first | apply Kd.R_alloc | apply Kd.R_drewN | apply Kd.R_drew)); exact Kd.R_mono HO601.out (fun _ hk => ⟨hk.1.1.2, hk.2⟩)⟩, ⟨by (with_reducible repeat (first | apply Kd.R_alloc | apply Kd.R_drewN | apply Kd.R_drew)); exact Kd.R_mono HO_19.out (fun _ hk => ⟨hk.2, hk.1.2.2.2⟩)⟩, ⟨by (with_reducible repeat (first | apply Kd.R_alloc | apply Kd.R_drewN | apply Kd.R_drew)); exact Kd.R_mono HO_581001.out (fun _ hk => ⟨hk.2, hk.1.2.2.1⟩)⟩, ⟨by (with_reducible repeat (first | refine blk_drewN ?_ _ | refine blk_drew ?_ | refine blk_alloc ?_ _)); exact BK580.out⟩, ⟨by repeat (first | (with_reducible first | exact HB.out | apply below_alloc | apply pw_below_drewN | apply below_drew1 | refine below_set ?_ GE580.out) | exact HB.out)⟩⟩
                      · rw [if_neg c32] at H
                        have c32b0 : ((t589.length : Int) == 0) = false := beq_eq_false_iff_ne.mpr c32
                        have c32b1 : ((t589.length : Int) != 0) = true := bne_iff_ne.mpr c32
                        have c32b2 : ¬ (t589 = []) := fun h_ => c32 (by rw [h_]; rfl)
                        (first | rw [c32b0] | (simp only [i64_w, i32_w]; rw [c32b0]) | skip)
                        have H' := Aside0.mk H
                        clear H
                        go_wp2
                        go_meet
                        case rel => exact ⟨_, (x8_2), H', ⟨by have := HK1.out; have := HK2.out; first | omega | exact Nat.le_refl _⟩, ⟨by (with_reducible repeat (first | apply Kd.R_alloc | apply Kd.R_drewN | apply Kd.R_drew)); exact Kd.R_mono HO_8.out (fun _ hk => ⟨hk.2.1, hk.2.2.2⟩)⟩, ⟨by (with_reducible repeat (first | apply Kd.R_alloc | apply Kd.R_drewN | apply Kd.R_drew)); exact Kd.R_mono HO_19.out (fun _ hk => ⟨hk.2.1, hk.2.2.2⟩)⟩, ⟨by (with_reducible repeat (first | apply Kd.R_alloc | apply Kd.R_drewN | apply Kd.R_drew)); exact Kd.R_mono HO_581001.out (fun _ hk => ⟨hk.2.1, hk.2.2.1⟩)⟩, ⟨by (with_reducible repeat (first | refine blk_drewN ?_ _ | refine blk_drew ?_ | refine blk_alloc ?_ _)); exact BK580.out⟩, ⟨by repeat (first | (with_reducible first | exact HB.out | apply below_alloc | apply pw_below_drewN | apply below_drew1 | refine below_set ?_ GE580.out) | exact HB.out)⟩⟩
                    case rest =>
                      clear HC31
                      try clear c1
                      try clear c2
                      try clear p2
                      try clear c3
                      try clear p5
                      try clear q5
                      try clear hx5
                      try clear p6
                      try clear c7
                      try clear c13
                      try clear c14
                      try clear c15
                      try clear c15b0
                      try clear c16
                      try clear c16b0
                      try clear c17
                      try clear c17b0
                      try clear c22
                      try clear c22b0
                      try clear c23
                      try clear c23b0
                      try clear c24
                      try clear c24b0
                      try clear c26
                      try clear c32
                      try clear c32b0
                      try clear c32b1
                      try clear c32b2
                      try clear hcz12_0
                      try clear hcz12_1
                      try clear hcz19_0
                      try clear hcz19_1
                      try clear hcz27_0
                      try clear hcz27_1
                      try clear hcz8_0
                      try clear hcz8_1
                      try clear hfz12_0
                      try clear hfz12_1
                      try clear hfz19_0
                      try clear hfz19_1
                      try clear hfz27_0
                      try clear hfz27_1
                      try clear hfz8_0
                      try clear hfz8_1
                      try clear hx588_0
                      try clear hx592_0
                      try clear p2
                      try clear p5
                      try clear p588
                      try clear p592
                      try clear q5
                      try clear q588
                      try clear q592
                      obtain ⟨kq, x8_70, HA, HJ70, HO_8, HO_19, HO_581001, BK580, HB⟩ := hcut
                      cases kq with
                      | zero => exact absurd HA.out (by simp [priceofficelaw06_ClassificationDivides.j2])
                      | succ kj70 =>
                        have H := HA.out
                        clear HA
                        simp only [priceofficelaw06_ClassificationDivides.j2] at H
                        replace H := Option.bind_eq_some_iff.mp H
                        obtain ⟨t602, A350, H⟩ := H
                        replace H : ((priceofficeref06_SameStrings.f kj70 t602 x8_70).bind fun t605 => (if t605 = true then (priceofficelaw06_ClassificationDivides.l0 kj70 y584 (y584.length : Int) (wrap64 (x21_1 + 1)) t575 t576) else (some false))) = some r := H
                        have A35 := Aside0.mk A350
                        clear A350
                        replace H := Option.bind_eq_some_iff.mp H
                        obtain ⟨t605, A360, H⟩ := H
                        replace H : (if t605 = true then (priceofficelaw06_ClassificationDivides.l0 kj70 y584 (y584.length : Int) (wrap64 (x21_1 + 1)) t575 t576) else (some false)) = some r := H
                        have A36 := Aside0.mk A360
                        clear A360
                        by_cases c37 : t605 = true
                        · subst c37
                          have H1 : (priceofficelaw06_ClassificationDivides.l0 kj70 y584 (y584.length : Int) (wrap64 (x21_1 + 1)) t575 t576) = some r := by rw [if_pos rfl] at H; exact H
                          clear H
                          have H := H1
                          clear H1
                          have H' := Aside0.mk H
                          clear H
                          have hcz38_0 : wc.cell? ⟨gb580, 0, none⟩ = some (.string t575) := (blk_cell BK580.out 0).trans rfl
                          have hcz38_1 : wc.cell? ⟨gb580, 1, none⟩ = some (.slice Ao9 t576.length co9) := (blk_cell BK580.out 1).trans rfl
                          have hfz38_0 := blk_frozen BK580.out 0
                          have hfz38_1 := blk_frozen BK580.out 1
                          go_wp2_with (first | ((with_reducible refine gate_callee (f := 15) rfl ?_); refine goesL_ (some 47) rfl rfl Tryd.func15 (by kernel_rfl) rfl #[.agg #[.string t575, .slice Ao9 t576.length co9], .string (rdOf ByteArray.empty y584 x21_1)] rfl (by (try simp only [List.map_toArray, List.map_cons, List.map_nil]); first | done | rfl | (simp only [List.length_drop, List.length_take]; rfl)) ?_; (with_reducible refine (classification_Leaves.calls kj70 t575 _ _ t576 (rdOf ByteArray.empty y584 x21_1) t602 _ ?side1 ?side2 ?side3 A35.out).mono ?_); (case side1 => repeat (first | exact (Kd.R_reads' HO_581001.out).2.2 | (with_reducible refine Kd.C_alloc ?_ _) | (with_reducible refine Kd.C_drewN ?_ _) | (with_reducible refine Kd.C_drew ?_))); (case side2 => exact (Kd.R_reads' HO_581001.out).2.1); (case side3 => first | exact HG.out | exact GL.below HG.out (by repeat (first | (with_reducible first | exact HB.out | apply below_alloc | apply pw_below_drewN | apply below_drew1 | refine below_set ?_ GE580.out) | exact HB.out))); rintro e w39 ⟨v603, rfl, ho0, hb⟩; refine ⟨_, rfl, ?_⟩; have n0_ := Aside0.mk (Kd.R_elder' (by (with_reducible repeat (first | apply Kd.R_alloc | apply Kd.R_drewN | apply Kd.R_drew)); exact HO_8.out) (Kd.R_base ho0) hb); have n1_ := Aside0.mk (Kd.R_elder' (by (with_reducible repeat (first | apply Kd.R_alloc | apply Kd.R_drewN | apply Kd.R_drew)); exact HO_19.out) (Kd.R_base ho0) hb); have n2_ := Aside0.mk (Kd.R_elder' (by (with_reducible repeat (first | apply Kd.R_alloc | apply Kd.R_drewN | apply Kd.R_drew)); exact HO_581001.out) (Kd.R_base ho0) hb); have n3_ := Aside0.mk (Kd.R_lower (Kd.R_new' (Kd.R_new' (Kd.R_new' ho0 (Kd.R_lt (by (with_reducible repeat (first | apply Kd.R_alloc | apply Kd.R_drewN | apply Kd.R_drew)); exact HO_8.out))) (Kd.R_lt (by (with_reducible repeat (first | apply Kd.R_alloc | apply Kd.R_drewN | apply Kd.R_drew)); exact HO_19.out))) (Kd.R_lt (by (with_reducible repeat (first | apply Kd.R_alloc | apply Kd.R_drewN | apply Kd.R_drew)); exact HO_581001.out))) (below_size (by repeat (first | (with_reducible first | exact HB.out | apply below_alloc | apply pw_below_drewN | apply below_drew1 | refine below_set ?_ GE580.out) | exact HB.out)))); have n4_ := Aside0.mk (blk_below (g := gb580) (o := .cells #[.string t575, .slice Ao9 t576.length co9] 28 (0, 0)) (by (with_reducible repeat (first | refine blk_drewN ?_ _ | refine blk_drew ?_ | refine blk_alloc ?_ _)); exact BK580.out) hb); have n5_ := Aside0.mk (below_step (by repeat (first | (with_reducible first | exact HB.out | apply below_alloc | apply pw_below_drewN | apply below_drew1 | refine below_set ?_ GE580.out) | exact HB.out)) hb); clear HO_8; clear HO_19; clear HO_581001; clear BK580; clear HB; have HO_8 := n0_; have HO_19 := n1_; have HO_581001 := n2_; have HO604 := n3_; have BK580 := n4_; have HB := n5_; clear n0_ n1_ n2_ n3_ n4_ n5_; (try clear hb); (try clear hb2); (try clear hk); (try clear hi); (try clear ho0); obtain ⟨Ao40, co40, eo40⟩ := Kd.R_slice HO604.out; subst eo40; obtain ⟨Ao41, co41, eo41⟩ := Kd.R_slice HO_8.out; subst eo41) | ((with_reducible refine gate_callee (f := 16) rfl ?_); refine goesL_ (some 49) rfl rfl Tryd.func16 (by kernel_rfl) rfl #[.slice Ao40 t602.length co40, .slice Ao41 x8_70.length co41] rfl (by (try simp only [List.map_toArray, List.map_cons, List.map_nil]); first | done | rfl | (simp only [List.length_drop, List.length_take]; rfl)) ?_; (with_reducible refine (priceofficeref06_SameStrings.calls kj70 _ _ t602 _ _ x8_70 true _ ?side1 ?side2 ?side3 ?side4 A36.out).mono ?_); (case side1 => repeat (first | exact (Kd.R_reads' HO604.out).2.2 | (with_reducible refine Kd.C_alloc ?_ _) | (with_reducible refine Kd.C_drewN ?_ _) | (with_reducible refine Kd.C_drew ?_))); (case side2 => exact (Kd.R_reads' HO604.out).2.1); (case side3 => repeat (first | exact (Kd.R_reads' HO_8.out).2.2 | (with_reducible refine Kd.C_alloc ?_ _) | (with_reducible refine Kd.C_drewN ?_ _) | (with_reducible refine Kd.C_drew ?_))); (case side4 => exact (Kd.R_reads' HO_8.out).2.1); rintro e w' ⟨rfl, ⟨nd, rfl⟩⟩; refine ⟨_, rfl, ?_⟩))
                          go_roundg kj70
                          case measure => have := HK1.out; have := HK2.out; have := HJ70.out; omega
                          case rel => exact ⟨(wrap64 (x21_1 + 1)), (by first | rfl | (simp; done) | (simp [*]; done)), H', ⟨by have := HK1.out; have := HK2.out; have := HJ70.out; omega⟩, ⟨by (with_reducible repeat (first | apply Kd.R_alloc | apply Kd.R_drewN | apply Kd.R_drew)); exact Kd.R_mono HO_19.out (fun _ hk => hk.1.2)⟩, ⟨by (with_reducible repeat (first | apply Kd.R_alloc | apply Kd.R_drewN | apply Kd.R_drew)); exact Kd.R_mono HO_581001.out (fun _ hk => hk.1.2)⟩, ⟨by (with_reducible repeat (first | refine blk_drewN ?_ _ | refine blk_drew ?_ | refine blk_alloc ?_ _)); exact BK580.out⟩, ⟨by repeat (first | (with_reducible first | exact HB.out | apply below_alloc | apply pw_below_drewN | apply below_drew1 | refine below_set ?_ GE580.out) | exact HB.out)⟩⟩
                        · replace c37 := Bool.eq_false_iff.mpr c37
                          subst c37
                          have H1 : (some false) = some r := by rw [if_neg (show ¬ (false = true) by decide)] at H; exact H
                          clear H
                          have H := H1
                          clear H1
                          obtain rfl := Option.some.inj H
                          have hcz42_0 : wc.cell? ⟨gb580, 0, none⟩ = some (.string t575) := (blk_cell BK580.out 0).trans rfl
                          have hcz42_1 : wc.cell? ⟨gb580, 1, none⟩ = some (.slice Ao9 t576.length co9) := (blk_cell BK580.out 1).trans rfl
                          have hfz42_0 := blk_frozen BK580.out 0
                          have hfz42_1 := blk_frozen BK580.out 1
                          go_wp2_with (first | ((with_reducible refine gate_callee (f := 15) rfl ?_); refine goesL_ (some 47) rfl rfl Tryd.func15 (by kernel_rfl) rfl #[.agg #[.string t575, .slice Ao9 t576.length co9], .string (rdOf ByteArray.empty y584 x21_1)] rfl (by (try simp only [List.map_toArray, List.map_cons, List.map_nil]); first | done | rfl | (simp only [List.length_drop, List.length_take]; rfl)) ?_; (with_reducible refine (classification_Leaves.calls kj70 t575 _ _ t576 (rdOf ByteArray.empty y584 x21_1) t602 _ ?side1 ?side2 ?side3 A35.out).mono ?_); (case side1 => repeat (first | exact (Kd.R_reads' HO_581001.out).2.2 | (with_reducible refine Kd.C_alloc ?_ _) | (with_reducible refine Kd.C_drewN ?_ _) | (with_reducible refine Kd.C_drew ?_))); (case side2 => exact (Kd.R_reads' HO_581001.out).2.1); (case side3 => first | exact HG.out | exact GL.below HG.out (by repeat (first | (with_reducible first | exact HB.out | apply below_alloc | apply pw_below_drewN | apply below_drew1 | refine below_set ?_ GE580.out) | exact HB.out))); rintro e w43 ⟨v603, rfl, ho0, hb⟩; refine ⟨_, rfl, ?_⟩; have n0_ := Aside0.mk (Kd.R_elder' (by (with_reducible repeat (first | apply Kd.R_alloc | apply Kd.R_drewN | apply Kd.R_drew)); exact HO_8.out) (Kd.R_base ho0) hb); have n1_ := Aside0.mk (Kd.R_elder' (by (with_reducible repeat (first | apply Kd.R_alloc | apply Kd.R_drewN | apply Kd.R_drew)); exact HO_19.out) (Kd.R_base ho0) hb); have n2_ := Aside0.mk (Kd.R_elder' (by (with_reducible repeat (first | apply Kd.R_alloc | apply Kd.R_drewN | apply Kd.R_drew)); exact HO_581001.out) (Kd.R_base ho0) hb); have n3_ := Aside0.mk (Kd.R_lower (Kd.R_new' (Kd.R_new' (Kd.R_new' ho0 (Kd.R_lt (by (with_reducible repeat (first | apply Kd.R_alloc | apply Kd.R_drewN | apply Kd.R_drew)); exact HO_8.out))) (Kd.R_lt (by (with_reducible repeat (first | apply Kd.R_alloc | apply Kd.R_drewN | apply Kd.R_drew)); exact HO_19.out))) (Kd.R_lt (by (with_reducible repeat (first | apply Kd.R_alloc | apply Kd.R_drewN | apply Kd.R_drew)); exact HO_581001.out))) (below_size (by repeat (first | (with_reducible first | exact HB.out | apply below_alloc | apply pw_below_drewN | apply below_drew1 | refine below_set ?_ GE580.out) | exact HB.out)))); have n4_ := Aside0.mk (blk_below (g := gb580) (o := .cells #[.string t575, .slice Ao9 t576.length co9] 28 (0, 0)) (by (with_reducible repeat (first | refine blk_drewN ?_ _ | refine blk_drew ?_ | refine blk_alloc ?_ _)); exact BK580.out) hb); have n5_ := Aside0.mk (below_step (by repeat (first | (with_reducible first | exact HB.out | apply below_alloc | apply pw_below_drewN | apply below_drew1 | refine below_set ?_ GE580.out) | exact HB.out)) hb); clear HO_8; clear HO_19; clear HO_581001; clear BK580; clear HB; have HO_8 := n0_; have HO_19 := n1_; have HO_581001 := n2_; have HO604 := n3_; have BK580 := n4_; have HB := n5_; clear n0_ n1_ n2_ n3_ n4_ n5_; (try clear hb); (try clear hb2); (try clear hk); (try clear hi); (try clear ho0); obtain ⟨Ao44, co44, eo44⟩ := Kd.R_slice HO604.out; subst eo44; obtain ⟨Ao45, co45, eo45⟩ := Kd.R_slice HO_8.out; subst eo45) | ((with_reducible refine gate_callee (f := 16) rfl ?_); refine goesL_ (some 49) rfl rfl Tryd.func16 (by kernel_rfl) rfl #[.slice Ao44 t602.length co44, .slice Ao45 x8_70.length co45] rfl (by (try simp only [List.map_toArray, List.map_cons, List.map_nil]); first | done | rfl | (simp only [List.length_drop, List.length_take]; rfl)) ?_; (with_reducible refine (priceofficeref06_SameStrings.calls kj70 _ _ t602 _ _ x8_70 false _ ?side1 ?side2 ?side3 ?side4 A36.out).mono ?_); (case side1 => repeat (first | exact (Kd.R_reads' HO604.out).2.2 | (with_reducible refine Kd.C_alloc ?_ _) | (with_reducible refine Kd.C_drewN ?_ _) | (with_reducible refine Kd.C_drew ?_))); (case side2 => exact (Kd.R_reads' HO604.out).2.1); (case side3 => repeat (first | exact (Kd.R_reads' HO_8.out).2.2 | (with_reducible refine Kd.C_alloc ?_ _) | (with_reducible refine Kd.C_drewN ?_ _) | (with_reducible refine Kd.C_drew ?_))); (case side4 => exact (Kd.R_reads' HO_8.out).2.1); rintro e w' ⟨rfl, ⟨nd, rfl⟩⟩; refine ⟨_, rfl, ?_⟩))
                          go_ret
                          exact ⟨by first | rfl | (simp [errW_none, errW_some] <;> rfl) | (simp [*, errW_none, errW_some] <;> rfl), by repeat (first | (with_reducible first | exact HB.out | apply below_alloc | apply pw_below_drewN | apply below_drew1 | refine below_set ?_ GE580.out) | exact HB.out)⟩
            · rw [if_neg c17] at H
              exact absurd H (by simp)
          · rw [if_neg c16] at H
            exact absurd H (by simp)
        · rw [if_neg c15] at H
          have c15b0 : decide (x21_1 < (y584.length : Int)) = false := decide_eq_false c15
          clear c15
          replace H := Option.bind_eq_some_iff.mp H
          obtain ⟨t587, A460, H⟩ := H
          replace H : (some t587) = some r := H
          have A46 := Aside0.mk A460
          clear A460
          obtain rfl := Option.some.inj H
          go_wp2_with (first | ((with_reducible refine gate_callee (f := 17) rfl ?_); refine goesL_ (some 52) rfl rfl Tryd.func17 (by kernel_rfl) rfl #[] rfl (by (try simp only [List.map_toArray, List.map_cons, List.map_nil]); first | done | rfl | (simp only [List.length_drop, List.length_take]; rfl)) ?_; (with_reducible refine (priceofficelaw06_awake.calls k1  t587 _ ?side1 A46.out).mono ?_); (case side1 => first | exact HG.out | exact GL.below HG.out (by repeat (first | (with_reducible first | exact HB.out | apply below_alloc | apply pw_below_drewN | apply below_drew1 | refine below_set ?_ GE580.out) | exact HB.out))); rintro e w47 ⟨rfl, hb⟩; refine ⟨_, rfl, ?_⟩; have n0_ := Aside0.mk (Kd.R_below (by (with_reducible repeat (first | apply Kd.R_alloc | apply Kd.R_drewN | apply Kd.R_drew)); exact HO_19.out) hb); have n1_ := Aside0.mk (Kd.R_below (by (with_reducible repeat (first | apply Kd.R_alloc | apply Kd.R_drewN | apply Kd.R_drew)); exact HO_581001.out) hb); have n2_ := Aside0.mk (blk_below (g := gb580) (o := .cells #[.string t575, .slice Ao9 t576.length co9] 28 (0, 0)) (by (with_reducible repeat (first | refine blk_drewN ?_ _ | refine blk_drew ?_ | refine blk_alloc ?_ _)); exact BK580.out) hb); have n3_ := Aside0.mk (below_step (by repeat (first | (with_reducible first | exact HB.out | apply below_alloc | apply pw_below_drewN | apply below_drew1 | refine below_set ?_ GE580.out) | exact HB.out)) hb); clear HO_19; clear HO_581001; clear BK580; clear HB; have HO_19 := n0_; have HO_581001 := n1_; have BK580 := n2_; have HB := n3_; clear n0_ n1_ n2_ n3_; (try clear hb); (try clear hb2); (try clear hk); (try clear hi)))
          go_ret
          exact ⟨by first | rfl | (simp [errW_none, errW_some] <;> rfl) | (simp [*, errW_none, errW_some] <;> rfl), by repeat (first | (with_reducible first | exact HB.out | apply below_alloc | apply pw_below_drewN | apply below_drew1 | refine below_set ?_ GE580.out) | exact HB.out)⟩
  · rw [if_neg c3] at H
    exact absurd H (by simp)

end Go.Proofs.YtpnoliognpmkmaaDoor.P
