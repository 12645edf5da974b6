/- Lean functions with the same answers as the program's Go functions, and for each the proof that the call comes to these answers; written by a program of mine out of the translation, the functions marked 'by hand' by me. -/
import Derived.Test.YtpnoliognpmkmaaDoorP0
import Derived.Test.YtpnoliognpmkmaaDoorP3
import Derived.Test.YtpnoliognpmkmaaDoorP4
import Derived.Test.YtpnoliognpmkmaaDoorP17
import Derived.Test.YtpnoliognpmkmaaDoorP20
namespace Go.Proofs.YtpnoliognpmkmaaDoor.P
open Go.RowKit Go.Proofs.YtpnoliognpmkmaaDoorW.PrintWords Go.Proofs.YtpnoliognpmkmaaDoorW.PrintLast Go.Proofs.YtpnoliognpmkmaaDoorW.PrintMore
attribute [local go_sem] max2_int min2_int max_two min_two max_three min_three max_four min_four   -- for this text's walks alone
set_option linter.unusedVariables false
set_option linter.unusedSimpArgs false

/-! ### priceofficelaw06_ClassificationMany: function 10 -/
def priceofficelaw06_ClassificationMany.l0 : Nat → Int → Int → Int → ByteArray → List ByteArray → Option (Bool)
  | 0, _, _, _, _, _ => none
  | k + 1, x3, x15, x16, x489000, x489001 => if x16 < x15 then (if (Int.tmod x16 100) = 0 then ((priceofficeref06_Format.f k (([wrap64 (1 + (wrap64 (Int.tdiv x16 100)))] : List Int))).bind fun bt495 => (if x489001.length < 8796093022208 then (priceofficelaw06_ClassificationMany.l0 k x3 x15 (wrap64 (x16 + 1)) x489000 (x489001 ++ [bt495.1])) else (none))) else ((priceofficeref06_Format.f k (([wrap64 (1 + (wrap64 (Int.tdiv x16 100))), Int.tmod x16 100] : List Int))).bind fun bt503 => (if x489001.length < 8796093022208 then (priceofficelaw06_ClassificationMany.l0 k x3 x15 (wrap64 (x16 + 1)) x489000 (x489001 ++ [bt503.1])) else (none)))) else ((classification_Validate.f k x489000 x489001).bind fun t489 => (if ((t489 == 0) == (decide (x3 ≤ 200))) = true then (if t489 = 0 then ((priceofficelaw06_awake.f k).bind fun t490 => (some t490)) else (if t489 = 61 then ((priceofficelaw06_awake.f k).bind fun t491 => (some t491)) else (some false))) else (some false)))
def priceofficelaw06_ClassificationMany.f (k : Nat) (a0 : Int) : Option (Bool) := (priceofficemake_Fold.f a0 3).bind fun t487 => (priceofficelaw06_ClassificationMany.l0 k (wrap64 (199 + t487)) (wrap64 (199 + t487)) 0 (⟨#[]⟩ : ByteArray) ([] : List ByteArray))
theorem priceofficelaw06_ClassificationMany.mono_l : ∀ k, (∀ y0 y1 y2 y3 y4, LeO (priceofficelaw06_ClassificationMany.l0 k y0 y1 y2 y3 y4) (priceofficelaw06_ClassificationMany.l0 (k + 1) y0 y1 y2 y3 y4))
  | 0 => fun _ _ _ _ _ r h => by simp [priceofficelaw06_ClassificationMany.l0] at h
  | k + 1 => by
    have ih0 := priceofficelaw06_ClassificationMany.mono_l k
    · intro y0 y1 y2 y3 y4
      unfold priceofficelaw06_ClassificationMany.l0
      repeat' first
      | (with_reducible exact ih0 _ _ _ _ _)
      | (with_reducible exact classification_Validate.mono _ _ _)
      | (with_reducible exact priceofficelaw06_awake.mono _)
      | (with_reducible exact priceofficeref06_Format.mono _ _)
      | (with_reducible exact LeO.refl _)
      | (with_reducible exact LeO.none _)
      | (with_reducible refine LeO.ite ?_ ?_)
      | (with_reducible refine LeO.bind ?_ (fun _ => ?_))
      | exact ih0 _ _ _ _ _
      | exact classification_Validate.mono _ _ _
      | exact priceofficelaw06_awake.mono _
      | exact priceofficeref06_Format.mono _ _
      | exact LeO.none _
      | refine LeO.ite ?_ ?_
      | refine LeO.bind ?_ (fun _ => ?_)
theorem priceofficelaw06_ClassificationMany.mono : ∀ a0 k, LeO (priceofficelaw06_ClassificationMany.f k a0) (priceofficelaw06_ClassificationMany.f (k + 1) a0) := by
  intro a0 k
  have ih0 := priceofficelaw06_ClassificationMany.mono_l k
  unfold priceofficelaw06_ClassificationMany.f
  repeat' first
      | (with_reducible exact ih0 _ _ _ _ _)
      | (with_reducible exact classification_Validate.mono _ _ _)
      | (with_reducible exact priceofficelaw06_awake.mono _)
      | (with_reducible exact priceofficeref06_Format.mono _ _)
      | (with_reducible exact LeO.refl _)
      | (with_reducible exact LeO.none _)
      | (with_reducible refine LeO.ite ?_ ?_)
      | (with_reducible refine LeO.bind ?_ (fun _ => ?_))
      | exact ih0 _ _ _ _ _
      | exact classification_Validate.mono _ _ _
      | exact priceofficelaw06_awake.mono _
      | exact priceofficeref06_Format.mono _ _
      | exact LeO.none _
      | refine LeO.ite ?_ ?_
      | refine LeO.bind ?_ (fun _ => ?_)
set_option maxHeartbeats 8000000 in
set_option maxRecDepth 100000 in
theorem priceofficelaw06_ClassificationMany.calls (k : Nat) (a0 : Int) (r : Bool) (w : World) (hG : GL w) (h : priceofficelaw06_ClassificationMany.f k a0 = some r) :
    Calls Tryd.prog 10 #[.int .i64 a0] w fun e w' => e = .returned (.bool r) ∧ Below w.heap.size w w' := by
  have HG := Aside0.mk hG
  clear hG
  have hu28 := Tryd.underlying28
  have HB := Aside0.mk (Below.refl w.heap.size w)
  have H : ((priceofficemake_Fold.f a0 3).bind fun t487 => (priceofficelaw06_ClassificationMany.l0 k (wrap64 (199 + t487)) (wrap64 (199 + t487)) 0 (⟨#[]⟩ : ByteArray) ([] : List ByteArray))) = some r := h
  clear h
  replace H := Option.bind_eq_some_iff.mp H
  obtain ⟨t487, A20, H⟩ := H
  replace H : (priceofficelaw06_ClassificationMany.l0 k (wrap64 (199 + t487)) (wrap64 (199 + t487)) 0 (⟨#[]⟩ : ByteArray) ([] : List ByteArray)) = some r := H
  have A2 := Aside0.mk A20
  clear A20
  have H' := Aside0.mk H
  clear H
  go_enter Tryd.func10, Tryd.ntmps10
  go_wp2_with (first | ((with_reducible refine gate_callee (f := 40) rfl ?_); refine goesL_ (some 12) rfl rfl Tryd.func40 (by kernel_rfl) rfl #[.int .i64 a0, .int .i64 3] rfl (by (try simp only [List.map_toArray, List.map_cons, List.map_nil]); first | done | rfl | (simp only [List.length_drop, List.length_take]; rfl)) ?_; (with_reducible refine (priceofficemake_Fold.calls a0 3 t487 _ A2.out).mono ?_); rintro e w3 ⟨rfl, hb⟩; refine ⟨_, rfl, ?_⟩; have n0_ := Aside0.mk (below_step (by repeat (first | (with_reducible first | exact HB.out | apply below_alloc | apply pw_below_drewN | apply below_drew1) | exact HB.out)) hb); clear HB; have HB := n0_; clear n0_; (try clear hb); (try clear hb2); (try clear hk); (try clear hi)) | ((with_reducible refine gate_dst (N := 4) rfl ?_); refine box_event ?hg (N := 4) ?hd (cs := #[.string (⟨#[]⟩ : ByteArray), .slice none 0 0]) (t := 28) ?hr ?_; (case hd => rfl); (case hg => rfl); (case hr => first | (go_simp; done) | (go_simp; rfl)); intro gb488 hg w4 hbox hb; have n0_ := Aside0.mk (below_step (by repeat (first | (with_reducible first | exact HB.out | apply below_alloc | apply pw_below_drewN | apply below_drew1) | exact HB.out)) hb); have n1_ := Aside0.mk (hbox); have n2_ := Aside0.mk ((by rw [hg]; exact (below_size (by repeat (first | (with_reducible first | exact HB.out | apply below_alloc | apply pw_below_drewN | apply below_drew1) | exact HB.out))) : w.heap.size ≤ gb488)); have n3_ := Aside0.mk ((by rw [hg]; exact (below_size (by repeat (first | (with_reducible first | exact HB.out | apply below_alloc | apply pw_below_drewN | apply below_drew1) | exact HB.out))) : w.heap.size ≤ gb488)); clear HB; have HB := n0_; have BK488 := n1_; have GW488 := n2_; have GE488 := n3_; clear n0_ n1_ n2_ n3_; clear hb hbox hg; have hcz5_0 : w4.cell? ⟨gb488, 0, none⟩ = some (.string (⟨#[]⟩ : ByteArray)) := (blk_cell BK488.out 0).trans rfl; have hcz5_1 : w4.cell? ⟨gb488, 1, none⟩ = some (.slice none 0 0) := (blk_cell BK488.out 1).trans rfl; have hfz5_0 := blk_frozen BK488.out 0; have hfz5_1 := blk_frozen BK488.out 1))
  go_loopg [16] k (fun kq v16 w' => ∃ (x16_1 : Int) (x489001_1 : List ByteArray) (u489001 : Value), v16 = .int .i64 x16_1 ∧ Aside0 (priceofficelaw06_ClassificationMany.l0 kq (wrap64 (199 + t487)) (wrap64 (199 + t487)) x16_1 (⟨#[]⟩ : ByteArray) x489001_1 = some r) ∧ Aside0 (kq ≤ k) ∧ Aside0 (Kd.R Kd.string 9 w' w.heap.size (fun _ => True) u489001 x489001_1) ∧ Aside0 (w'.heap[gb488]? = some (.cells #[.string (⟨#[]⟩ : ByteArray), u489001] 28 (0, 0))) ∧ Aside0 (Below w.heap.size w w'))
  case atStart => exact ⟨(0), (([] : List ByteArray)), (.slice none 0 0), (by first | rfl | (simp; done) | (simp [*]; done)), H', ⟨Nat.le_refl _⟩, ⟨by first | exact Kd.R_nil _ _ _ _ _ | exact Kd.N_nil _ _ _ _ _ | exact Kd.V_nil _ _ _ _ _ | exact Kd.Q_nil _ _ _ _ _ | exact Kd.S_nil _ _ _ _ _⟩, ⟨by (with_reducible repeat (first | refine blk_drewN ?_ _ | refine blk_drew ?_ | refine blk_alloc ?_ _)); refine blk_put (cs := #[.string (⟨#[]⟩ : ByteArray), .slice none 0 0]) ?_ 1 _ rfl; (with_reducible repeat (first | refine blk_drewN ?_ _ | refine blk_drew ?_ | refine blk_alloc ?_ _)); refine blk_put (cs := #[.string (⟨#[]⟩ : ByteArray), .slice none 0 0]) ?_ 0 _ rfl; (with_reducible repeat (first | refine blk_drewN ?_ _ | refine blk_drew ?_ | refine blk_alloc ?_ _)); exact BK488.out⟩, ⟨by repeat (first | (with_reducible first | exact HB.out | apply below_alloc | apply pw_below_drewN | apply below_drew1 | refine below_set ?_ GE488.out) | exact HB.out)⟩⟩
  case round =>
    clear H'
    try clear c1
    try clear p2
    try clear c4
    try clear hcz5_0
    try clear hcz5_1
    try clear hfz5_0
    try clear hfz5_1
    obtain ⟨x16_1, x489001_1, u489001, rfl, HA, HK1, HO_489001, BK488, HB⟩ := hrel
    cases gk with
    | zero => exact absurd HA.out (by simp [priceofficelaw06_ClassificationMany.l0])
    | succ k1 =>
      have H := HA.out
      clear HA
      simp only [priceofficelaw06_ClassificationMany.l0] at H
      by_cases c6 : x16_1 < (wrap64 (199 + t487))
      · rw [if_pos c6] at H
        have c6b0 : decide (x16_1 < (wrap64 (199 + t487))) = true := decide_eq_true c6
        clear c6
        by_cases c7 : (Int.tmod x16_1 100) = 0
        · rw [if_pos c7] at H
          have c7b0 : ((Int.tmod x16_1 100) == 0) = true := beq_iff_eq.mpr c7
          have c7b1 : ((Int.tmod x16_1 100) != 0) = false := bne_eq_false_iff_eq.mpr c7
          clear c7
          obtain ⟨y492, hy492⟩ : ∃ y_ : List Int, y_ = (([wrap64 (1 + (wrap64 (Int.tdiv x16_1 100)))] : List Int)) := ⟨_, rfl⟩
          replace H : ((priceofficeref06_Format.f k1 y492).bind fun bt495 => (if x489001_1.length < 8796093022208 then (priceofficelaw06_ClassificationMany.l0 k1 (wrap64 (199 + t487)) (wrap64 (199 + t487)) (wrap64 (x16_1 + 1)) (⟨#[]⟩ : ByteArray) (x489001_1 ++ [bt495.1])) else (none))) = some r := by first | (rw [hy492]; with_reducible exact H) | (have H2_ := (Option.bind_some _ _).symm.trans H; rw [hy492]; with_reducible exact H2_) | (have H2_ := (Option.bind_some _ _).symm.trans H; with_reducible exact H2_) | with_reducible exact H | (rw [hy492]; exact H) | exact H
          have Ny492 := Aside0.mk hy492
          clear hy492
          replace H := Option.bind_eq_some_iff.mp H
          obtain ⟨⟨t495, t496⟩, A80, H⟩ := H
          replace H : (if x489001_1.length < 8796093022208 then (priceofficelaw06_ClassificationMany.l0 k1 (wrap64 (199 + t487)) (wrap64 (199 + t487)) (wrap64 (x16_1 + 1)) (⟨#[]⟩ : ByteArray) (x489001_1 ++ [t495])) else (none)) = some r := H
          have A8 := Aside0.mk A80
          clear A80
          by_cases c9 : x489001_1.length < 8796093022208
          · rw [if_pos c9] at H
            have LMc9 := Aside0.mk c9
            clear c9
            obtain ⟨y497, hy497⟩ : ∃ y_ : List ByteArray, y_ = (x489001_1 ++ [t495]) := ⟨_, rfl⟩
            replace H : (priceofficelaw06_ClassificationMany.l0 k1 (wrap64 (199 + t487)) (wrap64 (199 + t487)) (wrap64 (x16_1 + 1)) (⟨#[]⟩ : ByteArray) y497) = some r := by first | (rw [hy497]; with_reducible exact H) | (have H2_ := (Option.bind_some _ _).symm.trans H; rw [hy497]; with_reducible exact H2_) | (have H2_ := (Option.bind_some _ _).symm.trans H; with_reducible exact H2_) | with_reducible exact H | (rw [hy497]; exact H) | exact H
            have Ny497 := Aside0.mk hy497
            clear hy497
            have H' := Aside0.mk H
            clear H
            go_wp2_with (first | ((with_reducible refine gate_dst (N := 26) rfl ?_); refine Kd.R_lit (Kd.int .i64) _ 3 ?hg (N := 26) ?hd (xs := ([wrap64 (1 + (wrap64 (Int.tdiv x16_1 100)))] : List Int)) (inner := [.int .i64 (wrap64 (1 + (wrap64 (Int.tdiv x16_1 100))))]) (ok := fun _ => True) (okp := fun _ => True) ?hr ?hp (fun _ hk => hk) trivial (Below.refl _ _) (Nat.le_refl _) (by simp) ?_; (case hd => rfl); (case hg => rfl); (case hr => first | (go_simp; done) | (go_simp; rfl)); (case hp => exact (Reps.one (show Kd.M (Kd.int .i64) _ _ _ (wrap64 (1 + (wrap64 (Int.tdiv x16_1 100)))) [.int .i64 (wrap64 (1 + (wrap64 (Int.tdiv x16_1 100))))] from rfl) (Reps.none _ _))); intro v493 w10 ho11 hb hg_ hnew_; clear hg_ hnew_; (first | rw [← Ny492.out] at ho11 | (simp only [Int.reduceToNat] at ho11; rw [← Ny492.out] at ho11)); have n0_ := Aside0.mk (Kd.R_below (by (with_reducible repeat (first | apply Kd.R_alloc | apply Kd.R_drewN | apply Kd.R_drew)); exact HO_489001.out) hb); have n1_ := Aside0.mk (Kd.R_lower ho11 (below_size (by repeat (first | (with_reducible first | exact HB.out | apply below_alloc | apply pw_below_drewN | apply below_drew1 | refine below_set ?_ GE488.out) | exact HB.out)))); have n2_ := Aside0.mk (blk_below (g := gb488) (o := .cells #[.string (⟨#[]⟩ : ByteArray), u489001] 28 (0, 0)) (by (with_reducible repeat (first | refine blk_drewN ?_ _ | refine blk_drew ?_ | refine blk_alloc ?_ _)); exact BK488.out) hb); have n3_ := Aside0.mk (below_step (by repeat (first | (with_reducible first | exact HB.out | apply below_alloc | apply pw_below_drewN | apply below_drew1 | refine below_set ?_ GE488.out) | exact HB.out)) hb); clear HO_489001; clear BK488; clear HB; have HO_489001 := n0_; have HO494 := n1_; have BK488 := n2_; have HB := n3_; clear n0_ n1_ n2_ n3_; clear hb ho11; obtain ⟨Ao12, co12, eo12⟩ := Kd.R_slice HO494.out; subst eo12) | ((with_reducible refine gate_callee (f := 29) rfl ?_); refine goesL_ (some 27) rfl rfl Tryd.func29 (by kernel_rfl) rfl #[.slice Ao12 y492.length co12] rfl (by (try simp only [List.map_toArray, List.map_cons, List.map_nil]); first | done | rfl | (simp only [List.length_drop, List.length_take]; rfl)) ?_; (with_reducible refine (priceofficeref06_Format.calls k1 _ _ y492 t495 t496 _ ?side1 ?side2 A8.out).mono ?_); (case side1 => repeat (first | exact (Kd.R_reads' HO494.out).2.2 | (with_reducible refine Kd.C_alloc ?_ _) | (with_reducible refine Kd.C_drewN ?_ _) | (with_reducible refine Kd.C_drew ?_))); (case side2 => exact (Kd.R_reads' HO494.out).2.1); rintro e w13 ⟨rfl, hb⟩; refine ⟨_, rfl, ?_⟩; have n0_ := Aside0.mk (Kd.R_below (by (with_reducible repeat (first | apply Kd.R_alloc | apply Kd.R_drewN | apply Kd.R_drew)); exact HO_489001.out) hb); have n1_ := Aside0.mk (Kd.R_below (by (with_reducible repeat (first | apply Kd.R_alloc | apply Kd.R_drewN | apply Kd.R_drew)); exact HO494.out) hb); have n2_ := Aside0.mk (blk_below (g := gb488) (o := .cells #[.string (⟨#[]⟩ : ByteArray), u489001] 28 (0, 0)) (by (with_reducible repeat (first | refine blk_drewN ?_ _ | refine blk_drew ?_ | refine blk_alloc ?_ _)); exact BK488.out) hb); have n3_ := Aside0.mk (below_step (by repeat (first | (with_reducible first | exact HB.out | apply below_alloc | apply pw_below_drewN | apply below_drew1 | refine below_set ?_ GE488.out) | exact HB.out)) hb); clear HO_489001; clear HO494; clear BK488; clear HB; have HO_489001 := n0_; have HO494 := n1_; have BK488 := n2_; have HB := n3_; clear n0_ n1_ n2_ n3_; (try clear hb); (try clear hb2); (try clear hk); (try clear hi); have hcz14_0 : w13.cell? ⟨gb488, 0, none⟩ = some (.string (⟨#[]⟩ : ByteArray)) := (blk_cell BK488.out 0).trans rfl; have hcz14_1 : w13.cell? ⟨gb488, 1, none⟩ = some (u489001) := (blk_cell BK488.out 1).trans rfl; have hfz14_0 := blk_frozen BK488.out 0; have hfz14_1 := blk_frozen BK488.out 1) | ((with_reducible refine gate_builtin (b := .append) (xs := #[.tmp 31, .tmp 33]) rfl ?_); at_builtin; refine Kd.R_append Kd.string (w0 := w) w.heap.size rfl (.tmp 31) (.tmp 33) 26 9 (.string ⟨#[]⟩) 16 rfl Tryd.underlying26 info9 rfl (by decide) (by omega) u489001 x489001_1 t495 [.string t495] (fun _ => True) (fun _ => False) rfl rfl ?aP (fun _ hk => hk.elim) ?aF ?aO ?aB ?aS ?aL ?_; (case aP => exact rfl); (case aB => exact (by repeat (first | (with_reducible first | exact HB.out | apply below_alloc | apply pw_below_drewN | apply below_drew1 | refine below_set ?_ GE488.out) | exact HB.out))); (case aF => exact (fun _ _ => trivial)); (case aO => exact (by (with_reducible repeat (first | apply Kd.R_alloc | apply Kd.R_drewN | apply Kd.R_drew)); exact HO_489001.out)); (case aS => exact (below_size (by repeat (first | (with_reducible first | exact HB.out | apply below_alloc | apply pw_below_drewN | apply below_drew1 | refine below_set ?_ GE488.out) | exact HB.out)))); (case aL => have := LMc9.out; omega); intro v498 w15 ho hb hg hat; rw [← Ny497.out] at ho; have n0_ := Aside0.mk (blk_grown (g := gb488) (o := .cells #[.string (⟨#[]⟩ : ByteArray), u489001] 28 (0, 0)) (by (with_reducible repeat (first | refine blk_drewN ?_ _ | refine blk_drew ?_ | refine blk_alloc ?_ _)); exact BK488.out) hg (Kd.R_ne HO_489001.out BK488.out (by decide))); have n1_ := Aside0.mk (Kd.R_over' (by (with_reducible repeat (first | apply Kd.R_alloc | apply Kd.R_drewN | apply Kd.R_drew)); exact HO494.out) (Kd.R_typed (by (with_reducible repeat (first | apply Kd.R_alloc | apply Kd.R_drewN | apply Kd.R_drew)); exact HO_489001.out)) (by decide) hg); have n2_ := Aside0.mk (hb); have n3_ := Aside0.mk (ho); clear BK488; clear HO494; clear HB; clear HO_489001; have BK488 := n0_; have HO494 := n1_; have HB := n2_; have HO499 := n3_; clear n0_ n1_ n2_ n3_; clear ho hb hg hat; obtain ⟨Ao16, co16, eo16⟩ := Kd.R_slice HO499.out; subst eo16; have hcz17_0 : w15.cell? ⟨gb488, 0, none⟩ = some (.string (⟨#[]⟩ : ByteArray)) := (blk_cell BK488.out 0).trans rfl; have hcz17_1 : w15.cell? ⟨gb488, 1, none⟩ = some (u489001) := (blk_cell BK488.out 1).trans rfl; have hfz17_0 := blk_frozen BK488.out 0; have hfz17_1 := blk_frozen BK488.out 1))
            go_roundg k1
            case measure => have := HK1.out; omega
            case rel => exact ⟨(wrap64 (x16_1 + 1)), (y497), (.slice Ao16 y497.length co16), (by first | rfl | (simp; done) | (simp [*]; done)), H', ⟨by have := HK1.out; omega⟩, ⟨by (with_reducible repeat (first | apply Kd.R_alloc | apply Kd.R_drewN | apply Kd.R_drew)); exact Kd.R_mono (Kd.R_far (p := ⟨gb488, 1, none⟩) (Kd.R_types HO499.out BK488.out (by decide)) (fun _ hk => hk.2) (.slice Ao16 y497.length co16)) (fun _ hk => trivial)⟩, ⟨by (with_reducible repeat (first | refine blk_drewN ?_ _ | refine blk_drew ?_ | refine blk_alloc ?_ _)); refine blk_put (cs := #[.string (⟨#[]⟩ : ByteArray), u489001]) ?_ 1 _ rfl; (with_reducible repeat (first | refine blk_drewN ?_ _ | refine blk_drew ?_ | refine blk_alloc ?_ _)); exact BK488.out⟩, ⟨by repeat (first | (with_reducible first | exact HB.out | apply below_alloc | apply pw_below_drewN | apply below_drew1 | refine below_set ?_ GE488.out) | exact HB.out)⟩⟩
          · rw [if_neg c9] at H
            exact absurd H (by simp)
        · rw [if_neg c7] at H
          have c7b0 : ((Int.tmod x16_1 100) == 0) = false := beq_eq_false_iff_ne.mpr c7
          have c7b1 : ((Int.tmod x16_1 100) != 0) = true := bne_iff_ne.mpr c7
          obtain ⟨y500, hy500⟩ : ∃ y_ : List Int, y_ = (([wrap64 (1 + (wrap64 (Int.tdiv x16_1 100))), Int.tmod x16_1 100] : List Int)) := ⟨_, rfl⟩
          replace H : ((priceofficeref06_Format.f k1 y500).bind fun bt503 => (if x489001_1.length < 8796093022208 then (priceofficelaw06_ClassificationMany.l0 k1 (wrap64 (199 + t487)) (wrap64 (199 + t487)) (wrap64 (x16_1 + 1)) (⟨#[]⟩ : ByteArray) (x489001_1 ++ [bt503.1])) else (none))) = some r := by first | (rw [hy500]; with_reducible exact H) | (have H2_ := (Option.bind_some _ _).symm.trans H; rw [hy500]; with_reducible exact H2_) | (have H2_ := (Option.bind_some _ _).symm.trans H; with_reducible exact H2_) | with_reducible exact H | (rw [hy500]; exact H) | exact H
          have Ny500 := Aside0.mk hy500
          clear hy500
          replace H := Option.bind_eq_some_iff.mp H
          obtain ⟨⟨t503, t504⟩, A180, H⟩ := H
          replace H : (if x489001_1.length < 8796093022208 then (priceofficelaw06_ClassificationMany.l0 k1 (wrap64 (199 + t487)) (wrap64 (199 + t487)) (wrap64 (x16_1 + 1)) (⟨#[]⟩ : ByteArray) (x489001_1 ++ [t503])) else (none)) = some r := H
          have A18 := Aside0.mk A180
          clear A180
          by_cases c19 : x489001_1.length < 8796093022208
          · rw [if_pos c19] at H
            have LMc19 := Aside0.mk c19
            clear c19
            obtain ⟨y505, hy505⟩ : ∃ y_ : List ByteArray, y_ = (x489001_1 ++ [t503]) := ⟨_, rfl⟩
            replace H : (priceofficelaw06_ClassificationMany.l0 k1 (wrap64 (199 + t487)) (wrap64 (199 + t487)) (wrap64 (x16_1 + 1)) (⟨#[]⟩ : ByteArray) y505) = some r := by first | (rw [hy505]; with_reducible exact H) | (have H2_ := (Option.bind_some _ _).symm.trans H; rw [hy505]; with_reducible exact H2_) | (have H2_ := (Option.bind_some _ _).symm.trans H; with_reducible exact H2_) | with_reducible exact H | (rw [hy505]; exact H) | exact H
            have Ny505 := Aside0.mk hy505
            clear hy505
            have H' := Aside0.mk H
            clear H
            go_wp2_with (first | ((with_reducible refine gate_dst (N := 42) rfl ?_); refine Kd.R_lit (Kd.int .i64) _ 3 ?hg (N := 42) ?hd (xs := ([wrap64 (1 + (wrap64 (Int.tdiv x16_1 100))), Int.tmod x16_1 100] : List Int)) (inner := [.int .i64 (wrap64 (1 + (wrap64 (Int.tdiv x16_1 100)))), .int .i64 (Int.tmod x16_1 100)]) (ok := fun _ => True) (okp := fun _ => True) ?hr ?hp (fun _ hk => hk) trivial (Below.refl _ _) (Nat.le_refl _) (by simp) ?_; (case hd => rfl); (case hg => rfl); (case hr => first | (go_simp; done) | (go_simp; rfl)); (case hp => exact (Reps.one (show Kd.M (Kd.int .i64) _ _ _ (wrap64 (1 + (wrap64 (Int.tdiv x16_1 100)))) [.int .i64 (wrap64 (1 + (wrap64 (Int.tdiv x16_1 100))))] from rfl) (Reps.one (show Kd.M (Kd.int .i64) _ _ _ (Int.tmod x16_1 100) [.int .i64 (Int.tmod x16_1 100)] from rfl) (Reps.none _ _)))); intro v501 w20 ho21 hb hg_ hnew_; clear hg_ hnew_; (first | rw [← Ny500.out] at ho21 | (simp only [Int.reduceToNat] at ho21; rw [← Ny500.out] at ho21)); have n0_ := Aside0.mk (Kd.R_below (by (with_reducible repeat (first | apply Kd.R_alloc | apply Kd.R_drewN | apply Kd.R_drew)); exact HO_489001.out) hb); have n1_ := Aside0.mk (Kd.R_lower ho21 (below_size (by repeat (first | (with_reducible first | exact HB.out | apply below_alloc | apply pw_below_drewN | apply below_drew1 | refine below_set ?_ GE488.out) | exact HB.out)))); have n2_ := Aside0.mk (blk_below (g := gb488) (o := .cells #[.string (⟨#[]⟩ : ByteArray), u489001] 28 (0, 0)) (by (with_reducible repeat (first | refine blk_drewN ?_ _ | refine blk_drew ?_ | refine blk_alloc ?_ _)); exact BK488.out) hb); have n3_ := Aside0.mk (below_step (by repeat (first | (with_reducible first | exact HB.out | apply below_alloc | apply pw_below_drewN | apply below_drew1 | refine below_set ?_ GE488.out) | exact HB.out)) hb); clear HO_489001; clear BK488; clear HB; have HO_489001 := n0_; have HO502 := n1_; have BK488 := n2_; have HB := n3_; clear n0_ n1_ n2_ n3_; clear hb ho21; obtain ⟨Ao22, co22, eo22⟩ := Kd.R_slice HO502.out; subst eo22) | ((with_reducible refine gate_callee (f := 29) rfl ?_); refine goesL_ (some 43) rfl rfl Tryd.func29 (by kernel_rfl) rfl #[.slice Ao22 y500.length co22] rfl (by (try simp only [List.map_toArray, List.map_cons, List.map_nil]); first | done | rfl | (simp only [List.length_drop, List.length_take]; rfl)) ?_; (with_reducible refine (priceofficeref06_Format.calls k1 _ _ y500 t503 t504 _ ?side1 ?side2 A18.out).mono ?_); (case side1 => repeat (first | exact (Kd.R_reads' HO502.out).2.2 | (with_reducible refine Kd.C_alloc ?_ _) | (with_reducible refine Kd.C_drewN ?_ _) | (with_reducible refine Kd.C_drew ?_))); (case side2 => exact (Kd.R_reads' HO502.out).2.1); rintro e w23 ⟨rfl, hb⟩; refine ⟨_, rfl, ?_⟩; have n0_ := Aside0.mk (Kd.R_below (by (with_reducible repeat (first | apply Kd.R_alloc | apply Kd.R_drewN | apply Kd.R_drew)); exact HO_489001.out) hb); have n1_ := Aside0.mk (Kd.R_below (by (with_reducible repeat (first | apply Kd.R_alloc | apply Kd.R_drewN | apply Kd.R_drew)); exact HO502.out) hb); have n2_ := Aside0.mk (blk_below (g := gb488) (o := .cells #[.string (⟨#[]⟩ : ByteArray), u489001] 28 (0, 0)) (by (with_reducible repeat (first | refine blk_drewN ?_ _ | refine blk_drew ?_ | refine blk_alloc ?_ _)); exact BK488.out) hb); have n3_ := Aside0.mk (below_step (by repeat (first | (with_reducible first | exact HB.out | apply below_alloc | apply pw_below_drewN | apply below_drew1 | refine below_set ?_ GE488.out) | exact HB.out)) hb); clear HO_489001; clear HO502; clear BK488; clear HB; have HO_489001 := n0_; have HO502 := n1_; have BK488 := n2_; have HB := n3_; clear n0_ n1_ n2_ n3_; (try clear hb); (try clear hb2); (try clear hk); (try clear hi); have hcz24_0 : w23.cell? ⟨gb488, 0, none⟩ = some (.string (⟨#[]⟩ : ByteArray)) := (blk_cell BK488.out 0).trans rfl; have hcz24_1 : w23.cell? ⟨gb488, 1, none⟩ = some (u489001) := (blk_cell BK488.out 1).trans rfl; have hfz24_0 := blk_frozen BK488.out 0; have hfz24_1 := blk_frozen BK488.out 1) | ((with_reducible refine gate_builtin (b := .append) (xs := #[.tmp 47, .tmp 49]) rfl ?_); at_builtin; refine Kd.R_append Kd.string (w0 := w) w.heap.size rfl (.tmp 47) (.tmp 49) 26 9 (.string ⟨#[]⟩) 16 rfl Tryd.underlying26 info9 rfl (by decide) (by omega) u489001 x489001_1 t503 [.string t503] (fun _ => True) (fun _ => False) rfl rfl ?aP (fun _ hk => hk.elim) ?aF ?aO ?aB ?aS ?aL ?_; (case aP => exact rfl); (case aB => exact (by repeat (first | (with_reducible first | exact HB.out | apply below_alloc | apply pw_below_drewN | apply below_drew1 | refine below_set ?_ GE488.out) | exact HB.out))); (case aF => exact (fun _ _ => trivial)); (case aO => exact (by (with_reducible repeat (first | apply Kd.R_alloc | apply Kd.R_drewN | apply Kd.R_drew)); exact HO_489001.out)); (case aS => exact (below_size (by repeat (first | (with_reducible first | exact HB.out | apply below_alloc | apply pw_below_drewN | apply below_drew1 | refine below_set ?_ GE488.out) | exact HB.out)))); (case aL => have := LMc19.out; omega); intro v506 w25 ho hb hg hat; rw [← Ny505.out] at ho; have n0_ := Aside0.mk (blk_grown (g := gb488) (o := .cells #[.string (⟨#[]⟩ : ByteArray), u489001] 28 (0, 0)) (by (with_reducible repeat (first | refine blk_drewN ?_ _ | refine blk_drew ?_ | refine blk_alloc ?_ _)); exact BK488.out) hg (Kd.R_ne HO_489001.out BK488.out (by decide))); have n1_ := Aside0.mk (Kd.R_over' (by (with_reducible repeat (first | apply Kd.R_alloc | apply Kd.R_drewN | apply Kd.R_drew)); exact HO502.out) (Kd.R_typed (by (with_reducible repeat (first | apply Kd.R_alloc | apply Kd.R_drewN | apply Kd.R_drew)); exact HO_489001.out)) (by decide) hg); have n2_ := Aside0.mk (hb); have n3_ := Aside0.mk (ho); clear BK488; clear HO502; clear HB; clear HO_489001; have BK488 := n0_; have HO502 := n1_; have HB := n2_; have HO507 := n3_; clear n0_ n1_ n2_ n3_; clear ho hb hg hat; obtain ⟨Ao26, co26, eo26⟩ := Kd.R_slice HO507.out; subst eo26; have hcz27_0 : w25.cell? ⟨gb488, 0, none⟩ = some (.string (⟨#[]⟩ : ByteArray)) := (blk_cell BK488.out 0).trans rfl; have hcz27_1 : w25.cell? ⟨gb488, 1, none⟩ = some (u489001) := (blk_cell BK488.out 1).trans rfl; have hfz27_0 := blk_frozen BK488.out 0; have hfz27_1 := blk_frozen BK488.out 1))
            go_roundg k1
            case measure => have := HK1.out; omega
            case rel => exact ⟨(wrap64 (x16_1 + 1)), (y505), (.slice Ao26 y505.length co26), (by first | rfl | (simp; done) | (simp [*]; done)), H', ⟨by have := HK1.out; omega⟩, ⟨by (with_reducible repeat (first | apply Kd.R_alloc | apply Kd.R_drewN | apply Kd.R_drew)); exact Kd.R_mono (Kd.R_far (p := ⟨gb488, 1, none⟩) (Kd.R_types HO507.out BK488.out (by decide)) (fun _ hk => hk.2) (.slice Ao26 y505.length co26)) (fun _ hk => trivial)⟩, ⟨by (with_reducible repeat (first | refine blk_drewN ?_ _ | refine blk_drew ?_ | refine blk_alloc ?_ _)); refine blk_put (cs := #[.string (⟨#[]⟩ : ByteArray), u489001]) ?_ 1 _ rfl; (with_reducible repeat (first | refine blk_drewN ?_ _ | refine blk_drew ?_ | refine blk_alloc ?_ _)); exact BK488.out⟩, ⟨by repeat (first | (with_reducible first | exact HB.out | apply below_alloc | apply pw_below_drewN | apply below_drew1 | refine below_set ?_ GE488.out) | exact HB.out)⟩⟩
          · rw [if_neg c19] at H
            exact absurd H (by simp)
      · rw [if_neg c6] at H
        have c6b0 : decide (x16_1 < (wrap64 (199 + t487))) = false := decide_eq_false c6
        clear c6
        replace H := Option.bind_eq_some_iff.mp H
        obtain ⟨t489, A280, H⟩ := H
        replace H : (if ((t489 == 0) == (decide ((wrap64 (199 + t487)) ≤ 200))) = true then (if t489 = 0 then ((priceofficelaw06_awake.f k1).bind fun t490 => (some t490)) else (if t489 = 61 then ((priceofficelaw06_awake.f k1).bind fun t491 => (some t491)) else (some false))) else (some false)) = some r := H
        have A28 := Aside0.mk A280
        clear A280
        by_cases c29 : ((t489 == 0) == (decide ((wrap64 (199 + t487)) ≤ 200))) = true
        · rw [if_pos c29] at H
          have c29b0 : ((t489 == 0) == (decide ((wrap64 (199 + t487)) ≤ 200))) = true := c29
          (try (have c29b1 : decide ((t489 == 0) = (decide ((wrap64 (199 + t487)) ≤ 200))) = true := by simpa using c29))
          (try (have c29b2 : ((t489 == 0) == (decide ((wrap64 (199 + t487)) ≤ 200))) = true := by simpa using c29))
          clear c29
          by_cases c30 : t489 = 0
          · rw [if_pos c30] at H
            have c30b0 : (t489 == 0) = true := beq_iff_eq.mpr c30
            have c30b1 : (t489 != 0) = false := bne_eq_false_iff_eq.mpr c30
            have hsz29 : (decide ((wrap64 (199 + t487)) ≤ 200)) = true := by have z := c29b0; rw [c30b0] at z; simpa using z
            clear c30
            replace H := Option.bind_eq_some_iff.mp H
            obtain ⟨t490, A310, H⟩ := H
            replace H : (some t490) = some r := H
            have A31 := Aside0.mk A310
            clear A310
            obtain rfl := Option.some.inj H
            have hcz32_0 : wr.cell? ⟨gb488, 0, none⟩ = some (.string (⟨#[]⟩ : ByteArray)) := (blk_cell BK488.out 0).trans rfl
            have hcz32_1 : wr.cell? ⟨gb488, 1, none⟩ = some (u489001) := (blk_cell BK488.out 1).trans rfl
            have hfz32_0 := blk_frozen BK488.out 0
            have hfz32_1 := blk_frozen BK488.out 1
            obtain ⟨Ao33, co33, eo33⟩ := Kd.R_slice HO_489001.out
            subst eo33
            go_wp2_with (first | ((with_reducible refine gate_callee (f := 38) rfl ?_); refine goesL_ (some 54) rfl rfl Tryd.func38 (by kernel_rfl) rfl #[.agg #[.string (⟨#[]⟩ : ByteArray), .slice Ao33 x489001_1.length co33]] rfl (by (try simp only [List.map_toArray, List.map_cons, List.map_nil]); first | done | rfl | (simp only [List.length_drop, List.length_take]; rfl)) ?_; (with_reducible refine (classification_Validate.calls k1 (⟨#[]⟩ : ByteArray) _ _ x489001_1 t489 _ ?side1 ?side2 ?side3 A28.out).mono ?_); (case side1 => repeat (first | exact (Kd.R_reads' HO_489001.out).2.2 | (with_reducible refine Kd.C_alloc ?_ _) | (with_reducible refine Kd.C_drewN ?_ _) | (with_reducible refine Kd.C_drew ?_))); (case side2 => exact (Kd.R_reads' HO_489001.out).2.1); (case side3 => first | exact HG.out | exact GL.below HG.out (by repeat (first | (with_reducible first | exact HB.out | apply below_alloc | apply pw_below_drewN | apply below_drew1 | refine below_set ?_ GE488.out) | exact HB.out))); rintro e w34 ⟨rfl, hb⟩; refine ⟨_, rfl, ?_⟩; have n0_ := Aside0.mk (Kd.R_below (by (with_reducible repeat (first | apply Kd.R_alloc | apply Kd.R_drewN | apply Kd.R_drew)); exact HO_489001.out) hb); have n1_ := Aside0.mk (blk_below (g := gb488) (o := .cells #[.string (⟨#[]⟩ : ByteArray), .slice Ao33 x489001_1.length co33] 28 (0, 0)) (by (with_reducible repeat (first | refine blk_drewN ?_ _ | refine blk_drew ?_ | refine blk_alloc ?_ _)); exact BK488.out) hb); have n2_ := Aside0.mk (below_step (by repeat (first | (with_reducible first | exact HB.out | apply below_alloc | apply pw_below_drewN | apply below_drew1 | refine below_set ?_ GE488.out) | exact HB.out)) hb); clear HO_489001; clear BK488; clear HB; have HO_489001 := n0_; have BK488 := n1_; have HB := n2_; clear n0_ n1_ n2_; (try clear hb); (try clear hb2); (try clear hk); (try clear hi)) | (go_at_call 17; (with_reducible refine (priceofficelaw06_awake.calls k1  t490 _ ?side1 A31.out).mono ?_); (case side1 => first | exact HG.out | exact GL.below HG.out (by repeat (first | (with_reducible first | exact HB.out | apply below_alloc | apply pw_below_drewN | apply below_drew1 | refine below_set ?_ GE488.out) | exact HB.out))); rintro e w35 ⟨rfl, hb⟩; have n0_ := Aside0.mk (Kd.R_below (by (with_reducible repeat (first | apply Kd.R_alloc | apply Kd.R_drewN | apply Kd.R_drew)); exact HO_489001.out) hb); have n1_ := Aside0.mk (blk_below (g := gb488) (o := .cells #[.string (⟨#[]⟩ : ByteArray), .slice Ao33 x489001_1.length co33] 28 (0, 0)) (by (with_reducible repeat (first | refine blk_drewN ?_ _ | refine blk_drew ?_ | refine blk_alloc ?_ _)); exact BK488.out) hb); have n2_ := Aside0.mk (below_step (by repeat (first | (with_reducible first | exact HB.out | apply below_alloc | apply pw_below_drewN | apply below_drew1 | refine below_set ?_ GE488.out) | exact HB.out)) hb); clear HO_489001; clear BK488; clear HB; have HO_489001 := n0_; have BK488 := n1_; have HB := n2_; clear n0_ n1_ n2_; (try clear hb); (try clear hb2); (try clear hk); (try clear hi)))
            go_ret
            exact ⟨by first | rfl | (simp [errW_none, errW_some] <;> rfl) | (simp [*, errW_none, errW_some] <;> rfl), by repeat (first | (with_reducible first | exact HB.out | apply below_alloc | apply pw_below_drewN | apply below_drew1 | refine below_set ?_ GE488.out) | exact HB.out)⟩
          · rw [if_neg c30] at H
            have c30b0 : (t489 == 0) = false := beq_eq_false_iff_ne.mpr c30
            have c30b1 : (t489 != 0) = true := bne_iff_ne.mpr c30
            have hsz29 : (decide ((wrap64 (199 + t487)) ≤ 200)) = false := by have z := c29b0; rw [c30b0] at z; simpa using z
            by_cases c36 : t489 = 61
            · rw [if_pos c36] at H
              have c36b0 : (t489 == 61) = true := beq_iff_eq.mpr c36
              have c36b1 : (t489 != 61) = false := bne_eq_false_iff_eq.mpr c36
              clear c36
              replace H := Option.bind_eq_some_iff.mp H
              obtain ⟨t491, A370, H⟩ := H
              replace H : (some t491) = some r := H
              have A37 := Aside0.mk A370
              clear A370
              obtain rfl := Option.some.inj H
              have hcz38_0 : wr.cell? ⟨gb488, 0, none⟩ = some (.string (⟨#[]⟩ : ByteArray)) := (blk_cell BK488.out 0).trans rfl
              have hcz38_1 : wr.cell? ⟨gb488, 1, none⟩ = some (u489001) := (blk_cell BK488.out 1).trans rfl
              have hfz38_0 := blk_frozen BK488.out 0
              have hfz38_1 := blk_frozen BK488.out 1
              obtain ⟨Ao39, co39, eo39⟩ := Kd.R_slice HO_489001.out
              subst eo39
              go_wp2_with (first | ((with_reducible refine gate_callee (f := 38) rfl ?_); refine goesL_ (some 54) rfl rfl Tryd.func38 (by kernel_rfl) rfl #[.agg #[.string (⟨#[]⟩ : ByteArray), .slice Ao39 x489001_1.length co39]] rfl (by (try simp only [List.map_toArray, List.map_cons, List.map_nil]); first | done | rfl | (simp only [List.length_drop, List.length_take]; rfl)) ?_; (with_reducible refine (classification_Validate.calls k1 (⟨#[]⟩ : ByteArray) _ _ x489001_1 t489 _ ?side1 ?side2 ?side3 A28.out).mono ?_); (case side1 => repeat (first | exact (Kd.R_reads' HO_489001.out).2.2 | (with_reducible refine Kd.C_alloc ?_ _) | (with_reducible refine Kd.C_drewN ?_ _) | (with_reducible refine Kd.C_drew ?_))); (case side2 => exact (Kd.R_reads' HO_489001.out).2.1); (case side3 => first | exact HG.out | exact GL.below HG.out (by repeat (first | (with_reducible first | exact HB.out | apply below_alloc | apply pw_below_drewN | apply below_drew1 | refine below_set ?_ GE488.out) | exact HB.out))); rintro e w40 ⟨rfl, hb⟩; refine ⟨_, rfl, ?_⟩; have n0_ := Aside0.mk (Kd.R_below (by (with_reducible repeat (first | apply Kd.R_alloc | apply Kd.R_drewN | apply Kd.R_drew)); exact HO_489001.out) hb); have n1_ := Aside0.mk (blk_below (g := gb488) (o := .cells #[.string (⟨#[]⟩ : ByteArray), .slice Ao39 x489001_1.length co39] 28 (0, 0)) (by (with_reducible repeat (first | refine blk_drewN ?_ _ | refine blk_drew ?_ | refine blk_alloc ?_ _)); exact BK488.out) hb); have n2_ := Aside0.mk (below_step (by repeat (first | (with_reducible first | exact HB.out | apply below_alloc | apply pw_below_drewN | apply below_drew1 | refine below_set ?_ GE488.out) | exact HB.out)) hb); clear HO_489001; clear BK488; clear HB; have HO_489001 := n0_; have BK488 := n1_; have HB := n2_; clear n0_ n1_ n2_; (try clear hb); (try clear hb2); (try clear hk); (try clear hi)) | (go_at_call 17; (with_reducible refine (priceofficelaw06_awake.calls k1  t491 _ ?side1 A37.out).mono ?_); (case side1 => first | exact HG.out | exact GL.below HG.out (by repeat (first | (with_reducible first | exact HB.out | apply below_alloc | apply pw_below_drewN | apply below_drew1 | refine below_set ?_ GE488.out) | exact HB.out))); rintro e w41 ⟨rfl, hb⟩; have n0_ := Aside0.mk (Kd.R_below (by (with_reducible repeat (first | apply Kd.R_alloc | apply Kd.R_drewN | apply Kd.R_drew)); exact HO_489001.out) hb); have n1_ := Aside0.mk (blk_below (g := gb488) (o := .cells #[.string (⟨#[]⟩ : ByteArray), .slice Ao39 x489001_1.length co39] 28 (0, 0)) (by (with_reducible repeat (first | refine blk_drewN ?_ _ | refine blk_drew ?_ | refine blk_alloc ?_ _)); exact BK488.out) hb); have n2_ := Aside0.mk (below_step (by repeat (first | (with_reducible first | exact HB.out | apply below_alloc | apply pw_below_drewN | apply below_drew1 | refine below_set ?_ GE488.out) | exact HB.out)) hb); clear HO_489001; clear BK488; clear HB; have HO_489001 := n0_; have BK488 := n1_; have HB := n2_; clear n0_ n1_ n2_; (try clear hb); (try clear hb2); (try clear hk); (try clear hi)))
              go_ret
              exact ⟨by first | rfl | (simp [errW_none, errW_some] <;> rfl) | (simp [*, errW_none, errW_some] <;> rfl), by repeat (first | (with_reducible first | exact HB.out | apply below_alloc | apply pw_below_drewN | apply below_drew1 | refine below_set ?_ GE488.out) | exact HB.out)⟩
            · rw [if_neg c36] at H
              have c36b0 : (t489 == 61) = false := beq_eq_false_iff_ne.mpr c36
              have c36b1 : (t489 != 61) = true := bne_iff_ne.mpr c36
              obtain rfl := Option.some.inj H
              have hcz42_0 : wr.cell? ⟨gb488, 0, none⟩ = some (.string (⟨#[]⟩ : ByteArray)) := (blk_cell BK488.out 0).trans rfl
              have hcz42_1 : wr.cell? ⟨gb488, 1, none⟩ = some (u489001) := (blk_cell BK488.out 1).trans rfl
              have hfz42_0 := blk_frozen BK488.out 0
              have hfz42_1 := blk_frozen BK488.out 1
              obtain ⟨Ao43, co43, eo43⟩ := Kd.R_slice HO_489001.out
              subst eo43
              go_wp2_with (first | ((with_reducible refine gate_callee (f := 38) rfl ?_); refine goesL_ (some 54) rfl rfl Tryd.func38 (by kernel_rfl) rfl #[.agg #[.string (⟨#[]⟩ : ByteArray), .slice Ao43 x489001_1.length co43]] rfl (by (try simp only [List.map_toArray, List.map_cons, List.map_nil]); first | done | rfl | (simp only [List.length_drop, List.length_take]; rfl)) ?_; (with_reducible refine (classification_Validate.calls k1 (⟨#[]⟩ : ByteArray) _ _ x489001_1 t489 _ ?side1 ?side2 ?side3 A28.out).mono ?_); (case side1 => repeat (first | exact (Kd.R_reads' HO_489001.out).2.2 | (with_reducible refine Kd.C_alloc ?_ _) | (with_reducible refine Kd.C_drewN ?_ _) | (with_reducible refine Kd.C_drew ?_))); (case side2 => exact (Kd.R_reads' HO_489001.out).2.1); (case side3 => first | exact HG.out | exact GL.below HG.out (by repeat (first | (with_reducible first | exact HB.out | apply below_alloc | apply pw_below_drewN | apply below_drew1 | refine below_set ?_ GE488.out) | exact HB.out))); rintro e w44 ⟨rfl, hb⟩; refine ⟨_, rfl, ?_⟩; have n0_ := Aside0.mk (Kd.R_below (by (with_reducible repeat (first | apply Kd.R_alloc | apply Kd.R_drewN | apply Kd.R_drew)); exact HO_489001.out) hb); have n1_ := Aside0.mk (blk_below (g := gb488) (o := .cells #[.string (⟨#[]⟩ : ByteArray), .slice Ao43 x489001_1.length co43] 28 (0, 0)) (by (with_reducible repeat (first | refine blk_drewN ?_ _ | refine blk_drew ?_ | refine blk_alloc ?_ _)); exact BK488.out) hb); have n2_ := Aside0.mk (below_step (by repeat (first | (with_reducible first | exact HB.out | apply below_alloc | apply pw_below_drewN | apply below_drew1 | refine below_set ?_ GE488.out) | exact HB.out)) hb); clear HO_489001; clear BK488; clear HB; have HO_489001 := n0_; have BK488 := n1_; have HB := n2_; clear n0_ n1_ n2_; (try clear hb); (try clear hb2); (try clear hk); (try clear hi)))
              go_ret
              exact ⟨by first | rfl | (simp [errW_none, errW_some] <;> rfl) | (simp [*, errW_none, errW_some] <;> rfl), by repeat (first | (with_reducible first | exact HB.out | apply below_alloc | apply pw_below_drewN | apply below_drew1 | refine below_set ?_ GE488.out) | exact HB.out)⟩
        · rw [if_neg c29] at H
          have c29b0 : ((t489 == 0) == (decide ((wrap64 (199 + t487)) ≤ 200))) = false := by simpa using c29
          (try (have c29b1 : decide ((t489 == 0) = (decide ((wrap64 (199 + t487)) ≤ 200))) = false := by simpa using c29))
          (try (have c29b2 : ((t489 == 0) == (decide ((wrap64 (199 + t487)) ≤ 200))) = false := by simpa using c29))
          (try (have c29b3 : ¬ ((t489 == 0) = (decide ((wrap64 (199 + t487)) ≤ 200))) := by simpa using c29))
          clear c29
          obtain rfl := Option.some.inj H
          have hcz45_0 : wr.cell? ⟨gb488, 0, none⟩ = some (.string (⟨#[]⟩ : ByteArray)) := (blk_cell BK488.out 0).trans rfl
          have hcz45_1 : wr.cell? ⟨gb488, 1, none⟩ = some (u489001) := (blk_cell BK488.out 1).trans rfl
          have hfz45_0 := blk_frozen BK488.out 0
          have hfz45_1 := blk_frozen BK488.out 1
          obtain ⟨Ao46, co46, eo46⟩ := Kd.R_slice HO_489001.out
          subst eo46
          go_wp2_with (first | ((with_reducible refine gate_callee (f := 38) rfl ?_); refine goesL_ (some 54) rfl rfl Tryd.func38 (by kernel_rfl) rfl #[.agg #[.string (⟨#[]⟩ : ByteArray), .slice Ao46 x489001_1.length co46]] rfl (by (try simp only [List.map_toArray, List.map_cons, List.map_nil]); first | done | rfl | (simp only [List.length_drop, List.length_take]; rfl)) ?_; (with_reducible refine (classification_Validate.calls k1 (⟨#[]⟩ : ByteArray) _ _ x489001_1 t489 _ ?side1 ?side2 ?side3 A28.out).mono ?_); (case side1 => repeat (first | exact (Kd.R_reads' HO_489001.out).2.2 | (with_reducible refine Kd.C_alloc ?_ _) | (with_reducible refine Kd.C_drewN ?_ _) | (with_reducible refine Kd.C_drew ?_))); (case side2 => exact (Kd.R_reads' HO_489001.out).2.1); (case side3 => first | exact HG.out | exact GL.below HG.out (by repeat (first | (with_reducible first | exact HB.out | apply below_alloc | apply pw_below_drewN | apply below_drew1 | refine below_set ?_ GE488.out) | exact HB.out))); rintro e w47 ⟨rfl, hb⟩; refine ⟨_, rfl, ?_⟩; have n0_ := Aside0.mk (Kd.R_below (by (with_reducible repeat (first | apply Kd.R_alloc | apply Kd.R_drewN | apply Kd.R_drew)); exact HO_489001.out) hb); have n1_ := Aside0.mk (blk_below (g := gb488) (o := .cells #[.string (⟨#[]⟩ : ByteArray), .slice Ao46 x489001_1.length co46] 28 (0, 0)) (by (with_reducible repeat (first | refine blk_drewN ?_ _ | refine blk_drew ?_ | refine blk_alloc ?_ _)); exact BK488.out) hb); have n2_ := Aside0.mk (below_step (by repeat (first | (with_reducible first | exact HB.out | apply below_alloc | apply pw_below_drewN | apply below_drew1 | refine below_set ?_ GE488.out) | exact HB.out)) hb); clear HO_489001; clear BK488; clear HB; have HO_489001 := n0_; have BK488 := n1_; have HB := n2_; clear n0_ n1_ n2_; (try clear hb); (try clear hb2); (try clear hk); (try clear hi)))
          go_ret
          exact ⟨by first | rfl | (simp [errW_none, errW_some] <;> rfl) | (simp [*, errW_none, errW_some] <;> rfl), by repeat (first | (with_reducible first | exact HB.out | apply below_alloc | apply pw_below_drewN | apply below_drew1 | refine below_set ?_ GE488.out) | exact HB.out)⟩

end Go.Proofs.YtpnoliognpmkmaaDoor.P
