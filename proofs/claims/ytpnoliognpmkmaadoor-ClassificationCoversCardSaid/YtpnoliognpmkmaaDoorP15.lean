/- Lean functions with the same answers as the program's Go functions, and for each the proof that the call comes to these answers; written by a program of mine out of the translation, the functions marked 'by hand' by me. -/
import Derived.Test.YtpnoliognpmkmaaDoorP0
import Derived.Test.YtpnoliognpmkmaaDoorP4
import Derived.Test.YtpnoliognpmkmaaDoorP7
import Derived.Test.YtpnoliognpmkmaaDoorP14
namespace Go.Proofs.YtpnoliognpmkmaaDoor.P
open Go.RowKit Go.Proofs.YtpnoliognpmkmaaDoorW.PrintWords Go.Proofs.YtpnoliognpmkmaaDoorW.PrintLast Go.Proofs.YtpnoliognpmkmaaDoorW.PrintMore
attribute [local go_sem] max2_int min2_int max_two min_two max_three min_three max_four min_four   -- for this text's walks alone
set_option linter.unusedVariables false
set_option linter.unusedSimpArgs false

/-! ### priceofficemake_Tape_Tree: function 13 -/
mutual
def priceofficemake_Tape_Tree.l0 : Nat → Int → Int → List Int → Int → ByteArray → List ByteArray → Option (ByteArray × List ByteArray × Int)
 | 0, _, _, _, _, _, _ => none
 | k + 1, x19, x20, x1000, x1001, x366000, x366001 => if x20 < x19 then ((priceofficemake_Tape_Next.f x1000 x1001 2).bind fun bt368 => ((priceofficeref06_Format.f k (([wrap64 ((wrap64 (1 + x20)) + (wrap64 (bt368.1 * 10)))] : List Int))).bind fun bt373 => (if (x366001.length : Int) > 0 then (if 0 ≤ (wrap64 ((x366001.length : Int) - 1)) then (if (wrap64 ((x366001.length : Int) - 1)) < (x366001.length : Int) then ((priceofficeref06_Compare.f k (rdOf ByteArray.empty x366001 (wrap64 ((x366001.length : Int) - 1))) bt373.1).bind fun t376 => (priceofficemake_Tape_Tree.j1 k x20 bt373.1 x19 x20 (decide (t376 ≥ 0)) x1000 bt368.2 x366000 x366001)) else (none)) else (none)) else (priceofficemake_Tape_Tree.j1 k x20 bt373.1 x19 x20 false x1000 bt368.2 x366000 x366001)))) else (some (x366000, x366001, x1001))
def priceofficemake_Tape_Tree.j1 : Nat → Int → ByteArray → Int → Int → Bool → List Int → Int → ByteArray → List ByteArray → Option (ByteArray × List ByteArray × Int)
 | 0, _, _, _, _, _, _, _, _, _ => none
 | k + 1, x4, x5, x19, x20, x50, x1000, x1001, x366000, x366001 => if x50 = true then ((priceofficeref06_Format.f k (([wrap64 (30 + x4)] : List Int))).bind fun bt380 => (priceofficemake_Tape_Tree.j2 k bt380.1 x19 x20 x1000 x1001 x366000 x366001)) else (priceofficemake_Tape_Tree.j2 k x5 x19 x20 x1000 x1001 x366000 x366001)
def priceofficemake_Tape_Tree.j2 : Nat → ByteArray → Int → Int → List Int → Int → ByteArray → List ByteArray → Option (ByteArray × List ByteArray × Int)
 | 0, _, _, _, _, _, _, _ => none
 | k + 1, x5, x19, x20, x1000, x1001, x366000, x366001 => if x366001.length < 8796093022208 then ((priceofficemake_Tape_Next.f x1000 x1001 3).bind fun bt385 => (priceofficemake_Tape_Tree.l1 k x5 x19 x20 bt385.1 0 x1000 bt385.2 x366000 (x366001 ++ [x5]))) else (none)
def priceofficemake_Tape_Tree.l1 : Nat → ByteArray → Int → Int → Int → Int → List Int → Int → ByteArray → List ByteArray → Option (ByteArray × List ByteArray × Int)
 | 0, _, _, _, _, _, _, _, _, _ => none
 | k + 1, x5, x19, x20, x65, x66, x1000, x1001, x366000, x366001 => if x66 < x65 then ((priceofficeref06_Parse.f k x5).bind fun bt387 => (if bt387.1.length < 17592186044416 then ((priceofficeref06_Format.f k (bt387.1 ++ [wrap64 (1 + (wrap64 (x66 * 9)))])).bind fun bt394 => (if x366001.length < 8796093022208 then ((some (x366001 ++ [bt394.1] : List ByteArray)).bind fun y396 => ((priceofficemake_Tape_Next.f x1000 x1001 3).bind fun bt399 => (if bt399.1 = 0 then ((priceofficeref06_Parse.f k bt394.1).bind fun bt401 => ((priceofficemake_Tape_Next.f x1000 bt399.2 99).bind fun bt405 => (if bt401.1.length < 17592186044416 then ((priceofficeref06_Format.f k (bt401.1 ++ [wrap64 (1 + bt405.1)])).bind fun bt410 => (if y396.length < 8796093022208 then (priceofficemake_Tape_Tree.l1 k x5 x19 x20 x65 (wrap64 (x66 + 1)) x1000 bt405.2 x366000 (y396 ++ [bt410.1])) else (none))) else (none)))) else (priceofficemake_Tape_Tree.l1 k x5 x19 x20 x65 (wrap64 (x66 + 1)) x1000 bt399.2 x366000 y396)))) else (none))) else (none))) else (priceofficemake_Tape_Tree.l0 k x19 (wrap64 (x20 + 1)) x1000 x1001 x366000 x366001)
end
def priceofficemake_Tape_Tree.f (k : Nat) (s0_0 : List Int) (s0_1 : Int) : Option (ByteArray × List ByteArray × Int) := (priceofficemake_Tape_Next.f s0_0 s0_1 2).bind fun bt366 => (priceofficemake_Tape_Tree.l0 k (wrap64 (1 + bt366.1)) 0 s0_0 bt366.2 (⟨#[99]⟩ : ByteArray) ([] : List ByteArray))
theorem priceofficemake_Tape_Tree.mono_l : ∀ k, (∀ y0 y1 y2 y3 y4 y5, LeO (priceofficemake_Tape_Tree.l0 k y0 y1 y2 y3 y4 y5) (priceofficemake_Tape_Tree.l0 (k + 1) y0 y1 y2 y3 y4 y5)) ∧ (∀ y0 y1 y2 y3 y4 y5 y6 y7 y8, LeO (priceofficemake_Tape_Tree.j1 k y0 y1 y2 y3 y4 y5 y6 y7 y8) (priceofficemake_Tape_Tree.j1 (k + 1) y0 y1 y2 y3 y4 y5 y6 y7 y8)) ∧ (∀ y0 y1 y2 y3 y4 y5 y6, LeO (priceofficemake_Tape_Tree.j2 k y0 y1 y2 y3 y4 y5 y6) (priceofficemake_Tape_Tree.j2 (k + 1) y0 y1 y2 y3 y4 y5 y6)) ∧ (∀ y0 y1 y2 y3 y4 y5 y6 y7 y8, LeO (priceofficemake_Tape_Tree.l1 k y0 y1 y2 y3 y4 y5 y6 y7 y8) (priceofficemake_Tape_Tree.l1 (k + 1) y0 y1 y2 y3 y4 y5 y6 y7 y8))
 | 0 => ⟨fun _ _ _ _ _ _ r h => by simp [priceofficemake_Tape_Tree.l0] at h, fun _ _ _ _ _ _ _ _ _ r h => by simp [priceofficemake_Tape_Tree.j1] at h, fun _ _ _ _ _ _ _ r h => by simp [priceofficemake_Tape_Tree.j2] at h, fun _ _ _ _ _ _ _ _ _ r h => by simp [priceofficemake_Tape_Tree.l1] at h⟩
 | k + 1 => by
  obtain ⟨ih0, ih1, ih2, ih3⟩ := priceofficemake_Tape_Tree.mono_l k
  refine ⟨?_, ?_, ?_, ?_⟩
  ·intro y0 y1 y2 y3 y4 y5
   unfold priceofficemake_Tape_Tree.l0
   repeat' first
   | (with_reducible exact ih0 _ _ _ _ _ _)
   | (with_reducible exact ih1 _ _ _ _ _ _ _ _ _)
   | (with_reducible exact ih2 _ _ _ _ _ _ _)
   | (with_reducible exact ih3 _ _ _ _ _ _ _ _ _)
   | (with_reducible exact priceofficeref06_Compare.mono _ _ _)
   | (with_reducible exact priceofficeref06_Format.mono _ _)
   | (with_reducible exact priceofficeref06_Parse.mono _ _)
   | (with_reducible exact LeO.refl _)
   | (with_reducible exact LeO.none _)
   | (with_reducible refine LeO.ite ?_ ?_)
   | (with_reducible refine LeO.bind ?_ (fun _ => ?_))
   | exact ih0 _ _ _ _ _ _
   | exact ih1 _ _ _ _ _ _ _ _ _
   | exact ih2 _ _ _ _ _ _ _
   | exact ih3 _ _ _ _ _ _ _ _ _
   | exact priceofficeref06_Compare.mono _ _ _
   | exact priceofficeref06_Format.mono _ _
   | exact priceofficeref06_Parse.mono _ _
   | exact LeO.none _
   | refine LeO.ite ?_ ?_
   | refine LeO.bind ?_ (fun _ => ?_)
  ·intro y0 y1 y2 y3 y4 y5 y6 y7 y8
   unfold priceofficemake_Tape_Tree.j1
   repeat' first
   | (with_reducible exact ih0 _ _ _ _ _ _)
   | (with_reducible exact ih1 _ _ _ _ _ _ _ _ _)
   | (with_reducible exact ih2 _ _ _ _ _ _ _)
   | (with_reducible exact ih3 _ _ _ _ _ _ _ _ _)
   | (with_reducible exact priceofficeref06_Compare.mono _ _ _)
   | (with_reducible exact priceofficeref06_Format.mono _ _)
   | (with_reducible exact priceofficeref06_Parse.mono _ _)
   | (with_reducible exact LeO.refl _)
   | (with_reducible exact LeO.none _)
   | (with_reducible refine LeO.ite ?_ ?_)
   | (with_reducible refine LeO.bind ?_ (fun _ => ?_))
   | exact ih0 _ _ _ _ _ _
   | exact ih1 _ _ _ _ _ _ _ _ _
   | exact ih2 _ _ _ _ _ _ _
   | exact ih3 _ _ _ _ _ _ _ _ _
   | exact priceofficeref06_Compare.mono _ _ _
   | exact priceofficeref06_Format.mono _ _
   | exact priceofficeref06_Parse.mono _ _
   | exact LeO.none _
   | refine LeO.ite ?_ ?_
   | refine LeO.bind ?_ (fun _ => ?_)
  ·intro y0 y1 y2 y3 y4 y5 y6
   unfold priceofficemake_Tape_Tree.j2
   repeat' first
   | (with_reducible exact ih0 _ _ _ _ _ _)
   | (with_reducible exact ih1 _ _ _ _ _ _ _ _ _)
   | (with_reducible exact ih2 _ _ _ _ _ _ _)
   | (with_reducible exact ih3 _ _ _ _ _ _ _ _ _)
   | (with_reducible exact priceofficeref06_Compare.mono _ _ _)
   | (with_reducible exact priceofficeref06_Format.mono _ _)
   | (with_reducible exact priceofficeref06_Parse.mono _ _)
   | (with_reducible exact LeO.refl _)
   | (with_reducible exact LeO.none _)
   | (with_reducible refine LeO.ite ?_ ?_)
   | (with_reducible refine LeO.bind ?_ (fun _ => ?_))
   | exact ih0 _ _ _ _ _ _
   | exact ih1 _ _ _ _ _ _ _ _ _
   | exact ih2 _ _ _ _ _ _ _
   | exact ih3 _ _ _ _ _ _ _ _ _
   | exact priceofficeref06_Compare.mono _ _ _
   | exact priceofficeref06_Format.mono _ _
   | exact priceofficeref06_Parse.mono _ _
   | exact LeO.none _
   | refine LeO.ite ?_ ?_
   | refine LeO.bind ?_ (fun _ => ?_)
  ·intro y0 y1 y2 y3 y4 y5 y6 y7 y8
   unfold priceofficemake_Tape_Tree.l1
   repeat' first
   | (with_reducible exact ih0 _ _ _ _ _ _)
   | (with_reducible exact ih1 _ _ _ _ _ _ _ _ _)
   | (with_reducible exact ih2 _ _ _ _ _ _ _)
   | (with_reducible exact ih3 _ _ _ _ _ _ _ _ _)
   | (with_reducible exact priceofficeref06_Compare.mono _ _ _)
   | (with_reducible exact priceofficeref06_Format.mono _ _)
   | (with_reducible exact priceofficeref06_Parse.mono _ _)
   | (with_reducible exact LeO.refl _)
   | (with_reducible exact LeO.none _)
   | (with_reducible refine LeO.ite ?_ ?_)
   | (with_reducible refine LeO.bind ?_ (fun _ => ?_))
   | exact ih0 _ _ _ _ _ _
   | exact ih1 _ _ _ _ _ _ _ _ _
   | exact ih2 _ _ _ _ _ _ _
   | exact ih3 _ _ _ _ _ _ _ _ _
   | exact priceofficeref06_Compare.mono _ _ _
   | exact priceofficeref06_Format.mono _ _
   | exact priceofficeref06_Parse.mono _ _
   | exact LeO.none _
   | refine LeO.ite ?_ ?_
   | refine LeO.bind ?_ (fun _ => ?_)
theorem priceofficemake_Tape_Tree.mono : ∀ a0 a1 k, LeO (priceofficemake_Tape_Tree.f k a0 a1) (priceofficemake_Tape_Tree.f (k + 1) a0 a1) := by
 intro a0 a1 k
 obtain ⟨ih0, ih1, ih2, ih3⟩ := priceofficemake_Tape_Tree.mono_l k
 unfold priceofficemake_Tape_Tree.f
 repeat' first
   | (with_reducible exact ih0 _ _ _ _ _ _)
   | (with_reducible exact ih1 _ _ _ _ _ _ _ _ _)
   | (with_reducible exact ih2 _ _ _ _ _ _ _)
   | (with_reducible exact ih3 _ _ _ _ _ _ _ _ _)
   | (with_reducible exact priceofficeref06_Compare.mono _ _ _)
   | (with_reducible exact priceofficeref06_Format.mono _ _)
   | (with_reducible exact priceofficeref06_Parse.mono _ _)
   | (with_reducible exact LeO.refl _)
   | (with_reducible exact LeO.none _)
   | (with_reducible refine LeO.ite ?_ ?_)
   | (with_reducible refine LeO.bind ?_ (fun _ => ?_))
   | exact ih0 _ _ _ _ _ _
   | exact ih1 _ _ _ _ _ _ _ _ _
   | exact ih2 _ _ _ _ _ _ _
   | exact ih3 _ _ _ _ _ _ _ _ _
   | exact priceofficeref06_Compare.mono _ _ _
   | exact priceofficeref06_Format.mono _ _
   | exact priceofficeref06_Parse.mono _ _
   | exact LeO.none _
   | refine LeO.ite ?_ ?_
   | refine LeO.bind ?_ (fun _ => ?_)
set_option maxHeartbeats 8000000 in
set_option maxRecDepth 100000 in
theorem priceofficemake_Tape_Tree.calls (k : Nat) (g : Nat) (s0_0 : List Int) (s0_1 : Int) (r1 : ByteArray) (r2 : List ByteArray) (r3 : Int) (w0 w : World) (hI : IsS25 w0 w g s0_0 s0_1) (hB : Below w0.heap.size w0 w) (h : priceofficemake_Tape_Tree.f k s0_0 s0_1 = some (r1, r2, r3)) :
  Calls Tryd.prog 13 #[.pointer (some ⟨g, 0, none⟩)] w fun e w' => ∃ v1_ : Value, e = .returned (.agg #[.string r1, v1_]) ∧ Kd.R Kd.string 9 w' w.heap.size (fun _ => True) v1_ r2 ∧ IsS25 w0 w' g s0_0 r3 ∧ Below w0.heap.size w0 w' ∧ KeepBut w w' g none := by
 have hu28 := Tryd.underlying28
 have HI0 := mk0 hI
 have HK := mk0 (KeepBut.refl w g none)
 have HL := mk0 hB.size
 clear hI
 have HW0 := mk0 hB.size
 have HB := mk0 hB
 clear hB
 have H : ((priceofficemake_Tape_Next.f s0_0 s0_1 2).bind fun bt366 => (priceofficemake_Tape_Tree.l0 k (wrap64 (1 + bt366.1)) 0 s0_0 bt366.2 (⟨#[99]⟩ : ByteArray) ([] : List ByteArray))) = some (r1, r2, r3) := h
 clear h
 replace H := Option.bind_eq_some_iff.mp H
 obtain ⟨⟨t366, t367⟩, A20, H⟩ := H
 replace H : (priceofficemake_Tape_Tree.l0 k (wrap64 (1 + t366)) 0 s0_0 t367 (⟨#[99]⟩ : ByteArray) ([] : List ByteArray)) = some (r1, r2, r3) := H
 have A2 := mk0 A20
 clear A20
 have H' := mk0 H
 clear H
 go_enter Tryd.func13, Tryd.ntmps13
 go_wp2_with (first | ((with_reducible refine gate_dst (N := 2) rfl ?_); refine box_event ?hg (N := 2) ?hd (cs := #[.string (⟨#[]⟩ : ByteArray), .slice none 0 0]) (t := 28) ?hr ?_; (case hd => rfl); (case hg => rfl); (case hr => first | (go_simp; done) | (go_simp; rfl)); intro gb364 hg w3 hbox hb; have n0_ := mk0 (IsS25.below (by repeat (first | (with_reducible first | exact HI0.out | apply IsS25.alloc | apply IsS25.drewN | apply IsS25.drew | apply IsS25.set_1) | exact HI0.out)) hb); have n1_ := mk0 (KeepBut.trans (by repeat (first | (with_reducible first | exact HK.out | apply KeepBut.set_ | apply keep_drewN | apply keep_drew | apply keep_alloc) | exact HK.out)) (KeepBut.of_below hb g none) (.inl rfl)); have n2_ := mk0 (below_step (by repeat (first | (with_reducible first | exact HB.out | apply b_a | apply b_n | apply b_d | refine below_set ?_ (IsS25.ge HI0.out)) | exact HB.out)) hb); have n3_ := mk0 (hbox); have n4_ := mk0 ((by rw [hg]; exact (keep_size (w := w) (g := g) (row := none) (by repeat (first | (with_reducible first | exact HK.out | apply KeepBut.set_ | apply keep_drewN | apply keep_drew | apply keep_alloc) | exact HK.out))) : w.heap.size ≤ gb364)); have n5_ := mk0 ((Nat.le_trans HW0.out (by rw [hg]; exact (keep_size (w := w) (g := g) (row := none) (by repeat (first | (with_reducible first | exact HK.out | apply KeepBut.set_ | apply keep_drewN | apply keep_drew | apply keep_alloc) | exact HK.out))) : w.heap.size ≤ gb364) : w0.heap.size ≤ gb364)); have n6_ := mk0 ((by rw [hg]; exact Nat.ne_of_lt (IsS25.lt (show IsS25 w0 _ g s0_0 s0_1 from by repeat (first | (with_reducible first | exact HI0.out | apply IsS25.alloc | apply IsS25.drewN | apply IsS25.drew | apply IsS25.set_1) | exact HI0.out))) : g ≠ gb364)); have n7_ := mk0 ((by rw [hg]; exact Nat.ne_of_gt (IsS25.lt (show IsS25 w0 _ g s0_0 s0_1 from by repeat (first | (with_reducible first | exact HI0.out | apply IsS25.alloc | apply IsS25.drewN | apply IsS25.drew | apply IsS25.set_1) | exact HI0.out))) : gb364 ≠ g)); clear HI0; clear HK; clear HB; have HI0 := n0_; have HK := n1_; have HB := n2_; have BK364 := n3_; have GW364 := n4_; have GE364 := n5_; have NB0_364 := n6_; have NB364_0 := n7_; clear n0_ n1_ n2_ n3_ n4_ n5_ n6_ n7_; clear hb hbox hg) | ((with_reducible refine gate_dst (N := 3) rfl ?_); refine box_event ?hg (N := 3) ?hd (cs := #[.string (⟨#[]⟩ : ByteArray), .slice none 0 0]) (t := 28) ?hr ?_; (case hd => rfl); (case hg => rfl); (case hr => first | (go_simp; done) | (go_simp; rfl)); intro gb365 hg w4 hbox hb; have n0_ := mk0 (IsS25.below (by repeat (first | (with_reducible first | exact HI0.out | apply IsS25.alloc | apply IsS25.drewN | apply IsS25.drew | apply IsS25.set_1 | refine IsS25.far ?_ NB0_364.out _) | exact HI0.out)) hb); have n1_ := mk0 (blk_below (g := gb364) (o := .cells #[.string (⟨#[]⟩ : ByteArray), .slice none 0 0] 28 (0, 0)) (by (with_reducible repeat (first | refine blk_drewN ?_ _ | refine blk_drew ?_ | refine blk_alloc ?_ _)); exact BK364.out) hb); have n2_ := mk0 (KeepBut.trans (by repeat (first | (with_reducible first | exact HK.out | apply KeepBut.set_ | apply keep_drewN | apply keep_drew | apply keep_alloc | refine keep_far ?_ GW364.out _) | exact HK.out)) (KeepBut.of_below hb g none) (.inl rfl)); have n3_ := mk0 (below_step (by repeat (first | (with_reducible first | exact HB.out | apply b_a | apply b_n | apply b_d | refine below_set ?_ (IsS25.ge HI0.out) | refine below_set ?_ GE364.out) | exact HB.out)) hb); have n4_ := mk0 (hbox); have n5_ := mk0 ((by rw [hg]; exact (keep_size (w := w) (g := g) (row := none) (by repeat (first | (with_reducible first | exact HK.out | apply KeepBut.set_ | apply keep_drewN | apply keep_drew | apply keep_alloc | refine keep_far ?_ GW364.out _) | exact HK.out))) : w.heap.size ≤ gb365)); have n6_ := mk0 ((Nat.le_trans HW0.out (by rw [hg]; exact (keep_size (w := w) (g := g) (row := none) (by repeat (first | (with_reducible first | exact HK.out | apply KeepBut.set_ | apply keep_drewN | apply keep_drew | apply keep_alloc | refine keep_far ?_ GW364.out _) | exact HK.out))) : w.heap.size ≤ gb365) : w0.heap.size ≤ gb365)); have n7_ := mk0 ((by rw [hg]; exact Nat.ne_of_lt (blk_lt (g := gb364) (o := .cells #[.string (⟨#[]⟩ : ByteArray), .slice none 0 0] 28 (0, 0)) (by (with_reducible repeat (first | refine blk_drewN ?_ _ | refine blk_drew ?_ | refine blk_alloc ?_ _)); exact BK364.out)) : gb364 ≠ gb365)); have n8_ := mk0 ((by rw [hg]; exact Nat.ne_of_gt (blk_lt (g := gb364) (o := .cells #[.string (⟨#[]⟩ : ByteArray), .slice none 0 0] 28 (0, 0)) (by (with_reducible repeat (first | refine blk_drewN ?_ _ | refine blk_drew ?_ | refine blk_alloc ?_ _)); exact BK364.out)) : gb365 ≠ gb364)); have n9_ := mk0 ((by rw [hg]; exact Nat.ne_of_lt (IsS25.lt (show IsS25 w0 _ g s0_0 s0_1 from by repeat (first | (with_reducible first | exact HI0.out | apply IsS25.alloc | apply IsS25.drewN | apply IsS25.drew | apply IsS25.set_1 | refine IsS25.far ?_ NB0_364.out _) | exact HI0.out))) : g ≠ gb365)); have n10_ := mk0 ((by rw [hg]; exact Nat.ne_of_gt (IsS25.lt (show IsS25 w0 _ g s0_0 s0_1 from by repeat (first | (with_reducible first | exact HI0.out | apply IsS25.alloc | apply IsS25.drewN | apply IsS25.drew | apply IsS25.set_1 | refine IsS25.far ?_ NB0_364.out _) | exact HI0.out))) : gb365 ≠ g)); clear HI0; clear BK364; clear HK; clear HB; have HI0 := n0_; have BK364 := n1_; have HK := n2_; have HB := n3_; have BK365 := n4_; have GW365 := n5_; have GE365 := n6_; have NB364_365 := n7_; have NB365_364 := n8_; have NB0_365 := n9_; have NB365_0 := n10_; clear n0_ n1_ n2_ n3_ n4_ n5_ n6_ n7_ n8_ n9_ n10_; clear hb hbox hg; have hnb5 := NB365_364.out; have hnc5 := NB364_365.out; have hnb6 := NB365_0.out; have hnc6 := NB0_365.out; have hcz7_0 : w4.cell? ⟨gb365, 0, none⟩ = some (.string (⟨#[]⟩ : ByteArray)) := (blk_cell BK365.out 0).trans rfl; have hcz7_1 : w4.cell? ⟨gb365, 1, none⟩ = some (.slice none 0 0) := (blk_cell BK365.out 1).trans rfl; have hfz7_0 := blk_frozen BK365.out 0; have hfz7_1 := blk_frozen BK365.out 1) | ((with_reducible refine gate_callee (f := 18) rfl ?_); refine goesL_ (some 18) rfl rfl Tryd.func18 (by kernel_rfl) rfl #[.pointer (some ⟨g, 0, none⟩), .int .i64 2] rfl (by (try simp only [List.map_toArray, List.map_cons, List.map_nil]); first | done | rfl | (simp only [List.length_drop, List.length_take]; rfl)) ?_; (with_reducible refine (priceofficemake_Tape_Next.calls g s0_0 s0_1 2 t366 t367 w0 _ ?side1 ?side2 A2.out).mono ?_); (case side1 => repeat (first | (with_reducible first | exact HI0.out | apply IsS25.alloc | apply IsS25.drewN | apply IsS25.drew | apply IsS25.set_1 | refine IsS25.far ?_ NB0_364.out _ | refine IsS25.far ?_ NB0_365.out _) | exact HI0.out)); (case side2 => repeat (first | (with_reducible first | exact HB.out | apply b_a | apply b_n | apply b_d | refine below_set ?_ (IsS25.ge HI0.out) | refine below_set ?_ GE364.out | refine below_set ?_ GE365.out) | exact HB.out)); rintro e w8 ⟨rfl, hi, hb, hk⟩; refine ⟨_, rfl, ?_⟩; have n0_ := mk0 (KeepBut.blk hk (g' := gb364) (o := .cells #[.string (⟨#[]⟩ : ByteArray), .slice none 0 0] 28 (0, 0)) (by (with_reducible repeat (first | refine blk_drewN ?_ _ | refine blk_drew ?_ | refine blk_alloc ?_ _)); refine blk_far ?_ NB364_365.out _; (with_reducible repeat (first | refine blk_drewN ?_ _ | refine blk_drew ?_ | refine blk_alloc ?_ _)); refine blk_far ?_ NB364_365.out _; (with_reducible repeat (first | refine blk_drewN ?_ _ | refine blk_drew ?_ | refine blk_alloc ?_ _)); exact BK364.out) NB364_0.out (by simp)); have n1_ := mk0 (KeepBut.blk hk (g' := gb365) (o := .cells #[.string (⟨#[99]⟩ : ByteArray), .slice none 0 0] 28 (0, 0)) (by (with_reducible repeat (first | refine blk_drewN ?_ _ | refine blk_drew ?_ | refine blk_alloc ?_ _)); refine blk_put (cs := #[.string (⟨#[99]⟩ : ByteArray), .slice none 0 0]) ?_ 1 _ rfl; (with_reducible repeat (first | refine blk_drewN ?_ _ | refine blk_drew ?_ | refine blk_alloc ?_ _)); refine blk_put (cs := #[.string (⟨#[]⟩ : ByteArray), .slice none 0 0]) ?_ 0 _ rfl; (with_reducible repeat (first | refine blk_drewN ?_ _ | refine blk_drew ?_ | refine blk_alloc ?_ _)); exact BK365.out) NB365_0.out (by simp)); have n2_ := mk0 (KeepBut.trans (by repeat (first | (with_reducible first | exact HK.out | apply KeepBut.set_ | apply keep_drewN | apply keep_drew | apply keep_alloc | refine keep_far ?_ GW364.out _ | refine keep_far ?_ GW365.out _) | exact HK.out)) hk (.inl rfl)); have n3_ := mk0 (hb); have n4_ := mk0 (hi); clear BK364; clear BK365; clear HK; clear HB; clear HI0; have BK364 := n0_; have BK365 := n1_; have HK := n2_; have HB := n3_; have HI0 := n4_; clear n0_ n1_ n2_ n3_ n4_; (try clear hb); (try clear hb2); (try clear hk); (try clear hi)))
 go_loopg [20] k (fun kq v20 w' => ∃ (x20_1 : Int) (x1001_1 : Int) (x366001_1 : List ByteArray) (u366001 : Value), v20 = .int .i64 x20_1 ∧ Aside0 (priceofficemake_Tape_Tree.l0 kq (wrap64 (1 + t366)) x20_1 s0_0 x1001_1 (⟨#[99]⟩ : ByteArray) x366001_1 = some (r1, r2, r3)) ∧ Aside0 (kq ≤ k) ∧ Aside0 (Kd.R Kd.string 9 w' w.heap.size (fun _ => True) u366001 x366001_1) ∧ Aside0 (w'.heap[gb364]? = some (.cells #[.string (⟨#[]⟩ : ByteArray), (.slice none 0 0)] 28 (0, 0))) ∧ Aside0 (w'.heap[gb365]? = some (.cells #[.string (⟨#[99]⟩ : ByteArray), u366001] 28 (0, 0))) ∧ Aside0 (IsS25 w0 w' g s0_0 x1001_1) ∧ Aside0 (KeepBut w w' g none) ∧ Aside0 (Below w0.heap.size w0 w'))
 case atStart => exact ⟨(0), (t367), (([] : List ByteArray)), (.slice none 0 0), (by first | rfl | (simp; done) | (simp [*]; done)), H', ⟨Nat.le_refl _⟩, ⟨by first | exact Kd.R_nil _ _ _ _ _ | exact Kd.N_nil _ _ _ _ _ | exact Kd.V_nil _ _ _ _ _ | exact Kd.Q_nil _ _ _ _ _ | exact Kd.S_nil _ _ _ _ _⟩, ⟨by (with_reducible repeat (first | refine blk_drewN ?_ _ | refine blk_drew ?_ | refine blk_alloc ?_ _)); exact BK364.out⟩, ⟨by (with_reducible repeat (first | refine blk_drewN ?_ _ | refine blk_drew ?_ | refine blk_alloc ?_ _)); exact BK365.out⟩, ⟨by repeat (first | (with_reducible first | exact HI0.out | apply IsS25.alloc | apply IsS25.drewN | apply IsS25.drew | apply IsS25.set_1 | refine IsS25.far ?_ NB0_364.out _ | refine IsS25.far ?_ NB0_365.out _) | exact HI0.out)⟩, ⟨by repeat (first | (with_reducible first | exact HK.out | apply KeepBut.set_ | apply keep_drewN | apply keep_drew | apply keep_alloc | refine keep_far ?_ GW364.out _ | refine keep_far ?_ GW365.out _) | exact HK.out)⟩, ⟨by repeat (first | (with_reducible first | exact HB.out | apply b_a | apply b_n | apply b_d | refine below_set ?_ (IsS25.ge HI0.out) | refine below_set ?_ GE364.out | refine below_set ?_ GE365.out) | exact HB.out)⟩⟩
 case round =>
  clear H'
  try clear c1
  try clear p2
  try clear c5
  try clear c6
  try clear p6
  try clear hcz7_0
  try clear hcz7_1
  try clear hfz7_0
  try clear hfz7_1
  obtain ⟨x20_1, x1001_1, x366001_1, u366001, rfl, HA, HK1, HO_366001, BK364, BK365, HI0, HK, HB⟩ := hrel
  cases gk with
  | zero => exact absurd HA.out (by simp [priceofficemake_Tape_Tree.l0])
  | succ k1 =>
   have H := HA.out
   clear HA
   simp only [priceofficemake_Tape_Tree.l0] at H
   by_cases c9 : x20_1 < (wrap64 (1 + t366))
   ·rw [if_pos c9] at H
    have c9b0 : decide (x20_1 < (wrap64 (1 + t366))) = true := decide_eq_true c9
    clear c9
    replace H := Option.bind_eq_some_iff.mp H
    obtain ⟨⟨t368, t369⟩, A100, H⟩ := H
    replace H : ((priceofficeref06_Format.f k1 (([wrap64 ((wrap64 (1 + x20_1)) + (wrap64 (t368 * 10)))] : List Int))).bind fun bt373 => (if (x366001_1.length : Int) > 0 then (if 0 ≤ (wrap64 ((x366001_1.length : Int) - 1)) then (if (wrap64 ((x366001_1.length : Int) - 1)) < (x366001_1.length : Int) then ((priceofficeref06_Compare.f k1 (rdOf ByteArray.empty x366001_1 (wrap64 ((x366001_1.length : Int) - 1))) bt373.1).bind fun t376 => (priceofficemake_Tape_Tree.j1 k1 x20_1 bt373.1 (wrap64 (1 + t366)) x20_1 (decide (t376 ≥ 0)) s0_0 t369 (⟨#[99]⟩ : ByteArray) x366001_1)) else (none)) else (none)) else (priceofficemake_Tape_Tree.j1 k1 x20_1 bt373.1 (wrap64 (1 + t366)) x20_1 false s0_0 t369 (⟨#[99]⟩ : ByteArray) x366001_1))) = some (r1, r2, r3) := H
    have A10 := mk0 A100
    clear A100
    obtain ⟨y370, hy370⟩ : ∃ y_ : List Int, y_ = (([wrap64 ((wrap64 (1 + x20_1)) + (wrap64 (t368 * 10)))] : List Int)) := ⟨_, rfl⟩
    replace H : ((priceofficeref06_Format.f k1 y370).bind fun bt373 => (if (x366001_1.length : Int) > 0 then (if 0 ≤ (wrap64 ((x366001_1.length : Int) - 1)) then (if (wrap64 ((x366001_1.length : Int) - 1)) < (x366001_1.length : Int) then ((priceofficeref06_Compare.f k1 (rdOf ByteArray.empty x366001_1 (wrap64 ((x366001_1.length : Int) - 1))) bt373.1).bind fun t376 => (priceofficemake_Tape_Tree.j1 k1 x20_1 bt373.1 (wrap64 (1 + t366)) x20_1 (decide (t376 ≥ 0)) s0_0 t369 (⟨#[99]⟩ : ByteArray) x366001_1)) else (none)) else (none)) else (priceofficemake_Tape_Tree.j1 k1 x20_1 bt373.1 (wrap64 (1 + t366)) x20_1 false s0_0 t369 (⟨#[99]⟩ : ByteArray) x366001_1))) = some (r1, r2, r3) := by first | (rw [hy370]; with_reducible exact H) | (have H2_ := (Option.bind_some _ _).symm.trans H; rw [hy370]; with_reducible exact H2_) | (have H2_ := (Option.bind_some _ _).symm.trans H; with_reducible exact H2_) | with_reducible exact H | (rw [hy370]; exact H) | exact H
    have Ny370 := mk0 hy370
    clear hy370
    replace H := Option.bind_eq_some_iff.mp H
    obtain ⟨⟨t373, t374⟩, A110, H⟩ := H
    replace H : (if (x366001_1.length : Int) > 0 then (if 0 ≤ (wrap64 ((x366001_1.length : Int) - 1)) then (if (wrap64 ((x366001_1.length : Int) - 1)) < (x366001_1.length : Int) then ((priceofficeref06_Compare.f k1 (rdOf ByteArray.empty x366001_1 (wrap64 ((x366001_1.length : Int) - 1))) t373).bind fun t376 => (priceofficemake_Tape_Tree.j1 k1 x20_1 t373 (wrap64 (1 + t366)) x20_1 (decide (t376 ≥ 0)) s0_0 t369 (⟨#[99]⟩ : ByteArray) x366001_1)) else (none)) else (none)) else (priceofficemake_Tape_Tree.j1 k1 x20_1 t373 (wrap64 (1 + t366)) x20_1 false s0_0 t369 (⟨#[99]⟩ : ByteArray) x366001_1)) = some (r1, r2, r3) := H
    have A11 := mk0 A110
    clear A110
    have HC12 := mk0 H
    clear H
    go_upto_region 6 with (first | ((with_reducible refine gate_callee (f := 18) rfl ?_); refine goesL_ (some 27) rfl rfl Tryd.func18 (by kernel_rfl) rfl #[.pointer (some ⟨g, 0, none⟩), .int .i64 2] rfl (by (try simp only [List.map_toArray, List.map_cons, List.map_nil]); first | done | rfl | (simp only [List.length_drop, List.length_take]; rfl)) ?_; (with_reducible refine (priceofficemake_Tape_Next.calls g s0_0 x1001_1 2 t368 t369 w0 _ ?side1 ?side2 A10.out).mono ?_); (case side1 => repeat (first | (with_reducible first | exact HI0.out | apply IsS25.alloc | apply IsS25.drewN | apply IsS25.drew | apply IsS25.set_1 | refine IsS25.far ?_ NB0_364.out _ | refine IsS25.far ?_ NB0_365.out _) | exact HI0.out)); (case side2 => repeat (first | (with_reducible first | exact HB.out | apply b_a | apply b_n | apply b_d | refine below_set ?_ (IsS25.ge HI0.out) | refine below_set ?_ GE364.out | refine below_set ?_ GE365.out) | exact HB.out)); rintro e w13 ⟨rfl, hi, hb, hk⟩; refine ⟨_, rfl, ?_⟩; have n0_ := mk0 (Kd.R_mono (Kd.R_keep (IsS25.apart (show IsS25 w0 _ g s0_0 x1001_1 from by repeat (first | (with_reducible first | exact HI0.out | apply IsS25.alloc | apply IsS25.drewN | apply IsS25.drew | apply IsS25.set_1 | refine IsS25.far ?_ NB0_364.out _ | refine IsS25.far ?_ NB0_365.out _) | exact HI0.out)) (by (with_reducible repeat (first | apply r_a | apply r_n | apply r_d)); exact HO_366001.out) (by decide)) hk (fun _ h => h.2)) (fun _ h => h.1)); have n1_ := mk0 (KeepBut.blk hk (g' := gb364) (o := .cells #[.string (⟨#[]⟩ : ByteArray), .slice none 0 0] 28 (0, 0)) (by (with_reducible repeat (first | refine blk_drewN ?_ _ | refine blk_drew ?_ | refine blk_alloc ?_ _)); exact BK364.out) NB364_0.out (by simp)); have n2_ := mk0 (KeepBut.blk hk (g' := gb365) (o := .cells #[.string (⟨#[99]⟩ : ByteArray), u366001] 28 (0, 0)) (by (with_reducible repeat (first | refine blk_drewN ?_ _ | refine blk_drew ?_ | refine blk_alloc ?_ _)); exact BK365.out) NB365_0.out (by simp)); have n3_ := mk0 (KeepBut.trans (by repeat (first | (with_reducible first | exact HK.out | apply KeepBut.set_ | apply keep_drewN | apply keep_drew | apply keep_alloc | refine keep_far ?_ GW364.out _ | refine keep_far ?_ GW365.out _) | exact HK.out)) hk (.inl rfl)); have n4_ := mk0 (hb); have n5_ := mk0 (hi); clear HO_366001; clear BK364; clear BK365; clear HK; clear HB; clear HI0; have HO_366001 := n0_; have BK364 := n1_; have BK365 := n2_; have HK := n3_; have HB := n4_; have HI0 := n5_; clear n0_ n1_ n2_ n3_ n4_ n5_; (try clear hb); (try clear hb2); (try clear hk); (try clear hi)) | ((with_reducible refine gate_dst (N := 30) rfl ?_); refine Kd.R_lit (Kd.int .i64) _ 3 ?hg (N := 30) ?hd (xs := ([wrap64 ((wrap64 (1 + x20_1)) + (wrap64 (t368 * 10)))] : List Int)) (inner := [.int .i64 (wrap64 ((wrap64 (1 + x20_1)) + (wrap64 (t368 * 10))))]) (ok := fun _ => True) (okp := fun _ => True) ?hr ?hp (fun _ hk => hk) trivial (Below.refl _ _) (Nat.le_refl _) (by simp) ?_; (case hd => rfl); (case hg => rfl); (case hr => first | (go_simp; done) | (go_simp; rfl)); (case hp => exact (Reps.one (show Kd.M (Kd.int .i64) _ _ _ (wrap64 ((wrap64 (1 + x20_1)) + (wrap64 (t368 * 10)))) [.int .i64 (wrap64 ((wrap64 (1 + x20_1)) + (wrap64 (t368 * 10))))] from rfl) (Reps.none _ _))); intro v371 w14 ho15 hb hg_ hnew_; clear hg_ hnew_; (first | rw [← Ny370.out] at ho15 | (simp only [Int.reduceToNat] at ho15; rw [← Ny370.out] at ho15)); have n0_ := mk0 (Kd.R_below (by (with_reducible repeat (first | apply r_a | apply r_n | apply r_d)); exact HO_366001.out) hb); have n1_ := mk0 (Kd.R_lower ho15 (keep_size (w := w) (g := g) (row := none) (by repeat (first | (with_reducible first | exact HK.out | apply KeepBut.set_ | apply keep_drewN | apply keep_drew | apply keep_alloc | refine keep_far ?_ GW364.out _ | refine keep_far ?_ GW365.out _) | exact HK.out)))); have n2_ := mk0 (blk_below (g := gb364) (o := .cells #[.string (⟨#[]⟩ : ByteArray), .slice none 0 0] 28 (0, 0)) (by (with_reducible repeat (first | refine blk_drewN ?_ _ | refine blk_drew ?_ | refine blk_alloc ?_ _)); exact BK364.out) hb); have n3_ := mk0 (blk_below (g := gb365) (o := .cells #[.string (⟨#[99]⟩ : ByteArray), u366001] 28 (0, 0)) (by (with_reducible repeat (first | refine blk_drewN ?_ _ | refine blk_drew ?_ | refine blk_alloc ?_ _)); exact BK365.out) hb); have n4_ := mk0 (IsS25.below (by repeat (first | (with_reducible first | exact HI0.out | apply IsS25.alloc | apply IsS25.drewN | apply IsS25.drew | apply IsS25.set_1 | refine IsS25.far ?_ NB0_364.out _ | refine IsS25.far ?_ NB0_365.out _) | exact HI0.out)) hb); have n5_ := mk0 (KeepBut.trans (by repeat (first | (with_reducible first | exact HK.out | apply KeepBut.set_ | apply keep_drewN | apply keep_drew | apply keep_alloc | refine keep_far ?_ GW364.out _ | refine keep_far ?_ GW365.out _) | exact HK.out)) (KeepBut.of_below hb g none) (.inl rfl)); have n6_ := mk0 (below_step (by repeat (first | (with_reducible first | exact HB.out | apply b_a | apply b_n | apply b_d | refine below_set ?_ (IsS25.ge HI0.out) | refine below_set ?_ GE364.out | refine below_set ?_ GE365.out) | exact HB.out)) hb); clear HO_366001; clear BK364; clear BK365; clear HI0; clear HK; clear HB; have HO_366001 := n0_; have HO372 := n1_; have BK364 := n2_; have BK365 := n3_; have HI0 := n4_; have HK := n5_; have HB := n6_; clear n0_ n1_ n2_ n3_ n4_ n5_ n6_; clear hb ho15; obtain ⟨Ao16, co16, eo16⟩ := Kd.R_slice HO372.out; subst eo16) | ((with_reducible refine gate_callee (f := 29) rfl ?_); refine goesL_ (some 31) rfl rfl Tryd.func29 (by kernel_rfl) rfl #[.slice Ao16 y370.length co16] rfl (by (try simp only [List.map_toArray, List.map_cons, List.map_nil]); first | done | rfl | (simp only [List.length_drop, List.length_take]; rfl)) ?_; (with_reducible refine (priceofficeref06_Format.calls k1 _ _ y370 t373 t374 _ ?side1 ?side2 A11.out).mono ?_); (case side1 => repeat (first | exact (Kd.R_reads' HO372.out).2.2 | (with_reducible refine Kd.C_alloc ?_ _) | (with_reducible refine Kd.C_drewN ?_ _) | (with_reducible refine Kd.C_drew ?_))); (case side2 => exact (Kd.R_reads' HO372.out).2.1); rintro e w17 ⟨rfl, hb⟩; refine ⟨_, rfl, ?_⟩; have n0_ := mk0 (Kd.R_below (by (with_reducible repeat (first | apply r_a | apply r_n | apply r_d)); exact HO_366001.out) hb); have n1_ := mk0 (Kd.R_below (by (with_reducible repeat (first | apply r_a | apply r_n | apply r_d)); exact HO372.out) hb); have n2_ := mk0 (blk_below (g := gb364) (o := .cells #[.string (⟨#[]⟩ : ByteArray), .slice none 0 0] 28 (0, 0)) (by (with_reducible repeat (first | refine blk_drewN ?_ _ | refine blk_drew ?_ | refine blk_alloc ?_ _)); exact BK364.out) hb); have n3_ := mk0 (blk_below (g := gb365) (o := .cells #[.string (⟨#[99]⟩ : ByteArray), u366001] 28 (0, 0)) (by (with_reducible repeat (first | refine blk_drewN ?_ _ | refine blk_drew ?_ | refine blk_alloc ?_ _)); exact BK365.out) hb); have n4_ := mk0 (IsS25.below (by repeat (first | (with_reducible first | exact HI0.out | apply IsS25.alloc | apply IsS25.drewN | apply IsS25.drew | apply IsS25.set_1 | refine IsS25.far ?_ NB0_364.out _ | refine IsS25.far ?_ NB0_365.out _) | exact HI0.out)) hb); have n5_ := mk0 (KeepBut.trans (by repeat (first | (with_reducible first | exact HK.out | apply KeepBut.set_ | apply keep_drewN | apply keep_drew | apply keep_alloc | refine keep_far ?_ GW364.out _ | refine keep_far ?_ GW365.out _) | exact HK.out)) (KeepBut.of_below hb g none) (.inl rfl)); have n6_ := mk0 (below_step (by repeat (first | (with_reducible first | exact HB.out | apply b_a | apply b_n | apply b_d | refine below_set ?_ (IsS25.ge HI0.out) | refine below_set ?_ GE364.out | refine below_set ?_ GE365.out) | exact HB.out)) hb); clear HO_366001; clear HO372; clear BK364; clear BK365; clear HI0; clear HK; clear HB; have HO_366001 := n0_; have HO372 := n1_; have BK364 := n2_; have BK365 := n3_; have HI0 := n4_; have HK := n5_; have HB := n6_; clear n0_ n1_ n2_ n3_ n4_ n5_ n6_; (try clear hb); (try clear hb2); (try clear hk); (try clear hi)))
    (try simp only [Act.put, List.setIfInBounds_toArray, List.set_cons_zero, List.set_cons_succ])
    go_cut [50] (fun v50 wc => ∃ (kq : Nat) (x50_51 : Bool), v50 = .bool x50_51 ∧ Aside0 (priceofficemake_Tape_Tree.j1 kq x20_1 t373 (wrap64 (1 + t366)) x20_1 x50_51 s0_0 t369 (⟨#[99]⟩ : ByteArray) x366001_1 = some (r1, r2, r3)) ∧ Aside0 (kq ≤ k1) ∧ Aside0 (Kd.R Kd.string 9 wc w.heap.size (fun _ => True) u366001 x366001_1) ∧ Aside0 (wc.heap[gb364]? = some (.cells #[.string (⟨#[]⟩ : ByteArray), (.slice none 0 0)] 28 (0, 0))) ∧ Aside0 (wc.heap[gb365]? = some (.cells #[.string (⟨#[99]⟩ : ByteArray), u366001] 28 (0, 0))) ∧ Aside0 (IsS25 w0 wc g s0_0 t369) ∧ Aside0 (KeepBut w wc g none) ∧ Aside0 (Below w0.heap.size w0 wc))
    case first =>
     have H := HC12.out
     clear HC12
     by_cases c18 : (x366001_1.length : Int) > 0
     ·rw [if_pos c18] at H
      have c18b0 : decide (0 < (x366001_1.length : Int)) = true := decide_eq_true c18
      have c18b1 : decide (0 < x366001_1.length) = true := decide_eq_true (by omega)
      clear c18
      (first | rw [c18b0] | (simp only [i64_w, i32_w]; rw [c18b0]) | skip)
      obtain ⟨ji19, hji19⟩ : ∃ j_ : Int, (wrap64 ((x366001_1.length : Int) - 1)) = j_ := ⟨_, rfl⟩
      replace H : (if 0 ≤ (ji19) then (if (ji19) < (x366001_1.length : Int) then ((priceofficeref06_Compare.f k1 (rdOf ByteArray.empty x366001_1 (ji19)) t373).bind fun t376 => (priceofficemake_Tape_Tree.j1 k1 x20_1 t373 (wrap64 (1 + t366)) x20_1 (decide (t376 ≥ 0)) s0_0 t369 (⟨#[99]⟩ : ByteArray) x366001_1)) else (none)) else (none)) = some (r1, r2, r3) := by first | (rw [hji19] at H; exact H) | (simp only [hji19] at H ⊢; exact H)
      have hji19w : (IntKind.i64.wrap ((x366001_1.length : Int) - 1)) = ji19 := (i64_w _).trans hji19
      by_cases c20 : 0 ≤ (ji19)
      ·rw [if_pos c20] at H
       have c20b0 : decide (0 ≤ (ji19)) = true := decide_eq_true c20
       clear c20
       by_cases c21 : (ji19) < (x366001_1.length : Int)
       ·rw [if_pos c21] at H
        have c21b0 : decide ((ji19) < (x366001_1.length : Int)) = true := decide_eq_true c21
        clear c21
        replace H := Option.bind_eq_some_iff.mp H
        obtain ⟨t376, A220, H⟩ := H
        replace H : (priceofficemake_Tape_Tree.j1 k1 x20_1 t373 (wrap64 (1 + t366)) x20_1 (decide (t376 ≥ 0)) s0_0 t369 (⟨#[99]⟩ : ByteArray) x366001_1) = some (r1, r2, r3) := H
        have A22 := mk0 A220
        clear A220
        have H' := mk0 H
        clear H
        have hnb23 := NB365_364.out
        have hnc23 := NB364_365.out
        have hnb24 := NB365_0.out
        have hnc24 := NB0_365.out
        have hcz25_0 : w17.cell? ⟨gb365, 0, none⟩ = some (.string (⟨#[99]⟩ : ByteArray)) := (blk_cell BK365.out 0).trans rfl
        have hcz25_1 : w17.cell? ⟨gb365, 1, none⟩ = some (u366001) := (blk_cell BK365.out 1).trans rfl
        have hfz25_0 := blk_frozen BK365.out 0
        have hfz25_1 := blk_frozen BK365.out 1
        obtain ⟨Ao26, co26, eo26⟩ := Kd.R_slice HO_366001.out
        subst eo26
        have p375 : 0 ≤ ((ji19) : Int) := of_decide_eq_true (by first | (with_reducible assumption) | assumption)
        have q375 : (ji19) < (x366001_1.length : Int) := of_decide_eq_true (by first | (with_reducible assumption) | assumption)
        obtain ⟨ad375, e375, hx375_0⟩ := Kd.at_string (Kd.R_reads' HO_366001.out).2.2 (ji19) p375 q375
        cases e375
        replace p375 := eq_true p375
        replace q375 := eq_true q375
        go_wp2_with (first | (go_at_call 41; (with_reducible refine (priceofficeref06_Compare.calls k1 (rdOf ByteArray.empty x366001_1 (ji19)) t373 t376 _ A22.out).mono ?_); rintro e w27 ⟨rfl, hb⟩; have n0_ := mk0 (Kd.R_below (by (with_reducible repeat (first | apply r_a | apply r_n | apply r_d)); exact HO_366001.out) hb); have n1_ := mk0 (Kd.R_below (by (with_reducible repeat (first | apply r_a | apply r_n | apply r_d)); exact HO372.out) hb); have n2_ := mk0 (blk_below (g := gb364) (o := .cells #[.string (⟨#[]⟩ : ByteArray), .slice none 0 0] 28 (0, 0)) (by (with_reducible repeat (first | refine blk_drewN ?_ _ | refine blk_drew ?_ | refine blk_alloc ?_ _)); exact BK364.out) hb); have n3_ := mk0 (blk_below (g := gb365) (o := .cells #[.string (⟨#[99]⟩ : ByteArray), .slice (some ad375) x366001_1.length co26] 28 (0, 0)) (by (with_reducible repeat (first | refine blk_drewN ?_ _ | refine blk_drew ?_ | refine blk_alloc ?_ _)); exact BK365.out) hb); have n4_ := mk0 (IsS25.below (by repeat (first | (with_reducible first | exact HI0.out | apply IsS25.alloc | apply IsS25.drewN | apply IsS25.drew | apply IsS25.set_1 | refine IsS25.far ?_ NB0_364.out _ | refine IsS25.far ?_ NB0_365.out _) | exact HI0.out)) hb); have n5_ := mk0 (KeepBut.trans (by repeat (first | (with_reducible first | exact HK.out | apply KeepBut.set_ | apply keep_drewN | apply keep_drew | apply keep_alloc | refine keep_far ?_ GW364.out _ | refine keep_far ?_ GW365.out _) | exact HK.out)) (KeepBut.of_below hb g none) (.inl rfl)); have n6_ := mk0 (below_step (by repeat (first | (with_reducible first | exact HB.out | apply b_a | apply b_n | apply b_d | refine below_set ?_ (IsS25.ge HI0.out) | refine below_set ?_ GE364.out | refine below_set ?_ GE365.out) | exact HB.out)) hb); clear HO_366001; clear HO372; clear BK364; clear BK365; clear HI0; clear HK; clear HB; have HO_366001 := n0_; have HO372 := n1_; have BK364 := n2_; have BK365 := n3_; have HI0 := n4_; have HK := n5_; have HB := n6_; clear n0_ n1_ n2_ n3_ n4_ n5_ n6_; (try clear hb); (try clear hb2); (try clear hk); (try clear hi)))
        go_meet
        case rel => exact ⟨_, (decide (t376 ≥ 0)), (by first | rfl | (simp; done) | (simp [*]; done)), H', ⟨by have := HK1.out; first | omega | exact Nat.le_refl _⟩, ⟨by (with_reducible repeat (first | apply r_a | apply r_n | apply r_d)); exact HO_366001.out⟩, ⟨by (with_reducible repeat (first | refine blk_drewN ?_ _ | refine blk_drew ?_ | refine blk_alloc ?_ _)); exact BK364.out⟩, ⟨by (with_reducible repeat (first | refine blk_drewN ?_ _ | refine blk_drew ?_ | refine blk_alloc ?_ _)); exact BK365.out⟩, ⟨by repeat (first | (with_reducible first | exact HI0.out | apply IsS25.alloc | apply IsS25.drewN | apply IsS25.drew | apply IsS25.set_1 | refine IsS25.far ?_ NB0_364.out _ | refine IsS25.far ?_ NB0_365.out _) | exact HI0.out)⟩, ⟨by repeat (first | (with_reducible first | exact HK.out | apply KeepBut.set_ | apply keep_drewN | apply keep_drew | apply keep_alloc | refine keep_far ?_ GW364.out _ | refine keep_far ?_ GW365.out _) | exact HK.out)⟩, ⟨by repeat (first | (with_reducible first | exact HB.out | apply b_a | apply b_n | apply b_d | refine below_set ?_ (IsS25.ge HI0.out) | refine below_set ?_ GE364.out | refine below_set ?_ GE365.out) | exact HB.out)⟩⟩
       ·rw [if_neg c21] at H
        exact absurd H (by simp)
      ·rw [if_neg c20] at H
       exact absurd H (by simp)
     ·rw [if_neg c18] at H
      have c18b0 : decide (0 < (x366001_1.length : Int)) = false := decide_eq_false c18
      have c18b1 : decide (0 < x366001_1.length) = false := decide_eq_false (by omega)
      clear c18
      (first | rw [c18b0] | (simp only [i64_w, i32_w]; rw [c18b0]) | skip)
      have H' := mk0 H
      clear H
      have hnb28 := NB365_364.out
      have hnc28 := NB364_365.out
      have hnb29 := NB365_0.out
      have hnc29 := NB0_365.out
      have hcz30_0 : w17.cell? ⟨gb365, 0, none⟩ = some (.string (⟨#[99]⟩ : ByteArray)) := (blk_cell BK365.out 0).trans rfl
      have hcz30_1 : w17.cell? ⟨gb365, 1, none⟩ = some (u366001) := (blk_cell BK365.out 1).trans rfl
      have hfz30_0 := blk_frozen BK365.out 0
      have hfz30_1 := blk_frozen BK365.out 1
      obtain ⟨Ao31, co31, eo31⟩ := Kd.R_slice HO_366001.out
      subst eo31
      go_wp2
      go_meet
      case rel => exact ⟨_, (false), (by first | rfl | (simp; done) | (simp [*]; done)), H', ⟨by have := HK1.out; first | omega | exact Nat.le_refl _⟩, ⟨by (with_reducible repeat (first | apply r_a | apply r_n | apply r_d)); exact HO_366001.out⟩, ⟨by (with_reducible repeat (first | refine blk_drewN ?_ _ | refine blk_drew ?_ | refine blk_alloc ?_ _)); exact BK364.out⟩, ⟨by (with_reducible repeat (first | refine blk_drewN ?_ _ | refine blk_drew ?_ | refine blk_alloc ?_ _)); exact BK365.out⟩, ⟨by repeat (first | (with_reducible first | exact HI0.out | apply IsS25.alloc | apply IsS25.drewN | apply IsS25.drew | apply IsS25.set_1 | refine IsS25.far ?_ NB0_364.out _ | refine IsS25.far ?_ NB0_365.out _) | exact HI0.out)⟩, ⟨by repeat (first | (with_reducible first | exact HK.out | apply KeepBut.set_ | apply keep_drewN | apply keep_drew | apply keep_alloc | refine keep_far ?_ GW364.out _ | refine keep_far ?_ GW365.out _) | exact HK.out)⟩, ⟨by repeat (first | (with_reducible first | exact HB.out | apply b_a | apply b_n | apply b_d | refine below_set ?_ (IsS25.ge HI0.out) | refine below_set ?_ GE364.out | refine below_set ?_ GE365.out) | exact HB.out)⟩⟩
    case rest =>
     clear HC12
     try clear c1
     try clear c2
     try clear p2
     try clear p3
     try clear q3
     try clear hx3
     try clear c5
     try clear c6
     try clear p6
     try clear c9
     try clear c9b0
     try clear c13
     try clear c18
     try clear c18b0
     try clear c18b1
     try clear c20
     try clear c20b0
     try clear c21
     try clear c21b0
     try clear c23
     try clear c24
     try clear c28
     try clear c29
     try clear hcz25_0
     try clear hcz25_1
     try clear hcz30_0
     try clear hcz30_1
     try clear hcz7_0
     try clear hcz7_1
     try clear hfz25_0
     try clear hfz25_1
     try clear hfz30_0
     try clear hfz30_1
     try clear hfz7_0
     try clear hfz7_1
     try clear hx375_0
     try clear p2
     try clear p375
     try clear p6
     try clear q375
     obtain ⟨kq, x50_51, rfl, HA, HJ51, HO_366001, BK364, BK365, HI0, HK, HB⟩ := hcut
     cases kq with
     | zero => exact absurd HA.out (by simp [priceofficemake_Tape_Tree.j1])
     | succ kj51 =>
      have H := HA.out
      clear HA
      simp only [priceofficemake_Tape_Tree.j1] at H
      have HC32 := mk0 H
      clear H
      go_upto_if 50 with (fail)
      go_cut [5] (fun v5 wc => ∃ (kq : Nat) (x5_71 : ByteArray), v5 = .string x5_71 ∧ Aside0 (priceofficemake_Tape_Tree.j2 kq x5_71 (wrap64 (1 + t366)) x20_1 s0_0 t369 (⟨#[99]⟩ : ByteArray) x366001_1 = some (r1, r2, r3)) ∧ Aside0 (kq ≤ kj51) ∧ Aside0 (Kd.R Kd.string 9 wc w.heap.size (fun _ => True) u366001 x366001_1) ∧ Aside0 (wc.heap[gb364]? = some (.cells #[.string (⟨#[]⟩ : ByteArray), (.slice none 0 0)] 28 (0, 0))) ∧ Aside0 (wc.heap[gb365]? = some (.cells #[.string (⟨#[99]⟩ : ByteArray), u366001] 28 (0, 0))) ∧ Aside0 (IsS25 w0 wc g s0_0 t369) ∧ Aside0 (KeepBut w wc g none) ∧ Aside0 (Below w0.heap.size w0 wc))
      case first =>
       have H := HC32.out
       clear HC32
       by_cases c33 : x50_51 = true
       ·subst c33
        have H1 : ((priceofficeref06_Format.f kj51 (([wrap64 (30 + x20_1)] : List Int))).bind fun bt380 => (priceofficemake_Tape_Tree.j2 kj51 bt380.1 (wrap64 (1 + t366)) x20_1 s0_0 t369 (⟨#[99]⟩ : ByteArray) x366001_1)) = some (r1, r2, r3) := by rw [if_pos rfl] at H; exact H
        clear H
        have H := H1
        clear H1
        obtain ⟨y377, hy377⟩ : ∃ y_ : List Int, y_ = (([wrap64 (30 + x20_1)] : List Int)) := ⟨_, rfl⟩
        replace H : ((priceofficeref06_Format.f kj51 y377).bind fun bt380 => (priceofficemake_Tape_Tree.j2 kj51 bt380.1 (wrap64 (1 + t366)) x20_1 s0_0 t369 (⟨#[99]⟩ : ByteArray) x366001_1)) = some (r1, r2, r3) := by first | (rw [hy377]; with_reducible exact H) | (have H2_ := (Option.bind_some _ _).symm.trans H; rw [hy377]; with_reducible exact H2_) | (have H2_ := (Option.bind_some _ _).symm.trans H; with_reducible exact H2_) | with_reducible exact H | (rw [hy377]; exact H) | exact H
        have Ny377 := mk0 hy377
        clear hy377
        replace H := Option.bind_eq_some_iff.mp H
        obtain ⟨⟨t380, t381⟩, A340, H⟩ := H
        replace H : (priceofficemake_Tape_Tree.j2 kj51 t380 (wrap64 (1 + t366)) x20_1 s0_0 t369 (⟨#[99]⟩ : ByteArray) x366001_1) = some (r1, r2, r3) := H
        have A34 := mk0 A340
        clear A340
        have H' := mk0 H
        clear H
        go_wp2_with (first | ((with_reducible refine gate_dst (N := 54) rfl ?_); refine Kd.R_lit (Kd.int .i64) _ 3 ?hg (N := 54) ?hd (xs := ([wrap64 (30 + x20_1)] : List Int)) (inner := [.int .i64 (wrap64 (30 + x20_1))]) (ok := fun _ => True) (okp := fun _ => True) ?hr ?hp (fun _ hk => hk) trivial (Below.refl _ _) (Nat.le_refl _) (by simp) ?_; (case hd => rfl); (case hg => rfl); (case hr => first | (go_simp; done) | (go_simp; rfl)); (case hp => exact (Reps.one (show Kd.M (Kd.int .i64) _ _ _ (wrap64 (30 + x20_1)) [.int .i64 (wrap64 (30 + x20_1))] from rfl) (Reps.none _ _))); intro v378 w35 ho36 hb hg_ hnew_; clear hg_ hnew_; (first | rw [← Ny377.out] at ho36 | (simp only [Int.reduceToNat] at ho36; rw [← Ny377.out] at ho36)); have n0_ := mk0 (Kd.R_below (by (with_reducible repeat (first | apply r_a | apply r_n | apply r_d)); exact HO_366001.out) hb); have n1_ := mk0 (Kd.R_lower ho36 (keep_size (w := w) (g := g) (row := none) (by repeat (first | (with_reducible first | exact HK.out | apply KeepBut.set_ | apply keep_drewN | apply keep_drew | apply keep_alloc | refine keep_far ?_ GW364.out _ | refine keep_far ?_ GW365.out _) | exact HK.out)))); have n2_ := mk0 (blk_below (g := gb364) (o := .cells #[.string (⟨#[]⟩ : ByteArray), .slice none 0 0] 28 (0, 0)) (by (with_reducible repeat (first | refine blk_drewN ?_ _ | refine blk_drew ?_ | refine blk_alloc ?_ _)); exact BK364.out) hb); have n3_ := mk0 (blk_below (g := gb365) (o := .cells #[.string (⟨#[99]⟩ : ByteArray), u366001] 28 (0, 0)) (by (with_reducible repeat (first | refine blk_drewN ?_ _ | refine blk_drew ?_ | refine blk_alloc ?_ _)); exact BK365.out) hb); have n4_ := mk0 (IsS25.below (by repeat (first | (with_reducible first | exact HI0.out | apply IsS25.alloc | apply IsS25.drewN | apply IsS25.drew | apply IsS25.set_1 | refine IsS25.far ?_ NB0_364.out _ | refine IsS25.far ?_ NB0_365.out _) | exact HI0.out)) hb); have n5_ := mk0 (KeepBut.trans (by repeat (first | (with_reducible first | exact HK.out | apply KeepBut.set_ | apply keep_drewN | apply keep_drew | apply keep_alloc | refine keep_far ?_ GW364.out _ | refine keep_far ?_ GW365.out _) | exact HK.out)) (KeepBut.of_below hb g none) (.inl rfl)); have n6_ := mk0 (below_step (by repeat (first | (with_reducible first | exact HB.out | apply b_a | apply b_n | apply b_d | refine below_set ?_ (IsS25.ge HI0.out) | refine below_set ?_ GE364.out | refine below_set ?_ GE365.out) | exact HB.out)) hb); clear HO_366001; clear BK364; clear BK365; clear HI0; clear HK; clear HB; have HO_366001 := n0_; have HO379 := n1_; have BK364 := n2_; have BK365 := n3_; have HI0 := n4_; have HK := n5_; have HB := n6_; clear n0_ n1_ n2_ n3_ n4_ n5_ n6_; clear hb ho36; obtain ⟨Ao37, co37, eo37⟩ := Kd.R_slice HO379.out; subst eo37) | ((with_reducible refine gate_callee (f := 29) rfl ?_); refine goesL_ (some 55) rfl rfl Tryd.func29 (by kernel_rfl) rfl #[.slice Ao37 y377.length co37] rfl (by (try simp only [List.map_toArray, List.map_cons, List.map_nil]); first | done | rfl | (simp only [List.length_drop, List.length_take]; rfl)) ?_; (with_reducible refine (priceofficeref06_Format.calls kj51 _ _ y377 t380 t381 _ ?side1 ?side2 A34.out).mono ?_); (case side1 => repeat (first | exact (Kd.R_reads' HO379.out).2.2 | (with_reducible refine Kd.C_alloc ?_ _) | (with_reducible refine Kd.C_drewN ?_ _) | (with_reducible refine Kd.C_drew ?_))); (case side2 => exact (Kd.R_reads' HO379.out).2.1); rintro e w38 ⟨rfl, hb⟩; refine ⟨_, rfl, ?_⟩; have n0_ := mk0 (Kd.R_below (by (with_reducible repeat (first | apply r_a | apply r_n | apply r_d)); exact HO_366001.out) hb); have n1_ := mk0 (Kd.R_below (by (with_reducible repeat (first | apply r_a | apply r_n | apply r_d)); exact HO379.out) hb); have n2_ := mk0 (blk_below (g := gb364) (o := .cells #[.string (⟨#[]⟩ : ByteArray), .slice none 0 0] 28 (0, 0)) (by (with_reducible repeat (first | refine blk_drewN ?_ _ | refine blk_drew ?_ | refine blk_alloc ?_ _)); exact BK364.out) hb); have n3_ := mk0 (blk_below (g := gb365) (o := .cells #[.string (⟨#[99]⟩ : ByteArray), u366001] 28 (0, 0)) (by (with_reducible repeat (first | refine blk_drewN ?_ _ | refine blk_drew ?_ | refine blk_alloc ?_ _)); exact BK365.out) hb); have n4_ := mk0 (IsS25.below (by repeat (first | (with_reducible first | exact HI0.out | apply IsS25.alloc | apply IsS25.drewN | apply IsS25.drew | apply IsS25.set_1 | refine IsS25.far ?_ NB0_364.out _ | refine IsS25.far ?_ NB0_365.out _) | exact HI0.out)) hb); have n5_ := mk0 (KeepBut.trans (by repeat (first | (with_reducible first | exact HK.out | apply KeepBut.set_ | apply keep_drewN | apply keep_drew | apply keep_alloc | refine keep_far ?_ GW364.out _ | refine keep_far ?_ GW365.out _) | exact HK.out)) (KeepBut.of_below hb g none) (.inl rfl)); have n6_ := mk0 (below_step (by repeat (first | (with_reducible first | exact HB.out | apply b_a | apply b_n | apply b_d | refine below_set ?_ (IsS25.ge HI0.out) | refine below_set ?_ GE364.out | refine below_set ?_ GE365.out) | exact HB.out)) hb); clear HO_366001; clear HO379; clear BK364; clear BK365; clear HI0; clear HK; clear HB; have HO_366001 := n0_; have HO379 := n1_; have BK364 := n2_; have BK365 := n3_; have HI0 := n4_; have HK := n5_; have HB := n6_; clear n0_ n1_ n2_ n3_ n4_ n5_ n6_; (try clear hb); (try clear hb2); (try clear hk); (try clear hi)))
        go_meet
        case rel => exact ⟨_, (t380), (by first | rfl | (simp; done) | (simp [*]; done)), H', ⟨by have := HK1.out; have := HJ51.out; first | omega | exact Nat.le_refl _⟩, ⟨by (with_reducible repeat (first | apply r_a | apply r_n | apply r_d)); exact HO_366001.out⟩, ⟨by (with_reducible repeat (first | refine blk_drewN ?_ _ | refine blk_drew ?_ | refine blk_alloc ?_ _)); exact BK364.out⟩, ⟨by (with_reducible repeat (first | refine blk_drewN ?_ _ | refine blk_drew ?_ | refine blk_alloc ?_ _)); exact BK365.out⟩, ⟨by repeat (first | (with_reducible first | exact HI0.out | apply IsS25.alloc | apply IsS25.drewN | apply IsS25.drew | apply IsS25.set_1 | refine IsS25.far ?_ NB0_364.out _ | refine IsS25.far ?_ NB0_365.out _) | exact HI0.out)⟩, ⟨by repeat (first | (with_reducible first | exact HK.out | apply KeepBut.set_ | apply keep_drewN | apply keep_drew | apply keep_alloc | refine keep_far ?_ GW364.out _ | refine keep_far ?_ GW365.out _) | exact HK.out)⟩, ⟨by repeat (first | (with_reducible first | exact HB.out | apply b_a | apply b_n | apply b_d | refine below_set ?_ (IsS25.ge HI0.out) | refine below_set ?_ GE364.out | refine below_set ?_ GE365.out) | exact HB.out)⟩⟩
       ·replace c33 := Bool.eq_false_iff.mpr c33
        subst c33
        have H1 : (priceofficemake_Tape_Tree.j2 kj51 t373 (wrap64 (1 + t366)) x20_1 s0_0 t369 (⟨#[99]⟩ : ByteArray) x366001_1) = some (r1, r2, r3) := by rw [if_neg (show ¬ (false = true) by decide)] at H; exact H
        clear H
        have H := H1
        clear H1
        have H' := mk0 H
        clear H
        go_wp2
        go_meet
        case rel => exact ⟨_, (t373), (by first | rfl | (simp; done) | (simp [*]; done)), H', ⟨by have := HK1.out; have := HJ51.out; first | omega | exact Nat.le_refl _⟩, ⟨by (with_reducible repeat (first | apply r_a | apply r_n | apply r_d)); exact HO_366001.out⟩, ⟨by (with_reducible repeat (first | refine blk_drewN ?_ _ | refine blk_drew ?_ | refine blk_alloc ?_ _)); exact BK364.out⟩, ⟨by (with_reducible repeat (first | refine blk_drewN ?_ _ | refine blk_drew ?_ | refine blk_alloc ?_ _)); exact BK365.out⟩, ⟨by repeat (first | (with_reducible first | exact HI0.out | apply IsS25.alloc | apply IsS25.drewN | apply IsS25.drew | apply IsS25.set_1 | refine IsS25.far ?_ NB0_364.out _ | refine IsS25.far ?_ NB0_365.out _) | exact HI0.out)⟩, ⟨by repeat (first | (with_reducible first | exact HK.out | apply KeepBut.set_ | apply keep_drewN | apply keep_drew | apply keep_alloc | refine keep_far ?_ GW364.out _ | refine keep_far ?_ GW365.out _) | exact HK.out)⟩, ⟨by repeat (first | (with_reducible first | exact HB.out | apply b_a | apply b_n | apply b_d | refine below_set ?_ (IsS25.ge HI0.out) | refine below_set ?_ GE364.out | refine below_set ?_ GE365.out) | exact HB.out)⟩⟩
      case rest =>
       clear HC32
       try clear c1
       try clear c2
       try clear p2
       try clear c3
       try clear p3
       try clear q3
       try clear hx3
       try clear c5
       try clear c6
       try clear p6
       try clear c9
       try clear c9b0
       try clear c13
       try clear c18
       try clear c18b0
       try clear c18b1
       try clear c20
       try clear c20b0
       try clear c21
       try clear c21b0
       try clear c23
       try clear c24
       try clear c28
       try clear c29
       try clear c33
       try clear p37
       try clear q37
       try clear hx37
       try clear hcz25_0
       try clear hcz25_1
       try clear hcz30_0
       try clear hcz30_1
       try clear hcz7_0
       try clear hcz7_1
       try clear hfz25_0
       try clear hfz25_1
       try clear hfz30_0
       try clear hfz30_1
       try clear hfz7_0
       try clear hfz7_1
       try clear hx375_0
       try clear p2
       try clear p3
       try clear p375
       try clear p6
       try clear q3
       try clear q375
       obtain ⟨kq, x5_71, rfl, HA, HJ71, HO_366001, BK364, BK365, HI0, HK, HB⟩ := hcut
       cases kq with
       | zero => exact absurd HA.out (by simp [priceofficemake_Tape_Tree.j2])
       | succ kj71 =>
        have H := HA.out
        clear HA
        simp only [priceofficemake_Tape_Tree.j2] at H
        by_cases c39 : x366001_1.length < 8796093022208
        ·rw [if_pos c39] at H
         have LMc39 := mk0 c39
         clear c39
         obtain ⟨y382, hy382⟩ : ∃ y_ : List ByteArray, y_ = (x366001_1 ++ [x5_71]) := ⟨_, rfl⟩
         replace H : ((priceofficemake_Tape_Next.f s0_0 t369 3).bind fun bt385 => (priceofficemake_Tape_Tree.l1 kj71 x5_71 (wrap64 (1 + t366)) x20_1 bt385.1 0 s0_0 bt385.2 (⟨#[99]⟩ : ByteArray) y382)) = some (r1, r2, r3) := by first | (rw [hy382]; with_reducible exact H) | (have H2_ := (Option.bind_some _ _).symm.trans H; rw [hy382]; with_reducible exact H2_) | (have H2_ := (Option.bind_some _ _).symm.trans H; with_reducible exact H2_) | with_reducible exact H | (rw [hy382]; exact H) | exact H
         have Ny382 := mk0 hy382
         clear hy382
         replace H := Option.bind_eq_some_iff.mp H
         obtain ⟨⟨t385, t386⟩, A400, H⟩ := H
         replace H : (priceofficemake_Tape_Tree.l1 kj71 x5_71 (wrap64 (1 + t366)) x20_1 t385 0 s0_0 t386 (⟨#[99]⟩ : ByteArray) y382) = some (r1, r2, r3) := H
         have A40 := mk0 A400
         clear A400
         have H' := mk0 H
         clear H
         have hnb41 := NB365_364.out
         have hnc41 := NB364_365.out
         have hnb42 := NB365_0.out
         have hnc42 := NB0_365.out
         have hcz43_0 : wc.cell? ⟨gb365, 0, none⟩ = some (.string (⟨#[99]⟩ : ByteArray)) := (blk_cell BK365.out 0).trans rfl
         have hcz43_1 : wc.cell? ⟨gb365, 1, none⟩ = some (u366001) := (blk_cell BK365.out 1).trans rfl
         have hfz43_0 := blk_frozen BK365.out 0
         have hfz43_1 := blk_frozen BK365.out 1
         go_wp2_with (first | ((with_reducible refine gate_builtin (b := .append) (xs := #[.tmp 59, .tmp 61]) rfl ?_); at_builtin; refine Kd.R_append Kd.string w.heap.size rfl (.tmp 59) (.tmp 61) 26 9 (.string ⟨#[]⟩) 16 rfl Tryd.underlying26 info9 rfl (by decide) (by omega) u366001 x366001_1 x5_71 [.string x5_71] (fun _ => True) (fun _ => False) rfl rfl ?aP (fun _ hk => hk.elim) ?aF ?aO (Below.refl _ _) ?aS ?aL ?_; (case aP => exact rfl); (case aF => exact (fun _ _ => trivial)); (case aO => exact (by (with_reducible repeat (first | apply r_a | apply r_n | apply r_d)); exact HO_366001.out)); (case aS => exact (keep_size (w := w) (g := g) (row := none) (by repeat (first | (with_reducible first | exact HK.out | apply KeepBut.set_ | apply keep_drewN | apply keep_drew | apply keep_alloc | refine keep_far ?_ GW364.out _ | refine keep_far ?_ GW365.out _) | exact HK.out)))); (case aL => have := LMc39.out; omega); intro v383 w44 ho hb hg hat; rw [← Ny382.out] at ho; have n0_ := mk0 (blk_grown (g := gb364) (o := .cells #[.string (⟨#[]⟩ : ByteArray), .slice none 0 0] 28 (0, 0)) (by (with_reducible repeat (first | refine blk_drewN ?_ _ | refine blk_drew ?_ | refine blk_alloc ?_ _)); exact BK364.out) hg (Kd.R_ne HO_366001.out BK364.out (by decide))); have n1_ := mk0 (blk_grown (g := gb365) (o := .cells #[.string (⟨#[99]⟩ : ByteArray), u366001] 28 (0, 0)) (by (with_reducible repeat (first | refine blk_drewN ?_ _ | refine blk_drew ?_ | refine blk_alloc ?_ _)); exact BK365.out) hg (Kd.R_ne HO_366001.out BK365.out (by decide))); have n2_ := mk0 (IsS25.grown (by repeat (first | (with_reducible first | exact HI0.out | apply IsS25.alloc | apply IsS25.drewN | apply IsS25.drew | apply IsS25.set_1 | refine IsS25.far ?_ NB0_364.out _ | refine IsS25.far ?_ NB0_365.out _) | exact HI0.out)) hg (IsS25.own_ne HI0.out HO_366001.out (by decide))); have n3_ := mk0 (below_weaken (by repeat (first | (with_reducible first | exact HB.out | apply b_a | apply b_n | apply b_d | refine below_set ?_ (IsS25.ge HI0.out) | refine below_set ?_ GE364.out | refine below_set ?_ GE365.out) | exact HB.out)) HL.out hb); have n4_ := mk0 (KeepBut.trans (by repeat (first | (with_reducible first | exact HK.out | apply KeepBut.set_ | apply keep_drewN | apply keep_drew | apply keep_alloc | refine keep_far ?_ GW364.out _ | refine keep_far ?_ GW365.out _) | exact HK.out)) (KeepBut.of_grown hg g) (Kd.R_base2 HO_366001.out)); have n5_ := mk0 (ho); clear BK364; clear BK365; clear HI0; clear HB; clear HK; clear HO_366001; have BK364 := n0_; have BK365 := n1_; have HI0 := n2_; have HB := n3_; have HK := n4_; have HO384 := n5_; clear n0_ n1_ n2_ n3_ n4_ n5_; clear ho hb hg hat; obtain ⟨Ao45, co45, eo45⟩ := Kd.R_slice HO384.out; subst eo45; have hcz46_0 : w44.cell? ⟨gb365, 0, none⟩ = some (.string (⟨#[99]⟩ : ByteArray)) := (blk_cell BK365.out 0).trans rfl; have hcz46_1 : w44.cell? ⟨gb365, 1, none⟩ = some (u366001) := (blk_cell BK365.out 1).trans rfl; have hfz46_0 := blk_frozen BK365.out 0; have hfz46_1 := blk_frozen BK365.out 1) | ((with_reducible refine gate_callee (f := 18) rfl ?_); refine goesL_ (some 65) rfl rfl Tryd.func18 (by kernel_rfl) rfl #[.pointer (some ⟨g, 0, none⟩), .int .i64 3] rfl (by (try simp only [List.map_toArray, List.map_cons, List.map_nil]); first | done | rfl | (simp only [List.length_drop, List.length_take]; rfl)) ?_; (with_reducible refine (priceofficemake_Tape_Next.calls g s0_0 t369 3 t385 t386 w0 _ ?side1 ?side2 A40.out).mono ?_); (case side1 => repeat (first | (with_reducible first | exact HI0.out | apply IsS25.alloc | apply IsS25.drewN | apply IsS25.drew | apply IsS25.set_1 | refine IsS25.far ?_ NB0_364.out _ | refine IsS25.far ?_ NB0_365.out _) | exact HI0.out)); (case side2 => repeat (first | (with_reducible first | exact HB.out | apply b_a | apply b_n | apply b_d | refine below_set ?_ (IsS25.ge HI0.out) | refine below_set ?_ GE364.out | refine below_set ?_ GE365.out) | exact HB.out)); rintro e w47 ⟨rfl, hi, hb, hk⟩; refine ⟨_, rfl, ?_⟩; have n0_ := mk0 (KeepBut.blk hk (g' := gb364) (o := .cells #[.string (⟨#[]⟩ : ByteArray), .slice none 0 0] 28 (0, 0)) (by (with_reducible repeat (first | refine blk_drewN ?_ _ | refine blk_drew ?_ | refine blk_alloc ?_ _)); refine blk_far ?_ NB364_365.out _; (with_reducible repeat (first | refine blk_drewN ?_ _ | refine blk_drew ?_ | refine blk_alloc ?_ _)); exact BK364.out) NB364_0.out (by simp)); have n1_ := mk0 (KeepBut.blk hk (g' := gb365) (o := .cells #[.string (⟨#[99]⟩ : ByteArray), .slice Ao45 y382.length co45] 28 (0, 0)) (by (with_reducible repeat (first | refine blk_drewN ?_ _ | refine blk_drew ?_ | refine blk_alloc ?_ _)); refine blk_put (cs := #[.string (⟨#[99]⟩ : ByteArray), u366001]) ?_ 1 _ rfl; (with_reducible repeat (first | refine blk_drewN ?_ _ | refine blk_drew ?_ | refine blk_alloc ?_ _)); exact BK365.out) NB365_0.out (by simp)); have n2_ := mk0 (Kd.R_mono (Kd.R_keep (IsS25.apart (show IsS25 w0 _ g s0_0 t369 from by repeat (first | (with_reducible first | exact HI0.out | apply IsS25.alloc | apply IsS25.drewN | apply IsS25.drew | apply IsS25.set_1 | refine IsS25.far ?_ NB0_364.out _ | refine IsS25.far ?_ NB0_365.out _) | exact HI0.out)) (by (with_reducible repeat (first | apply r_a | apply r_n | apply r_d)); exact (Kd.R_mono (Kd.R_far (p := ⟨gb365, 1, none⟩) (Kd.R_types HO384.out BK365.out (by decide)) (fun _ hk => hk.2) (.slice Ao45 y382.length co45)) (fun _ h_ => h_.1))) (by decide)) hk (fun _ h => h.2)) (fun _ h => h.1)); have n3_ := mk0 (KeepBut.trans (by repeat (first | (with_reducible first | exact HK.out | apply KeepBut.set_ | apply keep_drewN | apply keep_drew | apply keep_alloc | refine keep_far ?_ GW364.out _ | refine keep_far ?_ GW365.out _) | exact HK.out)) hk (.inl rfl)); have n4_ := mk0 (hb); have n5_ := mk0 (hi); clear BK364; clear BK365; clear HO384; clear HK; clear HB; clear HI0; have BK364 := n0_; have BK365 := n1_; have HO384 := n2_; have HK := n3_; have HB := n4_; have HI0 := n5_; clear n0_ n1_ n2_ n3_ n4_ n5_; (try clear hb); (try clear hb2); (try clear hk); (try clear hi)))
         go_loopg [66] kj71 (fun kq v66 w' => ∃ (x66_4 : Int) (x1001_4 : Int) (x366001_4 : List ByteArray) (u366001 : Value), v66 = .int .i64 x66_4 ∧ Aside0 (priceofficemake_Tape_Tree.l1 kq x5_71 (wrap64 (1 + t366)) x20_1 t385 x66_4 s0_0 x1001_4 (⟨#[99]⟩ : ByteArray) x366001_4 = some (r1, r2, r3)) ∧ Aside0 (kq ≤ kj71) ∧ Aside0 (Kd.R Kd.string 9 w' w.heap.size (fun _ => True) u366001 x366001_4) ∧ Aside0 (w'.heap[gb364]? = some (.cells #[.string (⟨#[]⟩ : ByteArray), (.slice none 0 0)] 28 (0, 0))) ∧ Aside0 (w'.heap[gb365]? = some (.cells #[.string (⟨#[99]⟩ : ByteArray), u366001] 28 (0, 0))) ∧ Aside0 (IsS25 w0 w' g s0_0 x1001_4) ∧ Aside0 (KeepBut w w' g none) ∧ Aside0 (Below w0.heap.size w0 w'))
         case atStart => exact ⟨(0), (t386), (y382), (.slice Ao45 y382.length co45), (by first | rfl | (simp; done) | (simp [*]; done)), H', ⟨Nat.le_refl _⟩, ⟨by (with_reducible repeat (first | apply r_a | apply r_n | apply r_d)); exact HO384.out⟩, ⟨by (with_reducible repeat (first | refine blk_drewN ?_ _ | refine blk_drew ?_ | refine blk_alloc ?_ _)); exact BK364.out⟩, ⟨by (with_reducible repeat (first | refine blk_drewN ?_ _ | refine blk_drew ?_ | refine blk_alloc ?_ _)); exact BK365.out⟩, ⟨by repeat (first | (with_reducible first | exact HI0.out | apply IsS25.alloc | apply IsS25.drewN | apply IsS25.drew | apply IsS25.set_1 | refine IsS25.far ?_ NB0_364.out _ | refine IsS25.far ?_ NB0_365.out _) | exact HI0.out)⟩, ⟨by repeat (first | (with_reducible first | exact HK.out | apply KeepBut.set_ | apply keep_drewN | apply keep_drew | apply keep_alloc | refine keep_far ?_ GW364.out _ | refine keep_far ?_ GW365.out _) | exact HK.out)⟩, ⟨by repeat (first | (with_reducible first | exact HB.out | apply b_a | apply b_n | apply b_d | refine below_set ?_ (IsS25.ge HI0.out) | refine below_set ?_ GE364.out | refine below_set ?_ GE365.out) | exact HB.out)⟩⟩
         case round =>
          clear H'
          try clear c1
          try clear c2
          try clear p2
          try clear c3
          try clear p3
          try clear q3
          try clear hx3
          try clear c4
          try clear c5
          try clear c6
          try clear p6
          try clear c9
          try clear c9b0
          try clear c13
          try clear c18
          try clear c18b0
          try clear c18b1
          try clear c20
          try clear c20b0
          try clear c21
          try clear c21b0
          try clear c23
          try clear c24
          try clear c28
          try clear c29
          try clear c33
          try clear p37
          try clear q37
          try clear hx37
          try clear c39
          try clear c41
          try clear c42
          try clear hcz25_0
          try clear hcz25_1
          try clear hcz30_0
          try clear hcz30_1
          try clear hcz43_0
          try clear hcz43_1
          try clear hcz46_0
          try clear hcz46_1
          try clear hcz7_0
          try clear hcz7_1
          try clear hfz25_0
          try clear hfz25_1
          try clear hfz30_0
          try clear hfz30_1
          try clear hfz43_0
          try clear hfz43_1
          try clear hfz46_0
          try clear hfz46_1
          try clear hfz7_0
          try clear hfz7_1
          try clear hx375_0
          try clear p2
          try clear p3
          try clear p37
          try clear p375
          try clear p6
          try clear q3
          try clear q37
          try clear q375
          obtain ⟨x66_4, x1001_4, x366001_4, u366001, rfl, HA, HK4, HO_366001, BK364, BK365, HI0, HK, HB⟩ := hrel
          cases gk with
          | zero => exact absurd HA.out (by simp [priceofficemake_Tape_Tree.l1])
          | succ k4 =>
           have H := HA.out
           clear HA
           simp only [priceofficemake_Tape_Tree.l1] at H
           by_cases c48 : x66_4 < t385
           ·rw [if_pos c48] at H
            have c48b0 : decide (x66_4 < t385) = true := decide_eq_true c48
            clear c48
            replace H := Option.bind_eq_some_iff.mp H
            obtain ⟨⟨t387, t388⟩, A490, H⟩ := H
            replace H : (if t387.length < 17592186044416 then ((priceofficeref06_Format.f k4 (t387 ++ [wrap64 (1 + (wrap64 (x66_4 * 9)))])).bind fun bt394 => (if x366001_4.length < 8796093022208 then ((some (x366001_4 ++ [bt394.1] : List ByteArray)).bind fun y396 => ((priceofficemake_Tape_Next.f s0_0 x1001_4 3).bind fun bt399 => (if bt399.1 = 0 then ((priceofficeref06_Parse.f k4 bt394.1).bind fun bt401 => ((priceofficemake_Tape_Next.f s0_0 bt399.2 99).bind fun bt405 => (if bt401.1.length < 17592186044416 then ((priceofficeref06_Format.f k4 (bt401.1 ++ [wrap64 (1 + bt405.1)])).bind fun bt410 => (if y396.length < 8796093022208 then (priceofficemake_Tape_Tree.l1 k4 x5_71 (wrap64 (1 + t366)) x20_1 t385 (wrap64 (x66_4 + 1)) s0_0 bt405.2 (⟨#[99]⟩ : ByteArray) (y396 ++ [bt410.1])) else (none))) else (none)))) else (priceofficemake_Tape_Tree.l1 k4 x5_71 (wrap64 (1 + t366)) x20_1 t385 (wrap64 (x66_4 + 1)) s0_0 bt399.2 (⟨#[99]⟩ : ByteArray) y396)))) else (none))) else (none)) = some (r1, r2, r3) := H
            have A49 := mk0 A490
            clear A490
            by_cases c50 : t387.length < 17592186044416
            ·rw [if_pos c50] at H
             have LMc50 := mk0 c50
             clear c50
             obtain ⟨y391, hy391⟩ : ∃ y_ : List Int, y_ = (t387 ++ [wrap64 (1 + (wrap64 (x66_4 * 9)))]) := ⟨_, rfl⟩
             replace H : ((priceofficeref06_Format.f k4 y391).bind fun bt394 => (if x366001_4.length < 8796093022208 then ((some (x366001_4 ++ [bt394.1] : List ByteArray)).bind fun y396 => ((priceofficemake_Tape_Next.f s0_0 x1001_4 3).bind fun bt399 => (if bt399.1 = 0 then ((priceofficeref06_Parse.f k4 bt394.1).bind fun bt401 => ((priceofficemake_Tape_Next.f s0_0 bt399.2 99).bind fun bt405 => (if bt401.1.length < 17592186044416 then ((priceofficeref06_Format.f k4 (bt401.1 ++ [wrap64 (1 + bt405.1)])).bind fun bt410 => (if y396.length < 8796093022208 then (priceofficemake_Tape_Tree.l1 k4 x5_71 (wrap64 (1 + t366)) x20_1 t385 (wrap64 (x66_4 + 1)) s0_0 bt405.2 (⟨#[99]⟩ : ByteArray) (y396 ++ [bt410.1])) else (none))) else (none)))) else (priceofficemake_Tape_Tree.l1 k4 x5_71 (wrap64 (1 + t366)) x20_1 t385 (wrap64 (x66_4 + 1)) s0_0 bt399.2 (⟨#[99]⟩ : ByteArray) y396)))) else (none))) = some (r1, r2, r3) := by first | (rw [hy391]; with_reducible exact H) | (have H2_ := (Option.bind_some _ _).symm.trans H; rw [hy391]; with_reducible exact H2_) | (have H2_ := (Option.bind_some _ _).symm.trans H; with_reducible exact H2_) | with_reducible exact H | (rw [hy391]; exact H) | exact H
             have Ny391 := mk0 hy391
             clear hy391
             replace H := Option.bind_eq_some_iff.mp H
             obtain ⟨⟨t394, t395⟩, A510, H⟩ := H
             replace H : (if x366001_4.length < 8796093022208 then ((some (x366001_4 ++ [t394] : List ByteArray)).bind fun y396 => ((priceofficemake_Tape_Next.f s0_0 x1001_4 3).bind fun bt399 => (if bt399.1 = 0 then ((priceofficeref06_Parse.f k4 t394).bind fun bt401 => ((priceofficemake_Tape_Next.f s0_0 bt399.2 99).bind fun bt405 => (if bt401.1.length < 17592186044416 then ((priceofficeref06_Format.f k4 (bt401.1 ++ [wrap64 (1 + bt405.1)])).bind fun bt410 => (if y396.length < 8796093022208 then (priceofficemake_Tape_Tree.l1 k4 x5_71 (wrap64 (1 + t366)) x20_1 t385 (wrap64 (x66_4 + 1)) s0_0 bt405.2 (⟨#[99]⟩ : ByteArray) (y396 ++ [bt410.1])) else (none))) else (none)))) else (priceofficemake_Tape_Tree.l1 k4 x5_71 (wrap64 (1 + t366)) x20_1 t385 (wrap64 (x66_4 + 1)) s0_0 bt399.2 (⟨#[99]⟩ : ByteArray) y396)))) else (none)) = some (r1, r2, r3) := H
             have A51 := mk0 A510
             clear A510
             by_cases c52 : x366001_4.length < 8796093022208
             ·rw [if_pos c52] at H
              have LMc52 := mk0 c52
              clear c52
              obtain ⟨y396, hy396⟩ : ∃ y_ : List ByteArray, y_ = (x366001_4 ++ [t394]) := ⟨_, rfl⟩
              replace H : ((priceofficemake_Tape_Next.f s0_0 x1001_4 3).bind fun bt399 => (if bt399.1 = 0 then ((priceofficeref06_Parse.f k4 t394).bind fun bt401 => ((priceofficemake_Tape_Next.f s0_0 bt399.2 99).bind fun bt405 => (if bt401.1.length < 17592186044416 then ((priceofficeref06_Format.f k4 (bt401.1 ++ [wrap64 (1 + bt405.1)])).bind fun bt410 => (if y396.length < 8796093022208 then (priceofficemake_Tape_Tree.l1 k4 x5_71 (wrap64 (1 + t366)) x20_1 t385 (wrap64 (x66_4 + 1)) s0_0 bt405.2 (⟨#[99]⟩ : ByteArray) (y396 ++ [bt410.1])) else (none))) else (none)))) else (priceofficemake_Tape_Tree.l1 k4 x5_71 (wrap64 (1 + t366)) x20_1 t385 (wrap64 (x66_4 + 1)) s0_0 bt399.2 (⟨#[99]⟩ : ByteArray) y396))) = some (r1, r2, r3) := by first | (rw [hy396]; with_reducible exact H) | (have H2_ := (Option.bind_some _ _).symm.trans H; rw [hy396]; with_reducible exact H2_) | (have H2_ := (Option.bind_some _ _).symm.trans H; with_reducible exact H2_) | with_reducible exact H | (rw [hy396]; exact H) | exact H
              have Ny396 := mk0 hy396
              clear hy396
              replace H := Option.bind_eq_some_iff.mp H
              obtain ⟨⟨t399, t400⟩, A530, H⟩ := H
              replace H : (if t399 = 0 then ((priceofficeref06_Parse.f k4 t394).bind fun bt401 => ((priceofficemake_Tape_Next.f s0_0 t400 99).bind fun bt405 => (if bt401.1.length < 17592186044416 then ((priceofficeref06_Format.f k4 (bt401.1 ++ [wrap64 (1 + bt405.1)])).bind fun bt410 => (if y396.length < 8796093022208 then (priceofficemake_Tape_Tree.l1 k4 x5_71 (wrap64 (1 + t366)) x20_1 t385 (wrap64 (x66_4 + 1)) s0_0 bt405.2 (⟨#[99]⟩ : ByteArray) (y396 ++ [bt410.1])) else (none))) else (none)))) else (priceofficemake_Tape_Tree.l1 k4 x5_71 (wrap64 (1 + t366)) x20_1 t385 (wrap64 (x66_4 + 1)) s0_0 t400 (⟨#[99]⟩ : ByteArray) y396)) = some (r1, r2, r3) := H
              have A53 := mk0 A530
              clear A530
              by_cases c54 : t399 = 0
              ·rw [if_pos c54] at H
               have c54b0 : (t399 == 0) = true := beq_iff_eq.mpr c54
               have c54b1 : (t399 != 0) = false := bne_eq_false_iff_eq.mpr c54
               clear c54
               replace H := Option.bind_eq_some_iff.mp H
               obtain ⟨⟨t401, t402⟩, A550, H⟩ := H
               replace H : ((priceofficemake_Tape_Next.f s0_0 t400 99).bind fun bt405 => (if t401.length < 17592186044416 then ((priceofficeref06_Format.f k4 (t401 ++ [wrap64 (1 + bt405.1)])).bind fun bt410 => (if y396.length < 8796093022208 then (priceofficemake_Tape_Tree.l1 k4 x5_71 (wrap64 (1 + t366)) x20_1 t385 (wrap64 (x66_4 + 1)) s0_0 bt405.2 (⟨#[99]⟩ : ByteArray) (y396 ++ [bt410.1])) else (none))) else (none))) = some (r1, r2, r3) := H
               have A55 := mk0 A550
               clear A550
               replace H := Option.bind_eq_some_iff.mp H
               obtain ⟨⟨t405, t406⟩, A560, H⟩ := H
               replace H : (if t401.length < 17592186044416 then ((priceofficeref06_Format.f k4 (t401 ++ [wrap64 (1 + t405)])).bind fun bt410 => (if y396.length < 8796093022208 then (priceofficemake_Tape_Tree.l1 k4 x5_71 (wrap64 (1 + t366)) x20_1 t385 (wrap64 (x66_4 + 1)) s0_0 t406 (⟨#[99]⟩ : ByteArray) (y396 ++ [bt410.1])) else (none))) else (none)) = some (r1, r2, r3) := H
               have A56 := mk0 A560
               clear A560
               by_cases c57 : t401.length < 17592186044416
               ·rw [if_pos c57] at H
                have LMc57 := mk0 c57
                clear c57
                obtain ⟨y407, hy407⟩ : ∃ y_ : List Int, y_ = (t401 ++ [wrap64 (1 + t405)]) := ⟨_, rfl⟩
                replace H : ((priceofficeref06_Format.f k4 y407).bind fun bt410 => (if y396.length < 8796093022208 then (priceofficemake_Tape_Tree.l1 k4 x5_71 (wrap64 (1 + t366)) x20_1 t385 (wrap64 (x66_4 + 1)) s0_0 t406 (⟨#[99]⟩ : ByteArray) (y396 ++ [bt410.1])) else (none))) = some (r1, r2, r3) := by first | (rw [hy407]; with_reducible exact H) | (have H2_ := (Option.bind_some _ _).symm.trans H; rw [hy407]; with_reducible exact H2_) | (have H2_ := (Option.bind_some _ _).symm.trans H; with_reducible exact H2_) | with_reducible exact H | (rw [hy407]; exact H) | exact H
                have Ny407 := mk0 hy407
                clear hy407
                replace H := Option.bind_eq_some_iff.mp H
                obtain ⟨⟨t410, t411⟩, A580, H⟩ := H
                replace H : (if y396.length < 8796093022208 then (priceofficemake_Tape_Tree.l1 k4 x5_71 (wrap64 (1 + t366)) x20_1 t385 (wrap64 (x66_4 + 1)) s0_0 t406 (⟨#[99]⟩ : ByteArray) (y396 ++ [t410])) else (none)) = some (r1, r2, r3) := H
                have A58 := mk0 A580
                clear A580
                by_cases c59 : y396.length < 8796093022208
                ·rw [if_pos c59] at H
                 have LMc59 := mk0 c59
                 clear c59
                 obtain ⟨y412, hy412⟩ : ∃ y_ : List ByteArray, y_ = (y396 ++ [t410]) := ⟨_, rfl⟩
                 replace H : (priceofficemake_Tape_Tree.l1 k4 x5_71 (wrap64 (1 + t366)) x20_1 t385 (wrap64 (x66_4 + 1)) s0_0 t406 (⟨#[99]⟩ : ByteArray) y412) = some (r1, r2, r3) := by first | (rw [hy412]; with_reducible exact H) | (have H2_ := (Option.bind_some _ _).symm.trans H; rw [hy412]; with_reducible exact H2_) | (have H2_ := (Option.bind_some _ _).symm.trans H; with_reducible exact H2_) | with_reducible exact H | (rw [hy412]; exact H) | exact H
                 have Ny412 := mk0 hy412
                 clear hy412
                 have H' := mk0 H
                 clear H
                 go_wp2_with (first | ((with_reducible refine gate_callee (f := 26) rfl ?_); refine goesL_ (some 71) rfl rfl Tryd.func26 (by kernel_rfl) rfl #[.string x5_71] rfl (by (try simp only [List.map_toArray, List.map_cons, List.map_nil]); first | done | rfl | (simp only [List.length_drop, List.length_take]; rfl)) ?_; (with_reducible refine (priceofficeref06_Parse.calls k4 x5_71 t387 t388 _ A49.out).mono ?_); rintro e w60 ⟨v389, rfl, ho0, hb⟩; refine ⟨_, rfl, ?_⟩; have n0_ := mk0 (Kd.R_below (by (with_reducible repeat (first | apply r_a | apply r_n | apply r_d)); exact HO_366001.out) hb); have n1_ := mk0 (Kd.R_lower ho0 (keep_size (w := w) (g := g) (row := none) (by repeat (first | (with_reducible first | exact HK.out | apply KeepBut.set_ | apply keep_drewN | apply keep_drew | apply keep_alloc | refine keep_far ?_ GW364.out _ | refine keep_far ?_ GW365.out _) | exact HK.out)))); have n2_ := mk0 (blk_below (g := gb364) (o := .cells #[.string (⟨#[]⟩ : ByteArray), .slice none 0 0] 28 (0, 0)) (by (with_reducible repeat (first | refine blk_drewN ?_ _ | refine blk_drew ?_ | refine blk_alloc ?_ _)); exact BK364.out) hb); have n3_ := mk0 (blk_below (g := gb365) (o := .cells #[.string (⟨#[99]⟩ : ByteArray), u366001] 28 (0, 0)) (by (with_reducible repeat (first | refine blk_drewN ?_ _ | refine blk_drew ?_ | refine blk_alloc ?_ _)); exact BK365.out) hb); have n4_ := mk0 (IsS25.below (by repeat (first | (with_reducible first | exact HI0.out | apply IsS25.alloc | apply IsS25.drewN | apply IsS25.drew | apply IsS25.set_1 | refine IsS25.far ?_ NB0_364.out _ | refine IsS25.far ?_ NB0_365.out _) | exact HI0.out)) hb); have n5_ := mk0 (KeepBut.trans (by repeat (first | (with_reducible first | exact HK.out | apply KeepBut.set_ | apply keep_drewN | apply keep_drew | apply keep_alloc | refine keep_far ?_ GW364.out _ | refine keep_far ?_ GW365.out _) | exact HK.out)) (KeepBut.of_below hb g none) (.inl rfl)); have n6_ := mk0 (below_step (by repeat (first | (with_reducible first | exact HB.out | apply b_a | apply b_n | apply b_d | refine below_set ?_ (IsS25.ge HI0.out) | refine below_set ?_ GE364.out | refine below_set ?_ GE365.out) | exact HB.out)) hb); clear HO_366001; clear BK364; clear BK365; clear HI0; clear HK; clear HB; have HO_366001 := n0_; have HO390 := n1_; have BK364 := n2_; have BK365 := n3_; have HI0 := n4_; have HK := n5_; have HB := n6_; clear n0_ n1_ n2_ n3_ n4_ n5_ n6_; (try clear hb); (try clear hb2); (try clear hk); (try clear hi); (try clear ho0)) | ((with_reducible refine gate_builtin (b := .append) (xs := #[.tmp 75, .tmp 79]) rfl ?_); at_builtin; refine Kd.R_append (Kd.int .i64) w.heap.size rfl (.tmp 75) (.tmp 79) 22 3 (.int .i64 0) 8 rfl Tryd.underlying22 info3 rfl (by decide) (by omega) v389 t387 (wrap64 (1 + (wrap64 (x66_4 * 9)))) [.int .i64 (wrap64 (1 + (wrap64 (x66_4 * 9))))] (fun _ => True) (fun _ => False) rfl rfl ?aP (fun _ hk => hk.elim) ?aF ?aO (Below.refl _ _) ?aS ?aL ?_; (case aP => exact rfl); (case aF => exact (fun _ _ => trivial)); (case aO => exact (by (with_reducible repeat (first | apply r_a | apply r_n | apply r_d)); exact HO390.out)); (case aS => exact (keep_size (w := w) (g := g) (row := none) (by repeat (first | (with_reducible first | exact HK.out | apply KeepBut.set_ | apply keep_drewN | apply keep_drew | apply keep_alloc | refine keep_far ?_ GW364.out _ | refine keep_far ?_ GW365.out _) | exact HK.out)))); (case aL => have := LMc50.out; omega); intro v392 w61 ho hb hg hat; rw [← Ny391.out] at ho; have n0_ := mk0 (Kd.R_over' (by (with_reducible repeat (first | apply r_a | apply r_n | apply r_d)); exact HO_366001.out) (Kd.R_typed (by (with_reducible repeat (first | apply r_a | apply r_n | apply r_d)); exact HO390.out)) (by decide) hg); have n1_ := mk0 (blk_grown (g := gb364) (o := .cells #[.string (⟨#[]⟩ : ByteArray), .slice none 0 0] 28 (0, 0)) (by (with_reducible repeat (first | refine blk_drewN ?_ _ | refine blk_drew ?_ | refine blk_alloc ?_ _)); exact BK364.out) hg (Kd.R_ne HO390.out BK364.out (by decide))); have n2_ := mk0 (blk_grown (g := gb365) (o := .cells #[.string (⟨#[99]⟩ : ByteArray), u366001] 28 (0, 0)) (by (with_reducible repeat (first | refine blk_drewN ?_ _ | refine blk_drew ?_ | refine blk_alloc ?_ _)); exact BK365.out) hg (Kd.R_ne HO390.out BK365.out (by decide))); have n3_ := mk0 (IsS25.grown (by repeat (first | (with_reducible first | exact HI0.out | apply IsS25.alloc | apply IsS25.drewN | apply IsS25.drew | apply IsS25.set_1 | refine IsS25.far ?_ NB0_364.out _ | refine IsS25.far ?_ NB0_365.out _) | exact HI0.out)) hg (IsS25.own_ne HI0.out HO390.out (by decide))); have n4_ := mk0 (below_weaken (by repeat (first | (with_reducible first | exact HB.out | apply b_a | apply b_n | apply b_d | refine below_set ?_ (IsS25.ge HI0.out) | refine below_set ?_ GE364.out | refine below_set ?_ GE365.out) | exact HB.out)) HL.out hb); have n5_ := mk0 (KeepBut.trans (by repeat (first | (with_reducible first | exact HK.out | apply KeepBut.set_ | apply keep_drewN | apply keep_drew | apply keep_alloc | refine keep_far ?_ GW364.out _ | refine keep_far ?_ GW365.out _) | exact HK.out)) (KeepBut.of_grown hg g) (Kd.R_base2 HO390.out)); have n6_ := mk0 (ho); clear HO_366001; clear BK364; clear BK365; clear HI0; clear HB; clear HK; clear HO390; have HO_366001 := n0_; have BK364 := n1_; have BK365 := n2_; have HI0 := n3_; have HB := n4_; have HK := n5_; have HO393 := n6_; clear n0_ n1_ n2_ n3_ n4_ n5_ n6_; clear ho hb hg hat; obtain ⟨Ao62, co62, eo62⟩ := Kd.R_slice HO393.out; subst eo62) | ((with_reducible refine gate_callee (f := 29) rfl ?_); refine goesL_ (some 81) rfl rfl Tryd.func29 (by kernel_rfl) rfl #[.slice Ao62 y391.length co62] rfl (by (try simp only [List.map_toArray, List.map_cons, List.map_nil]); first | done | rfl | (simp only [List.length_drop, List.length_take]; rfl)) ?_; (with_reducible refine (priceofficeref06_Format.calls k4 _ _ y391 t394 t395 _ ?side1 ?side2 A51.out).mono ?_); (case side1 => repeat (first | exact (Kd.R_reads' HO393.out).2.2 | (with_reducible refine Kd.C_alloc ?_ _) | (with_reducible refine Kd.C_drewN ?_ _) | (with_reducible refine Kd.C_drew ?_))); (case side2 => exact (Kd.R_reads' HO393.out).2.1); rintro e w63 ⟨rfl, hb⟩; refine ⟨_, rfl, ?_⟩; have n0_ := mk0 (Kd.R_below (by (with_reducible repeat (first | apply r_a | apply r_n | apply r_d)); exact HO_366001.out) hb); have n1_ := mk0 (Kd.R_below (by (with_reducible repeat (first | apply r_a | apply r_n | apply r_d)); exact HO393.out) hb); have n2_ := mk0 (blk_below (g := gb364) (o := .cells #[.string (⟨#[]⟩ : ByteArray), .slice none 0 0] 28 (0, 0)) (by (with_reducible repeat (first | refine blk_drewN ?_ _ | refine blk_drew ?_ | refine blk_alloc ?_ _)); exact BK364.out) hb); have n3_ := mk0 (blk_below (g := gb365) (o := .cells #[.string (⟨#[99]⟩ : ByteArray), u366001] 28 (0, 0)) (by (with_reducible repeat (first | refine blk_drewN ?_ _ | refine blk_drew ?_ | refine blk_alloc ?_ _)); exact BK365.out) hb); have n4_ := mk0 (IsS25.below (by repeat (first | (with_reducible first | exact HI0.out | apply IsS25.alloc | apply IsS25.drewN | apply IsS25.drew | apply IsS25.set_1 | refine IsS25.far ?_ NB0_364.out _ | refine IsS25.far ?_ NB0_365.out _) | exact HI0.out)) hb); have n5_ := mk0 (KeepBut.trans (by repeat (first | (with_reducible first | exact HK.out | apply KeepBut.set_ | apply keep_drewN | apply keep_drew | apply keep_alloc | refine keep_far ?_ GW364.out _ | refine keep_far ?_ GW365.out _) | exact HK.out)) (KeepBut.of_below hb g none) (.inl rfl)); have n6_ := mk0 (below_step (by repeat (first | (with_reducible first | exact HB.out | apply b_a | apply b_n | apply b_d | refine below_set ?_ (IsS25.ge HI0.out) | refine below_set ?_ GE364.out | refine below_set ?_ GE365.out) | exact HB.out)) hb); clear HO_366001; clear HO393; clear BK364; clear BK365; clear HI0; clear HK; clear HB; have HO_366001 := n0_; have HO393 := n1_; have BK364 := n2_; have BK365 := n3_; have HI0 := n4_; have HK := n5_; have HB := n6_; clear n0_ n1_ n2_ n3_ n4_ n5_ n6_; (try clear hb); (try clear hb2); (try clear hk); (try clear hi); have hnb64 := NB365_364.out; have hnc64 := NB364_365.out; have hnb65 := NB365_0.out; have hnc65 := NB0_365.out; have hcz66_0 : w63.cell? ⟨gb365, 0, none⟩ = some (.string (⟨#[99]⟩ : ByteArray)) := (blk_cell BK365.out 0).trans rfl; have hcz66_1 : w63.cell? ⟨gb365, 1, none⟩ = some (u366001) := (blk_cell BK365.out 1).trans rfl; have hfz66_0 := blk_frozen BK365.out 0; have hfz66_1 := blk_frozen BK365.out 1) | ((with_reducible refine gate_builtin (b := .append) (xs := #[.tmp 85, .tmp 87]) rfl ?_); at_builtin; refine Kd.R_append Kd.string w.heap.size rfl (.tmp 85) (.tmp 87) 26 9 (.string ⟨#[]⟩) 16 rfl Tryd.underlying26 info9 rfl (by decide) (by omega) u366001 x366001_4 t394 [.string t394] (fun _ => True) (fun _ => False) rfl rfl ?aP (fun _ hk => hk.elim) ?aF ?aO (Below.refl _ _) ?aS ?aL ?_; (case aP => exact rfl); (case aF => exact (fun _ _ => trivial)); (case aO => exact (by (with_reducible repeat (first | apply r_a | apply r_n | apply r_d)); exact HO_366001.out)); (case aS => exact (keep_size (w := w) (g := g) (row := none) (by repeat (first | (with_reducible first | exact HK.out | apply KeepBut.set_ | apply keep_drewN | apply keep_drew | apply keep_alloc | refine keep_far ?_ GW364.out _ | refine keep_far ?_ GW365.out _) | exact HK.out)))); (case aL => have := LMc52.out; omega); intro v397 w67 ho hb hg hat; rw [← Ny396.out] at ho; have n0_ := mk0 (blk_grown (g := gb364) (o := .cells #[.string (⟨#[]⟩ : ByteArray), .slice none 0 0] 28 (0, 0)) (by (with_reducible repeat (first | refine blk_drewN ?_ _ | refine blk_drew ?_ | refine blk_alloc ?_ _)); exact BK364.out) hg (Kd.R_ne HO_366001.out BK364.out (by decide))); have n1_ := mk0 (blk_grown (g := gb365) (o := .cells #[.string (⟨#[99]⟩ : ByteArray), u366001] 28 (0, 0)) (by (with_reducible repeat (first | refine blk_drewN ?_ _ | refine blk_drew ?_ | refine blk_alloc ?_ _)); exact BK365.out) hg (Kd.R_ne HO_366001.out BK365.out (by decide))); have n2_ := mk0 (IsS25.grown (by repeat (first | (with_reducible first | exact HI0.out | apply IsS25.alloc | apply IsS25.drewN | apply IsS25.drew | apply IsS25.set_1 | refine IsS25.far ?_ NB0_364.out _ | refine IsS25.far ?_ NB0_365.out _) | exact HI0.out)) hg (IsS25.own_ne HI0.out HO_366001.out (by decide))); have n3_ := mk0 (Kd.R_over' (by (with_reducible repeat (first | apply r_a | apply r_n | apply r_d)); exact HO393.out) (Kd.R_typed (by (with_reducible repeat (first | apply r_a | apply r_n | apply r_d)); exact HO_366001.out)) (by decide) hg); have n4_ := mk0 (below_weaken (by repeat (first | (with_reducible first | exact HB.out | apply b_a | apply b_n | apply b_d | refine below_set ?_ (IsS25.ge HI0.out) | refine below_set ?_ GE364.out | refine below_set ?_ GE365.out) | exact HB.out)) HL.out hb); have n5_ := mk0 (KeepBut.trans (by repeat (first | (with_reducible first | exact HK.out | apply KeepBut.set_ | apply keep_drewN | apply keep_drew | apply keep_alloc | refine keep_far ?_ GW364.out _ | refine keep_far ?_ GW365.out _) | exact HK.out)) (KeepBut.of_grown hg g) (Kd.R_base2 HO_366001.out)); have n6_ := mk0 (ho); clear BK364; clear BK365; clear HI0; clear HO393; clear HB; clear HK; clear HO_366001; have BK364 := n0_; have BK365 := n1_; have HI0 := n2_; have HO393 := n3_; have HB := n4_; have HK := n5_; have HO398 := n6_; clear n0_ n1_ n2_ n3_ n4_ n5_ n6_; clear ho hb hg hat; obtain ⟨Ao68, co68, eo68⟩ := Kd.R_slice HO398.out; subst eo68; have hcz69_0 : w67.cell? ⟨gb365, 0, none⟩ = some (.string (⟨#[99]⟩ : ByteArray)) := (blk_cell BK365.out 0).trans rfl; have hcz69_1 : w67.cell? ⟨gb365, 1, none⟩ = some (u366001) := (blk_cell BK365.out 1).trans rfl; have hfz69_0 := blk_frozen BK365.out 0; have hfz69_1 := blk_frozen BK365.out 1) | ((with_reducible refine gate_callee (f := 18) rfl ?_); refine goesL_ (some 91) rfl rfl Tryd.func18 (by kernel_rfl) rfl #[.pointer (some ⟨g, 0, none⟩), .int .i64 3] rfl (by (try simp only [List.map_toArray, List.map_cons, List.map_nil]); first | done | rfl | (simp only [List.length_drop, List.length_take]; rfl)) ?_; (with_reducible refine (priceofficemake_Tape_Next.calls g s0_0 x1001_4 3 t399 t400 w0 _ ?side1 ?side2 A53.out).mono ?_); (case side1 => repeat (first | (with_reducible first | exact HI0.out | apply IsS25.alloc | apply IsS25.drewN | apply IsS25.drew | apply IsS25.set_1 | refine IsS25.far ?_ NB0_364.out _ | refine IsS25.far ?_ NB0_365.out _) | exact HI0.out)); (case side2 => repeat (first | (with_reducible first | exact HB.out | apply b_a | apply b_n | apply b_d | refine below_set ?_ (IsS25.ge HI0.out) | refine below_set ?_ GE364.out | refine below_set ?_ GE365.out) | exact HB.out)); rintro e w70 ⟨rfl, hi, hb, hk⟩; refine ⟨_, rfl, ?_⟩; have n0_ := mk0 (KeepBut.blk hk (g' := gb364) (o := .cells #[.string (⟨#[]⟩ : ByteArray), .slice none 0 0] 28 (0, 0)) (by (with_reducible repeat (first | refine blk_drewN ?_ _ | refine blk_drew ?_ | refine blk_alloc ?_ _)); refine blk_far ?_ NB364_365.out _; (with_reducible repeat (first | refine blk_drewN ?_ _ | refine blk_drew ?_ | refine blk_alloc ?_ _)); exact BK364.out) NB364_0.out (by simp)); have n1_ := mk0 (KeepBut.blk hk (g' := gb365) (o := .cells #[.string (⟨#[99]⟩ : ByteArray), .slice Ao68 y396.length co68] 28 (0, 0)) (by (with_reducible repeat (first | refine blk_drewN ?_ _ | refine blk_drew ?_ | refine blk_alloc ?_ _)); refine blk_put (cs := #[.string (⟨#[99]⟩ : ByteArray), u366001]) ?_ 1 _ rfl; (with_reducible repeat (first | refine blk_drewN ?_ _ | refine blk_drew ?_ | refine blk_alloc ?_ _)); exact BK365.out) NB365_0.out (by simp)); have n2_ := mk0 (Kd.R_mono (Kd.R_keep (IsS25.apart (show IsS25 w0 _ g s0_0 x1001_4 from by repeat (first | (with_reducible first | exact HI0.out | apply IsS25.alloc | apply IsS25.drewN | apply IsS25.drew | apply IsS25.set_1 | refine IsS25.far ?_ NB0_364.out _ | refine IsS25.far ?_ NB0_365.out _) | exact HI0.out)) (by (with_reducible repeat (first | apply r_a | apply r_n | apply r_d)); exact (Kd.R_mono (Kd.R_far (p := ⟨gb365, 1, none⟩) (Kd.R_types HO393.out BK365.out (by decide)) (fun _ hk => hk.2) (.slice Ao68 y396.length co68)) (fun _ h_ => h_.1))) (by decide)) hk (fun _ h => h.2)) (fun _ h => h.1)); have n3_ := mk0 (Kd.R_mono (Kd.R_keep (IsS25.apart (show IsS25 w0 _ g s0_0 x1001_4 from by repeat (first | (with_reducible first | exact HI0.out | apply IsS25.alloc | apply IsS25.drewN | apply IsS25.drew | apply IsS25.set_1 | refine IsS25.far ?_ NB0_364.out _ | refine IsS25.far ?_ NB0_365.out _) | exact HI0.out)) (by (with_reducible repeat (first | apply r_a | apply r_n | apply r_d)); exact (Kd.R_mono (Kd.R_far (p := ⟨gb365, 1, none⟩) (Kd.R_types HO398.out BK365.out (by decide)) (fun _ hk => hk.2) (.slice Ao68 y396.length co68)) (fun _ h_ => h_.1))) (by decide)) hk (fun _ h => h.2)) (fun _ h => h.1)); have n4_ := mk0 (KeepBut.trans (by repeat (first | (with_reducible first | exact HK.out | apply KeepBut.set_ | apply keep_drewN | apply keep_drew | apply keep_alloc | refine keep_far ?_ GW364.out _ | refine keep_far ?_ GW365.out _) | exact HK.out)) hk (.inl rfl)); have n5_ := mk0 (hb); have n6_ := mk0 (hi); clear BK364; clear BK365; clear HO393; clear HO398; clear HK; clear HB; clear HI0; have BK364 := n0_; have BK365 := n1_; have HO393 := n2_; have HO398 := n3_; have HK := n4_; have HB := n5_; have HI0 := n6_; clear n0_ n1_ n2_ n3_ n4_ n5_ n6_; (try clear hb); (try clear hb2); (try clear hk); (try clear hi)) | ((with_reducible refine gate_callee (f := 26) rfl ?_); refine goesL_ (some 95) rfl rfl Tryd.func26 (by kernel_rfl) rfl #[.string t394] rfl (by (try simp only [List.map_toArray, List.map_cons, List.map_nil]); first | done | rfl | (simp only [List.length_drop, List.length_take]; rfl)) ?_; (with_reducible refine (priceofficeref06_Parse.calls k4 t394 t401 t402 _ A55.out).mono ?_); rintro e w71 ⟨v403, rfl, ho0, hb⟩; refine ⟨_, rfl, ?_⟩; have n0_ := mk0 (Kd.R_elder' (by (with_reducible repeat (first | apply r_a | apply r_n | apply r_d)); exact HO393.out) (Kd.R_base ho0) hb); have n1_ := mk0 (Kd.R_below (by (with_reducible repeat (first | apply r_a | apply r_n | apply r_d)); exact HO398.out) hb); have n2_ := mk0 (Kd.R_lower (Kd.R_new' ho0 (Kd.R_lt (by (with_reducible repeat (first | apply r_a | apply r_n | apply r_d)); exact HO393.out))) (keep_size (w := w) (g := g) (row := none) (by repeat (first | (with_reducible first | exact HK.out | apply KeepBut.set_ | apply keep_drewN | apply keep_drew | apply keep_alloc | refine keep_far ?_ GW364.out _ | refine keep_far ?_ GW365.out _) | exact HK.out)))); have n3_ := mk0 (blk_below (g := gb364) (o := .cells #[.string (⟨#[]⟩ : ByteArray), .slice none 0 0] 28 (0, 0)) (by (with_reducible repeat (first | refine blk_drewN ?_ _ | refine blk_drew ?_ | refine blk_alloc ?_ _)); exact BK364.out) hb); have n4_ := mk0 (blk_below (g := gb365) (o := .cells #[.string (⟨#[99]⟩ : ByteArray), .slice Ao68 y396.length co68] 28 (0, 0)) (by (with_reducible repeat (first | refine blk_drewN ?_ _ | refine blk_drew ?_ | refine blk_alloc ?_ _)); exact BK365.out) hb); have n5_ := mk0 (IsS25.below (by repeat (first | (with_reducible first | exact HI0.out | apply IsS25.alloc | apply IsS25.drewN | apply IsS25.drew | apply IsS25.set_1 | refine IsS25.far ?_ NB0_364.out _ | refine IsS25.far ?_ NB0_365.out _) | exact HI0.out)) hb); have n6_ := mk0 (KeepBut.trans (by repeat (first | (with_reducible first | exact HK.out | apply KeepBut.set_ | apply keep_drewN | apply keep_drew | apply keep_alloc | refine keep_far ?_ GW364.out _ | refine keep_far ?_ GW365.out _) | exact HK.out)) (KeepBut.of_below hb g none) (.inl rfl)); have n7_ := mk0 (below_step (by repeat (first | (with_reducible first | exact HB.out | apply b_a | apply b_n | apply b_d | refine below_set ?_ (IsS25.ge HI0.out) | refine below_set ?_ GE364.out | refine below_set ?_ GE365.out) | exact HB.out)) hb); clear HO393; clear HO398; clear BK364; clear BK365; clear HI0; clear HK; clear HB; have HO393 := n0_; have HO398 := n1_; have HO404 := n2_; have BK364 := n3_; have BK365 := n4_; have HI0 := n5_; have HK := n6_; have HB := n7_; clear n0_ n1_ n2_ n3_ n4_ n5_ n6_ n7_; (try clear hb); (try clear hb2); (try clear hk); (try clear hi); (try clear ho0)) | ((with_reducible refine gate_callee (f := 18) rfl ?_); refine goesL_ (some 101) rfl rfl Tryd.func18 (by kernel_rfl) rfl #[.pointer (some ⟨g, 0, none⟩), .int .i64 99] rfl (by (try simp only [List.map_toArray, List.map_cons, List.map_nil]); first | done | rfl | (simp only [List.length_drop, List.length_take]; rfl)) ?_; (with_reducible refine (priceofficemake_Tape_Next.calls g s0_0 t400 99 t405 t406 w0 _ ?side1 ?side2 A56.out).mono ?_); (case side1 => repeat (first | (with_reducible first | exact HI0.out | apply IsS25.alloc | apply IsS25.drewN | apply IsS25.drew | apply IsS25.set_1 | refine IsS25.far ?_ NB0_364.out _ | refine IsS25.far ?_ NB0_365.out _) | exact HI0.out)); (case side2 => repeat (first | (with_reducible first | exact HB.out | apply b_a | apply b_n | apply b_d | refine below_set ?_ (IsS25.ge HI0.out) | refine below_set ?_ GE364.out | refine below_set ?_ GE365.out) | exact HB.out)); rintro e w72 ⟨rfl, hi, hb, hk⟩; refine ⟨_, rfl, ?_⟩; have n0_ := mk0 (KeepBut.blk hk (g' := gb364) (o := .cells #[.string (⟨#[]⟩ : ByteArray), .slice none 0 0] 28 (0, 0)) (by (with_reducible repeat (first | refine blk_drewN ?_ _ | refine blk_drew ?_ | refine blk_alloc ?_ _)); exact BK364.out) NB364_0.out (by simp)); have n1_ := mk0 (KeepBut.blk hk (g' := gb365) (o := .cells #[.string (⟨#[99]⟩ : ByteArray), .slice Ao68 y396.length co68] 28 (0, 0)) (by (with_reducible repeat (first | refine blk_drewN ?_ _ | refine blk_drew ?_ | refine blk_alloc ?_ _)); exact BK365.out) NB365_0.out (by simp)); have n2_ := mk0 (Kd.R_mono (Kd.R_keep (IsS25.apart (show IsS25 w0 _ g s0_0 t400 from by repeat (first | (with_reducible first | exact HI0.out | apply IsS25.alloc | apply IsS25.drewN | apply IsS25.drew | apply IsS25.set_1 | refine IsS25.far ?_ NB0_364.out _ | refine IsS25.far ?_ NB0_365.out _) | exact HI0.out)) (by (with_reducible repeat (first | apply r_a | apply r_n | apply r_d)); exact HO393.out) (by decide)) hk (fun _ h => h.2)) (fun _ h => h.1)); have n3_ := mk0 (Kd.R_mono (Kd.R_keep (IsS25.apart (show IsS25 w0 _ g s0_0 t400 from by repeat (first | (with_reducible first | exact HI0.out | apply IsS25.alloc | apply IsS25.drewN | apply IsS25.drew | apply IsS25.set_1 | refine IsS25.far ?_ NB0_364.out _ | refine IsS25.far ?_ NB0_365.out _) | exact HI0.out)) (by (with_reducible repeat (first | apply r_a | apply r_n | apply r_d)); exact HO398.out) (by decide)) hk (fun _ h => h.2)) (fun _ h => h.1)); have n4_ := mk0 (Kd.R_mono (Kd.R_keep (IsS25.apart (show IsS25 w0 _ g s0_0 t400 from by repeat (first | (with_reducible first | exact HI0.out | apply IsS25.alloc | apply IsS25.drewN | apply IsS25.drew | apply IsS25.set_1 | refine IsS25.far ?_ NB0_364.out _ | refine IsS25.far ?_ NB0_365.out _) | exact HI0.out)) (by (with_reducible repeat (first | apply r_a | apply r_n | apply r_d)); exact HO404.out) (by decide)) hk (fun _ h => h.2)) (fun _ h => h.1)); have n5_ := mk0 (KeepBut.trans (by repeat (first | (with_reducible first | exact HK.out | apply KeepBut.set_ | apply keep_drewN | apply keep_drew | apply keep_alloc | refine keep_far ?_ GW364.out _ | refine keep_far ?_ GW365.out _) | exact HK.out)) hk (.inl rfl)); have n6_ := mk0 (hb); have n7_ := mk0 (hi); clear BK364; clear BK365; clear HO393; clear HO398; clear HO404; clear HK; clear HB; clear HI0; have BK364 := n0_; have BK365 := n1_; have HO393 := n2_; have HO398 := n3_; have HO404 := n4_; have HK := n5_; have HB := n6_; have HI0 := n7_; clear n0_ n1_ n2_ n3_ n4_ n5_ n6_ n7_; (try clear hb); (try clear hb2); (try clear hk); (try clear hi)) | ((with_reducible refine gate_builtin (b := .append) (xs := #[.tmp 99, .tmp 103]) rfl ?_); at_builtin; refine Kd.R_append (Kd.int .i64) w.heap.size rfl (.tmp 99) (.tmp 103) 22 3 (.int .i64 0) 8 rfl Tryd.underlying22 info3 rfl (by decide) (by omega) v403 t401 (wrap64 (1 + t405)) [.int .i64 (wrap64 (1 + t405))] (fun k_ => some k_ ≠ (.slice Ao62 y391.length co62 : Value).ownBlock) (fun _ => False) rfl rfl ?aP (fun _ hk => hk.elim) ?aF ?aO (Below.refl _ _) ?aS ?aL ?_; (case aP => exact rfl); (case aF => exact (fun k_ hk => Kd.fresh' (Kd.R_lt (by (with_reducible repeat (first | apply r_a | apply r_n | apply r_d)); exact HO393.out)) k_ hk)); (case aO => exact (by (with_reducible repeat (first | apply r_a | apply r_n | apply r_d)); exact Kd.R_mono HO404.out (fun _ hk => hk.2))); (case aS => exact (keep_size (w := w) (g := g) (row := none) (by repeat (first | (with_reducible first | exact HK.out | apply KeepBut.set_ | apply keep_drewN | apply keep_drew | apply keep_alloc | refine keep_far ?_ GW364.out _ | refine keep_far ?_ GW365.out _) | exact HK.out)))); (case aL => have := LMc57.out; omega); intro v408 w73 ho hb hg hat; rw [← Ny407.out] at ho; have n0_ := mk0 (blk_grown (g := gb364) (o := .cells #[.string (⟨#[]⟩ : ByteArray), .slice none 0 0] 28 (0, 0)) (by (with_reducible repeat (first | refine blk_drewN ?_ _ | refine blk_drew ?_ | refine blk_alloc ?_ _)); exact BK364.out) hg (Kd.R_ne HO404.out BK364.out (by decide))); have n1_ := mk0 (blk_grown (g := gb365) (o := .cells #[.string (⟨#[99]⟩ : ByteArray), .slice Ao68 y396.length co68] 28 (0, 0)) (by (with_reducible repeat (first | refine blk_drewN ?_ _ | refine blk_drew ?_ | refine blk_alloc ?_ _)); exact BK365.out) hg (Kd.R_ne HO404.out BK365.out (by decide))); have n2_ := mk0 (IsS25.grown (by repeat (first | (with_reducible first | exact HI0.out | apply IsS25.alloc | apply IsS25.drewN | apply IsS25.drew | apply IsS25.set_1 | refine IsS25.far ?_ NB0_364.out _ | refine IsS25.far ?_ NB0_365.out _) | exact HI0.out)) hg (IsS25.own_ne HI0.out HO404.out (by decide))); have n3_ := mk0 (Kd.R_after (ok := (fun _ => True)) (by (with_reducible repeat (first | apply r_a | apply r_n | apply r_d)); exact HO393.out) hg hat); have n4_ := mk0 (Kd.R_over' (by (with_reducible repeat (first | apply r_a | apply r_n | apply r_d)); exact HO398.out) (Kd.R_typed (by (with_reducible repeat (first | apply r_a | apply r_n | apply r_d)); exact HO404.out)) (by decide) hg); have n5_ := mk0 (below_weaken (by repeat (first | (with_reducible first | exact HB.out | apply b_a | apply b_n | apply b_d | refine below_set ?_ (IsS25.ge HI0.out) | refine below_set ?_ GE364.out | refine below_set ?_ GE365.out) | exact HB.out)) HL.out hb); have n6_ := mk0 (KeepBut.trans (by repeat (first | (with_reducible first | exact HK.out | apply KeepBut.set_ | apply keep_drewN | apply keep_drew | apply keep_alloc | refine keep_far ?_ GW364.out _ | refine keep_far ?_ GW365.out _) | exact HK.out)) (KeepBut.of_grown hg g) (Kd.R_base2 HO404.out)); have n7_ := mk0 (ho); clear BK364; clear BK365; clear HI0; clear HO393; clear HO398; clear HB; clear HK; clear HO404; have BK364 := n0_; have BK365 := n1_; have HI0 := n2_; have HO393 := n3_; have HO398 := n4_; have HB := n5_; have HK := n6_; have HO409 := n7_; clear n0_ n1_ n2_ n3_ n4_ n5_ n6_ n7_; clear ho hb hg hat; obtain ⟨Ao74, co74, eo74⟩ := Kd.R_slice HO409.out; subst eo74) | ((with_reducible refine gate_callee (f := 29) rfl ?_); refine goesL_ (some 105) rfl rfl Tryd.func29 (by kernel_rfl) rfl #[.slice Ao74 y407.length co74] rfl (by (try simp only [List.map_toArray, List.map_cons, List.map_nil]); first | done | rfl | (simp only [List.length_drop, List.length_take]; rfl)) ?_; (with_reducible refine (priceofficeref06_Format.calls k4 _ _ y407 t410 t411 _ ?side1 ?side2 A58.out).mono ?_); (case side1 => repeat (first | exact (Kd.R_reads' HO409.out).2.2 | (with_reducible refine Kd.C_alloc ?_ _) | (with_reducible refine Kd.C_drewN ?_ _) | (with_reducible refine Kd.C_drew ?_))); (case side2 => exact (Kd.R_reads' HO409.out).2.1); rintro e w75 ⟨rfl, hb⟩; refine ⟨_, rfl, ?_⟩; have n0_ := mk0 (Kd.R_below (by (with_reducible repeat (first | apply r_a | apply r_n | apply r_d)); exact HO393.out) hb); have n1_ := mk0 (Kd.R_below (by (with_reducible repeat (first | apply r_a | apply r_n | apply r_d)); exact HO398.out) hb); have n2_ := mk0 (Kd.R_below (by (with_reducible repeat (first | apply r_a | apply r_n | apply r_d)); exact HO409.out) hb); have n3_ := mk0 (blk_below (g := gb364) (o := .cells #[.string (⟨#[]⟩ : ByteArray), .slice none 0 0] 28 (0, 0)) (by (with_reducible repeat (first | refine blk_drewN ?_ _ | refine blk_drew ?_ | refine blk_alloc ?_ _)); exact BK364.out) hb); have n4_ := mk0 (blk_below (g := gb365) (o := .cells #[.string (⟨#[99]⟩ : ByteArray), .slice Ao68 y396.length co68] 28 (0, 0)) (by (with_reducible repeat (first | refine blk_drewN ?_ _ | refine blk_drew ?_ | refine blk_alloc ?_ _)); exact BK365.out) hb); have n5_ := mk0 (IsS25.below (by repeat (first | (with_reducible first | exact HI0.out | apply IsS25.alloc | apply IsS25.drewN | apply IsS25.drew | apply IsS25.set_1 | refine IsS25.far ?_ NB0_364.out _ | refine IsS25.far ?_ NB0_365.out _) | exact HI0.out)) hb); have n6_ := mk0 (KeepBut.trans (by repeat (first | (with_reducible first | exact HK.out | apply KeepBut.set_ | apply keep_drewN | apply keep_drew | apply keep_alloc | refine keep_far ?_ GW364.out _ | refine keep_far ?_ GW365.out _) | exact HK.out)) (KeepBut.of_below hb g none) (.inl rfl)); have n7_ := mk0 (below_step (by repeat (first | (with_reducible first | exact HB.out | apply b_a | apply b_n | apply b_d | refine below_set ?_ (IsS25.ge HI0.out) | refine below_set ?_ GE364.out | refine below_set ?_ GE365.out) | exact HB.out)) hb); clear HO393; clear HO398; clear HO409; clear BK364; clear BK365; clear HI0; clear HK; clear HB; have HO393 := n0_; have HO398 := n1_; have HO409 := n2_; have BK364 := n3_; have BK365 := n4_; have HI0 := n5_; have HK := n6_; have HB := n7_; clear n0_ n1_ n2_ n3_ n4_ n5_ n6_ n7_; (try clear hb); (try clear hb2); (try clear hk); (try clear hi); have hcz76_0 : w75.cell? ⟨gb365, 0, none⟩ = some (.string (⟨#[99]⟩ : ByteArray)) := (blk_cell BK365.out 0).trans rfl; have hcz76_1 : w75.cell? ⟨gb365, 1, none⟩ = some (.slice Ao68 y396.length co68) := (blk_cell BK365.out 1).trans rfl; have hfz76_0 := blk_frozen BK365.out 0; have hfz76_1 := blk_frozen BK365.out 1) | ((with_reducible refine gate_builtin (b := .append) (xs := #[.tmp 109, .tmp 111]) rfl ?_); at_builtin; refine Kd.R_append Kd.string w.heap.size rfl (.tmp 109) (.tmp 111) 26 9 (.string ⟨#[]⟩) 16 rfl Tryd.underlying26 info9 rfl (by decide) (by omega) (.slice Ao68 y396.length co68) y396 t410 [.string t410] (fun _ => True) (fun _ => False) rfl rfl ?aP (fun _ hk => hk.elim) ?aF ?aO (Below.refl _ _) ?aS ?aL ?_; (case aP => exact rfl); (case aF => exact (fun _ _ => trivial)); (case aO => exact (by (with_reducible repeat (first | apply r_a | apply r_n | apply r_d)); exact HO398.out)); (case aS => exact (keep_size (w := w) (g := g) (row := none) (by repeat (first | (with_reducible first | exact HK.out | apply KeepBut.set_ | apply keep_drewN | apply keep_drew | apply keep_alloc | refine keep_far ?_ GW364.out _ | refine keep_far ?_ GW365.out _) | exact HK.out)))); (case aL => have := LMc59.out; omega); intro v413 w77 ho hb hg hat; rw [← Ny412.out] at ho; have n0_ := mk0 (blk_grown (g := gb364) (o := .cells #[.string (⟨#[]⟩ : ByteArray), .slice none 0 0] 28 (0, 0)) (by (with_reducible repeat (first | refine blk_drewN ?_ _ | refine blk_drew ?_ | refine blk_alloc ?_ _)); exact BK364.out) hg (Kd.R_ne HO398.out BK364.out (by decide))); have n1_ := mk0 (blk_grown (g := gb365) (o := .cells #[.string (⟨#[99]⟩ : ByteArray), .slice Ao68 y396.length co68] 28 (0, 0)) (by (with_reducible repeat (first | refine blk_drewN ?_ _ | refine blk_drew ?_ | refine blk_alloc ?_ _)); exact BK365.out) hg (Kd.R_ne HO398.out BK365.out (by decide))); have n2_ := mk0 (IsS25.grown (by repeat (first | (with_reducible first | exact HI0.out | apply IsS25.alloc | apply IsS25.drewN | apply IsS25.drew | apply IsS25.set_1 | refine IsS25.far ?_ NB0_364.out _ | refine IsS25.far ?_ NB0_365.out _) | exact HI0.out)) hg (IsS25.own_ne HI0.out HO398.out (by decide))); have n3_ := mk0 (Kd.R_over' (by (with_reducible repeat (first | apply r_a | apply r_n | apply r_d)); exact HO393.out) (Kd.R_typed (by (with_reducible repeat (first | apply r_a | apply r_n | apply r_d)); exact HO398.out)) (by decide) hg); have n4_ := mk0 (Kd.R_over' (by (with_reducible repeat (first | apply r_a | apply r_n | apply r_d)); exact HO409.out) (Kd.R_typed (by (with_reducible repeat (first | apply r_a | apply r_n | apply r_d)); exact HO398.out)) (by decide) hg); have n5_ := mk0 (below_weaken (by repeat (first | (with_reducible first | exact HB.out | apply b_a | apply b_n | apply b_d | refine below_set ?_ (IsS25.ge HI0.out) | refine below_set ?_ GE364.out | refine below_set ?_ GE365.out) | exact HB.out)) HL.out hb); have n6_ := mk0 (KeepBut.trans (by repeat (first | (with_reducible first | exact HK.out | apply KeepBut.set_ | apply keep_drewN | apply keep_drew | apply keep_alloc | refine keep_far ?_ GW364.out _ | refine keep_far ?_ GW365.out _) | exact HK.out)) (KeepBut.of_grown hg g) (Kd.R_base2 HO398.out)); have n7_ := mk0 (ho); clear BK364; clear BK365; clear HI0; clear HO393; clear HO409; clear HB; clear HK; clear HO398; have BK364 := n0_; have BK365 := n1_; have HI0 := n2_; have HO393 := n3_; have HO409 := n4_; have HB := n5_; have HK := n6_; have HO414 := n7_; clear n0_ n1_ n2_ n3_ n4_ n5_ n6_ n7_; clear ho hb hg hat; obtain ⟨Ao78, co78, eo78⟩ := Kd.R_slice HO414.out; subst eo78; have hcz79_0 : w77.cell? ⟨gb365, 0, none⟩ = some (.string (⟨#[99]⟩ : ByteArray)) := (blk_cell BK365.out 0).trans rfl; have hcz79_1 : w77.cell? ⟨gb365, 1, none⟩ = some (.slice Ao68 y396.length co68) := (blk_cell BK365.out 1).trans rfl; have hfz79_0 := blk_frozen BK365.out 0; have hfz79_1 := blk_frozen BK365.out 1))
                 go_roundg k4
                 case measure => have := HK1.out; have := HJ51.out; have := HJ71.out; have := HK4.out; omega
                 case rel => exact ⟨(wrap64 (x66_4 + 1)), (t406), (y412), (.slice Ao78 y412.length co78), (by first | rfl | (simp; done) | (simp [*]; done)), H', ⟨by have := HK1.out; have := HJ51.out; have := HJ71.out; have := HK4.out; omega⟩, ⟨by (with_reducible repeat (first | apply r_a | apply r_n | apply r_d)); exact Kd.R_mono (Kd.R_far (p := ⟨gb365, 1, none⟩) (Kd.R_types HO414.out BK365.out (by decide)) (fun _ hk => hk.2) (.slice Ao78 y412.length co78)) (fun _ hk => trivial)⟩, ⟨by (with_reducible repeat (first | refine blk_drewN ?_ _ | refine blk_drew ?_ | refine blk_alloc ?_ _)); refine blk_far ?_ NB364_365.out _; (with_reducible repeat (first | refine blk_drewN ?_ _ | refine blk_drew ?_ | refine blk_alloc ?_ _)); exact BK364.out⟩, ⟨by (with_reducible repeat (first | refine blk_drewN ?_ _ | refine blk_drew ?_ | refine blk_alloc ?_ _)); refine blk_put (cs := #[.string (⟨#[99]⟩ : ByteArray), .slice Ao68 y396.length co68]) ?_ 1 _ rfl; (with_reducible repeat (first | refine blk_drewN ?_ _ | refine blk_drew ?_ | refine blk_alloc ?_ _)); exact BK365.out⟩, ⟨by repeat (first | (with_reducible first | exact HI0.out | apply IsS25.alloc | apply IsS25.drewN | apply IsS25.drew | apply IsS25.set_1 | refine IsS25.far ?_ NB0_364.out _ | refine IsS25.far ?_ NB0_365.out _) | exact HI0.out)⟩, ⟨by repeat (first | (with_reducible first | exact HK.out | apply KeepBut.set_ | apply keep_drewN | apply keep_drew | apply keep_alloc | refine keep_far ?_ GW364.out _ | refine keep_far ?_ GW365.out _) | exact HK.out)⟩, ⟨by repeat (first | (with_reducible first | exact HB.out | apply b_a | apply b_n | apply b_d | refine below_set ?_ (IsS25.ge HI0.out) | refine below_set ?_ GE364.out | refine below_set ?_ GE365.out) | exact HB.out)⟩⟩
                ·rw [if_neg c59] at H
                 exact absurd H (by simp)
               ·rw [if_neg c57] at H
                exact absurd H (by simp)
              ·rw [if_neg c54] at H
               have c54b0 : (t399 == 0) = false := beq_eq_false_iff_ne.mpr c54
               have c54b1 : (t399 != 0) = true := bne_iff_ne.mpr c54
               have H' := mk0 H
               clear H
               go_wp2_with (first | ((with_reducible refine gate_callee (f := 26) rfl ?_); refine goesL_ (some 71) rfl rfl Tryd.func26 (by kernel_rfl) rfl #[.string x5_71] rfl (by (try simp only [List.map_toArray, List.map_cons, List.map_nil]); first | done | rfl | (simp only [List.length_drop, List.length_take]; rfl)) ?_; (with_reducible refine (priceofficeref06_Parse.calls k4 x5_71 t387 t388 _ A49.out).mono ?_); rintro e w80 ⟨v389, rfl, ho0, hb⟩; refine ⟨_, rfl, ?_⟩; have n0_ := mk0 (Kd.R_below (by (with_reducible repeat (first | apply r_a | apply r_n | apply r_d)); exact HO_366001.out) hb); have n1_ := mk0 (Kd.R_lower ho0 (keep_size (w := w) (g := g) (row := none) (by repeat (first | (with_reducible first | exact HK.out | apply KeepBut.set_ | apply keep_drewN | apply keep_drew | apply keep_alloc | refine keep_far ?_ GW364.out _ | refine keep_far ?_ GW365.out _) | exact HK.out)))); have n2_ := mk0 (blk_below (g := gb364) (o := .cells #[.string (⟨#[]⟩ : ByteArray), .slice none 0 0] 28 (0, 0)) (by (with_reducible repeat (first | refine blk_drewN ?_ _ | refine blk_drew ?_ | refine blk_alloc ?_ _)); exact BK364.out) hb); have n3_ := mk0 (blk_below (g := gb365) (o := .cells #[.string (⟨#[99]⟩ : ByteArray), u366001] 28 (0, 0)) (by (with_reducible repeat (first | refine blk_drewN ?_ _ | refine blk_drew ?_ | refine blk_alloc ?_ _)); exact BK365.out) hb); have n4_ := mk0 (IsS25.below (by repeat (first | (with_reducible first | exact HI0.out | apply IsS25.alloc | apply IsS25.drewN | apply IsS25.drew | apply IsS25.set_1 | refine IsS25.far ?_ NB0_364.out _ | refine IsS25.far ?_ NB0_365.out _) | exact HI0.out)) hb); have n5_ := mk0 (KeepBut.trans (by repeat (first | (with_reducible first | exact HK.out | apply KeepBut.set_ | apply keep_drewN | apply keep_drew | apply keep_alloc | refine keep_far ?_ GW364.out _ | refine keep_far ?_ GW365.out _) | exact HK.out)) (KeepBut.of_below hb g none) (.inl rfl)); have n6_ := mk0 (below_step (by repeat (first | (with_reducible first | exact HB.out | apply b_a | apply b_n | apply b_d | refine below_set ?_ (IsS25.ge HI0.out) | refine below_set ?_ GE364.out | refine below_set ?_ GE365.out) | exact HB.out)) hb); clear HO_366001; clear BK364; clear BK365; clear HI0; clear HK; clear HB; have HO_366001 := n0_; have HO390 := n1_; have BK364 := n2_; have BK365 := n3_; have HI0 := n4_; have HK := n5_; have HB := n6_; clear n0_ n1_ n2_ n3_ n4_ n5_ n6_; (try clear hb); (try clear hb2); (try clear hk); (try clear hi); (try clear ho0)) | ((with_reducible refine gate_builtin (b := .append) (xs := #[.tmp 75, .tmp 79]) rfl ?_); at_builtin; refine Kd.R_append (Kd.int .i64) w.heap.size rfl (.tmp 75) (.tmp 79) 22 3 (.int .i64 0) 8 rfl Tryd.underlying22 info3 rfl (by decide) (by omega) v389 t387 (wrap64 (1 + (wrap64 (x66_4 * 9)))) [.int .i64 (wrap64 (1 + (wrap64 (x66_4 * 9))))] (fun _ => True) (fun _ => False) rfl rfl ?aP (fun _ hk => hk.elim) ?aF ?aO (Below.refl _ _) ?aS ?aL ?_; (case aP => exact rfl); (case aF => exact (fun _ _ => trivial)); (case aO => exact (by (with_reducible repeat (first | apply r_a | apply r_n | apply r_d)); exact HO390.out)); (case aS => exact (keep_size (w := w) (g := g) (row := none) (by repeat (first | (with_reducible first | exact HK.out | apply KeepBut.set_ | apply keep_drewN | apply keep_drew | apply keep_alloc | refine keep_far ?_ GW364.out _ | refine keep_far ?_ GW365.out _) | exact HK.out)))); (case aL => have := LMc50.out; omega); intro v392 w81 ho hb hg hat; rw [← Ny391.out] at ho; have n0_ := mk0 (Kd.R_over' (by (with_reducible repeat (first | apply r_a | apply r_n | apply r_d)); exact HO_366001.out) (Kd.R_typed (by (with_reducible repeat (first | apply r_a | apply r_n | apply r_d)); exact HO390.out)) (by decide) hg); have n1_ := mk0 (blk_grown (g := gb364) (o := .cells #[.string (⟨#[]⟩ : ByteArray), .slice none 0 0] 28 (0, 0)) (by (with_reducible repeat (first | refine blk_drewN ?_ _ | refine blk_drew ?_ | refine blk_alloc ?_ _)); exact BK364.out) hg (Kd.R_ne HO390.out BK364.out (by decide))); have n2_ := mk0 (blk_grown (g := gb365) (o := .cells #[.string (⟨#[99]⟩ : ByteArray), u366001] 28 (0, 0)) (by (with_reducible repeat (first | refine blk_drewN ?_ _ | refine blk_drew ?_ | refine blk_alloc ?_ _)); exact BK365.out) hg (Kd.R_ne HO390.out BK365.out (by decide))); have n3_ := mk0 (IsS25.grown (by repeat (first | (with_reducible first | exact HI0.out | apply IsS25.alloc | apply IsS25.drewN | apply IsS25.drew | apply IsS25.set_1 | refine IsS25.far ?_ NB0_364.out _ | refine IsS25.far ?_ NB0_365.out _) | exact HI0.out)) hg (IsS25.own_ne HI0.out HO390.out (by decide))); have n4_ := mk0 (below_weaken (by repeat (first | (with_reducible first | exact HB.out | apply b_a | apply b_n | apply b_d | refine below_set ?_ (IsS25.ge HI0.out) | refine below_set ?_ GE364.out | refine below_set ?_ GE365.out) | exact HB.out)) HL.out hb); have n5_ := mk0 (KeepBut.trans (by repeat (first | (with_reducible first | exact HK.out | apply KeepBut.set_ | apply keep_drewN | apply keep_drew | apply keep_alloc | refine keep_far ?_ GW364.out _ | refine keep_far ?_ GW365.out _) | exact HK.out)) (KeepBut.of_grown hg g) (Kd.R_base2 HO390.out)); have n6_ := mk0 (ho); clear HO_366001; clear BK364; clear BK365; clear HI0; clear HB; clear HK; clear HO390; have HO_366001 := n0_; have BK364 := n1_; have BK365 := n2_; have HI0 := n3_; have HB := n4_; have HK := n5_; have HO393 := n6_; clear n0_ n1_ n2_ n3_ n4_ n5_ n6_; clear ho hb hg hat; obtain ⟨Ao82, co82, eo82⟩ := Kd.R_slice HO393.out; subst eo82) | ((with_reducible refine gate_callee (f := 29) rfl ?_); refine goesL_ (some 81) rfl rfl Tryd.func29 (by kernel_rfl) rfl #[.slice Ao82 y391.length co82] rfl (by (try simp only [List.map_toArray, List.map_cons, List.map_nil]); first | done | rfl | (simp only [List.length_drop, List.length_take]; rfl)) ?_; (with_reducible refine (priceofficeref06_Format.calls k4 _ _ y391 t394 t395 _ ?side1 ?side2 A51.out).mono ?_); (case side1 => repeat (first | exact (Kd.R_reads' HO393.out).2.2 | (with_reducible refine Kd.C_alloc ?_ _) | (with_reducible refine Kd.C_drewN ?_ _) | (with_reducible refine Kd.C_drew ?_))); (case side2 => exact (Kd.R_reads' HO393.out).2.1); rintro e w83 ⟨rfl, hb⟩; refine ⟨_, rfl, ?_⟩; have n0_ := mk0 (Kd.R_below (by (with_reducible repeat (first | apply r_a | apply r_n | apply r_d)); exact HO_366001.out) hb); have n1_ := mk0 (Kd.R_below (by (with_reducible repeat (first | apply r_a | apply r_n | apply r_d)); exact HO393.out) hb); have n2_ := mk0 (blk_below (g := gb364) (o := .cells #[.string (⟨#[]⟩ : ByteArray), .slice none 0 0] 28 (0, 0)) (by (with_reducible repeat (first | refine blk_drewN ?_ _ | refine blk_drew ?_ | refine blk_alloc ?_ _)); exact BK364.out) hb); have n3_ := mk0 (blk_below (g := gb365) (o := .cells #[.string (⟨#[99]⟩ : ByteArray), u366001] 28 (0, 0)) (by (with_reducible repeat (first | refine blk_drewN ?_ _ | refine blk_drew ?_ | refine blk_alloc ?_ _)); exact BK365.out) hb); have n4_ := mk0 (IsS25.below (by repeat (first | (with_reducible first | exact HI0.out | apply IsS25.alloc | apply IsS25.drewN | apply IsS25.drew | apply IsS25.set_1 | refine IsS25.far ?_ NB0_364.out _ | refine IsS25.far ?_ NB0_365.out _) | exact HI0.out)) hb); have n5_ := mk0 (KeepBut.trans (by repeat (first | (with_reducible first | exact HK.out | apply KeepBut.set_ | apply keep_drewN | apply keep_drew | apply keep_alloc | refine keep_far ?_ GW364.out _ | refine keep_far ?_ GW365.out _) | exact HK.out)) (KeepBut.of_below hb g none) (.inl rfl)); have n6_ := mk0 (below_step (by repeat (first | (with_reducible first | exact HB.out | apply b_a | apply b_n | apply b_d | refine below_set ?_ (IsS25.ge HI0.out) | refine below_set ?_ GE364.out | refine below_set ?_ GE365.out) | exact HB.out)) hb); clear HO_366001; clear HO393; clear BK364; clear BK365; clear HI0; clear HK; clear HB; have HO_366001 := n0_; have HO393 := n1_; have BK364 := n2_; have BK365 := n3_; have HI0 := n4_; have HK := n5_; have HB := n6_; clear n0_ n1_ n2_ n3_ n4_ n5_ n6_; (try clear hb); (try clear hb2); (try clear hk); (try clear hi); have hnb84 := NB365_364.out; have hnc84 := NB364_365.out; have hnb85 := NB365_0.out; have hnc85 := NB0_365.out; have hcz86_0 : w83.cell? ⟨gb365, 0, none⟩ = some (.string (⟨#[99]⟩ : ByteArray)) := (blk_cell BK365.out 0).trans rfl; have hcz86_1 : w83.cell? ⟨gb365, 1, none⟩ = some (u366001) := (blk_cell BK365.out 1).trans rfl; have hfz86_0 := blk_frozen BK365.out 0; have hfz86_1 := blk_frozen BK365.out 1) | ((with_reducible refine gate_builtin (b := .append) (xs := #[.tmp 85, .tmp 87]) rfl ?_); at_builtin; refine Kd.R_append Kd.string w.heap.size rfl (.tmp 85) (.tmp 87) 26 9 (.string ⟨#[]⟩) 16 rfl Tryd.underlying26 info9 rfl (by decide) (by omega) u366001 x366001_4 t394 [.string t394] (fun _ => True) (fun _ => False) rfl rfl ?aP (fun _ hk => hk.elim) ?aF ?aO (Below.refl _ _) ?aS ?aL ?_; (case aP => exact rfl); (case aF => exact (fun _ _ => trivial)); (case aO => exact (by (with_reducible repeat (first | apply r_a | apply r_n | apply r_d)); exact HO_366001.out)); (case aS => exact (keep_size (w := w) (g := g) (row := none) (by repeat (first | (with_reducible first | exact HK.out | apply KeepBut.set_ | apply keep_drewN | apply keep_drew | apply keep_alloc | refine keep_far ?_ GW364.out _ | refine keep_far ?_ GW365.out _) | exact HK.out)))); (case aL => have := LMc52.out; omega); intro v397 w87 ho hb hg hat; rw [← Ny396.out] at ho; have n0_ := mk0 (blk_grown (g := gb364) (o := .cells #[.string (⟨#[]⟩ : ByteArray), .slice none 0 0] 28 (0, 0)) (by (with_reducible repeat (first | refine blk_drewN ?_ _ | refine blk_drew ?_ | refine blk_alloc ?_ _)); exact BK364.out) hg (Kd.R_ne HO_366001.out BK364.out (by decide))); have n1_ := mk0 (blk_grown (g := gb365) (o := .cells #[.string (⟨#[99]⟩ : ByteArray), u366001] 28 (0, 0)) (by (with_reducible repeat (first | refine blk_drewN ?_ _ | refine blk_drew ?_ | refine blk_alloc ?_ _)); exact BK365.out) hg (Kd.R_ne HO_366001.out BK365.out (by decide))); have n2_ := mk0 (IsS25.grown (by repeat (first | (with_reducible first | exact HI0.out | apply IsS25.alloc | apply IsS25.drewN | apply IsS25.drew | apply IsS25.set_1 | refine IsS25.far ?_ NB0_364.out _ | refine IsS25.far ?_ NB0_365.out _) | exact HI0.out)) hg (IsS25.own_ne HI0.out HO_366001.out (by decide))); have n3_ := mk0 (Kd.R_over' (by (with_reducible repeat (first | apply r_a | apply r_n | apply r_d)); exact HO393.out) (Kd.R_typed (by (with_reducible repeat (first | apply r_a | apply r_n | apply r_d)); exact HO_366001.out)) (by decide) hg); have n4_ := mk0 (below_weaken (by repeat (first | (with_reducible first | exact HB.out | apply b_a | apply b_n | apply b_d | refine below_set ?_ (IsS25.ge HI0.out) | refine below_set ?_ GE364.out | refine below_set ?_ GE365.out) | exact HB.out)) HL.out hb); have n5_ := mk0 (KeepBut.trans (by repeat (first | (with_reducible first | exact HK.out | apply KeepBut.set_ | apply keep_drewN | apply keep_drew | apply keep_alloc | refine keep_far ?_ GW364.out _ | refine keep_far ?_ GW365.out _) | exact HK.out)) (KeepBut.of_grown hg g) (Kd.R_base2 HO_366001.out)); have n6_ := mk0 (ho); clear BK364; clear BK365; clear HI0; clear HO393; clear HB; clear HK; clear HO_366001; have BK364 := n0_; have BK365 := n1_; have HI0 := n2_; have HO393 := n3_; have HB := n4_; have HK := n5_; have HO398 := n6_; clear n0_ n1_ n2_ n3_ n4_ n5_ n6_; clear ho hb hg hat; obtain ⟨Ao88, co88, eo88⟩ := Kd.R_slice HO398.out; subst eo88; have hcz89_0 : w87.cell? ⟨gb365, 0, none⟩ = some (.string (⟨#[99]⟩ : ByteArray)) := (blk_cell BK365.out 0).trans rfl; have hcz89_1 : w87.cell? ⟨gb365, 1, none⟩ = some (u366001) := (blk_cell BK365.out 1).trans rfl; have hfz89_0 := blk_frozen BK365.out 0; have hfz89_1 := blk_frozen BK365.out 1) | ((with_reducible refine gate_callee (f := 18) rfl ?_); refine goesL_ (some 91) rfl rfl Tryd.func18 (by kernel_rfl) rfl #[.pointer (some ⟨g, 0, none⟩), .int .i64 3] rfl (by (try simp only [List.map_toArray, List.map_cons, List.map_nil]); first | done | rfl | (simp only [List.length_drop, List.length_take]; rfl)) ?_; (with_reducible refine (priceofficemake_Tape_Next.calls g s0_0 x1001_4 3 t399 t400 w0 _ ?side1 ?side2 A53.out).mono ?_); (case side1 => repeat (first | (with_reducible first | exact HI0.out | apply IsS25.alloc | apply IsS25.drewN | apply IsS25.drew | apply IsS25.set_1 | refine IsS25.far ?_ NB0_364.out _ | refine IsS25.far ?_ NB0_365.out _) | exact HI0.out)); (case side2 => repeat (first | (with_reducible first | exact HB.out | apply b_a | apply b_n | apply b_d | refine below_set ?_ (IsS25.ge HI0.out) | refine below_set ?_ GE364.out | refine below_set ?_ GE365.out) | exact HB.out)); rintro e w90 ⟨rfl, hi, hb, hk⟩; refine ⟨_, rfl, ?_⟩; have n0_ := mk0 (KeepBut.blk hk (g' := gb364) (o := .cells #[.string (⟨#[]⟩ : ByteArray), .slice none 0 0] 28 (0, 0)) (by (with_reducible repeat (first | refine blk_drewN ?_ _ | refine blk_drew ?_ | refine blk_alloc ?_ _)); refine blk_far ?_ NB364_365.out _; (with_reducible repeat (first | refine blk_drewN ?_ _ | refine blk_drew ?_ | refine blk_alloc ?_ _)); exact BK364.out) NB364_0.out (by simp)); have n1_ := mk0 (KeepBut.blk hk (g' := gb365) (o := .cells #[.string (⟨#[99]⟩ : ByteArray), .slice Ao88 y396.length co88] 28 (0, 0)) (by (with_reducible repeat (first | refine blk_drewN ?_ _ | refine blk_drew ?_ | refine blk_alloc ?_ _)); refine blk_put (cs := #[.string (⟨#[99]⟩ : ByteArray), u366001]) ?_ 1 _ rfl; (with_reducible repeat (first | refine blk_drewN ?_ _ | refine blk_drew ?_ | refine blk_alloc ?_ _)); exact BK365.out) NB365_0.out (by simp)); have n2_ := mk0 (Kd.R_mono (Kd.R_keep (IsS25.apart (show IsS25 w0 _ g s0_0 x1001_4 from by repeat (first | (with_reducible first | exact HI0.out | apply IsS25.alloc | apply IsS25.drewN | apply IsS25.drew | apply IsS25.set_1 | refine IsS25.far ?_ NB0_364.out _ | refine IsS25.far ?_ NB0_365.out _) | exact HI0.out)) (by (with_reducible repeat (first | apply r_a | apply r_n | apply r_d)); exact (Kd.R_mono (Kd.R_far (p := ⟨gb365, 1, none⟩) (Kd.R_types HO393.out BK365.out (by decide)) (fun _ hk => hk.2) (.slice Ao88 y396.length co88)) (fun _ h_ => h_.1))) (by decide)) hk (fun _ h => h.2)) (fun _ h => h.1)); have n3_ := mk0 (Kd.R_mono (Kd.R_keep (IsS25.apart (show IsS25 w0 _ g s0_0 x1001_4 from by repeat (first | (with_reducible first | exact HI0.out | apply IsS25.alloc | apply IsS25.drewN | apply IsS25.drew | apply IsS25.set_1 | refine IsS25.far ?_ NB0_364.out _ | refine IsS25.far ?_ NB0_365.out _) | exact HI0.out)) (by (with_reducible repeat (first | apply r_a | apply r_n | apply r_d)); exact (Kd.R_mono (Kd.R_far (p := ⟨gb365, 1, none⟩) (Kd.R_types HO398.out BK365.out (by decide)) (fun _ hk => hk.2) (.slice Ao88 y396.length co88)) (fun _ h_ => h_.1))) (by decide)) hk (fun _ h => h.2)) (fun _ h => h.1)); have n4_ := mk0 (KeepBut.trans (by repeat (first | (with_reducible first | exact HK.out | apply KeepBut.set_ | apply keep_drewN | apply keep_drew | apply keep_alloc | refine keep_far ?_ GW364.out _ | refine keep_far ?_ GW365.out _) | exact HK.out)) hk (.inl rfl)); have n5_ := mk0 (hb); have n6_ := mk0 (hi); clear BK364; clear BK365; clear HO393; clear HO398; clear HK; clear HB; clear HI0; have BK364 := n0_; have BK365 := n1_; have HO393 := n2_; have HO398 := n3_; have HK := n4_; have HB := n5_; have HI0 := n6_; clear n0_ n1_ n2_ n3_ n4_ n5_ n6_; (try clear hb); (try clear hb2); (try clear hk); (try clear hi)))
               go_roundg k4
               case measure => have := HK1.out; have := HJ51.out; have := HJ71.out; have := HK4.out; omega
               case rel => exact ⟨(wrap64 (x66_4 + 1)), (t400), (y396), (.slice Ao88 y396.length co88), (by first | rfl | (simp; done) | (simp [*]; done)), H', ⟨by have := HK1.out; have := HJ51.out; have := HJ71.out; have := HK4.out; omega⟩, ⟨by (with_reducible repeat (first | apply r_a | apply r_n | apply r_d)); exact HO398.out⟩, ⟨by (with_reducible repeat (first | refine blk_drewN ?_ _ | refine blk_drew ?_ | refine blk_alloc ?_ _)); exact BK364.out⟩, ⟨by (with_reducible repeat (first | refine blk_drewN ?_ _ | refine blk_drew ?_ | refine blk_alloc ?_ _)); exact BK365.out⟩, ⟨by repeat (first | (with_reducible first | exact HI0.out | apply IsS25.alloc | apply IsS25.drewN | apply IsS25.drew | apply IsS25.set_1 | refine IsS25.far ?_ NB0_364.out _ | refine IsS25.far ?_ NB0_365.out _) | exact HI0.out)⟩, ⟨by repeat (first | (with_reducible first | exact HK.out | apply KeepBut.set_ | apply keep_drewN | apply keep_drew | apply keep_alloc | refine keep_far ?_ GW364.out _ | refine keep_far ?_ GW365.out _) | exact HK.out)⟩, ⟨by repeat (first | (with_reducible first | exact HB.out | apply b_a | apply b_n | apply b_d | refine below_set ?_ (IsS25.ge HI0.out) | refine below_set ?_ GE364.out | refine below_set ?_ GE365.out) | exact HB.out)⟩⟩
             ·rw [if_neg c52] at H
              exact absurd H (by simp)
            ·rw [if_neg c50] at H
             exact absurd H (by simp)
           ·rw [if_neg c48] at H
            have c48b0 : decide (x66_4 < t385) = false := decide_eq_false c48
            clear c48
            have H' := mk0 H
            clear H
            go_wp2
            go_roundg k4
            case measure => have := HK1.out; have := HJ51.out; have := HJ71.out; have := HK4.out; omega
            case rel => exact ⟨(wrap64 (x20_1 + 1)), (x1001_4), (x366001_4), (u366001), (by first | rfl | (simp; done) | (simp [*]; done)), H', ⟨by have := HK1.out; have := HJ51.out; have := HJ71.out; have := HK4.out; omega⟩, ⟨by (with_reducible repeat (first | apply r_a | apply r_n | apply r_d)); exact HO_366001.out⟩, ⟨by (with_reducible repeat (first | refine blk_drewN ?_ _ | refine blk_drew ?_ | refine blk_alloc ?_ _)); exact BK364.out⟩, ⟨by (with_reducible repeat (first | refine blk_drewN ?_ _ | refine blk_drew ?_ | refine blk_alloc ?_ _)); exact BK365.out⟩, ⟨by repeat (first | (with_reducible first | exact HI0.out | apply IsS25.alloc | apply IsS25.drewN | apply IsS25.drew | apply IsS25.set_1 | refine IsS25.far ?_ NB0_364.out _ | refine IsS25.far ?_ NB0_365.out _) | exact HI0.out)⟩, ⟨by repeat (first | (with_reducible first | exact HK.out | apply KeepBut.set_ | apply keep_drewN | apply keep_drew | apply keep_alloc | refine keep_far ?_ GW364.out _ | refine keep_far ?_ GW365.out _) | exact HK.out)⟩, ⟨by repeat (first | (with_reducible first | exact HB.out | apply b_a | apply b_n | apply b_d | refine below_set ?_ (IsS25.ge HI0.out) | refine below_set ?_ GE364.out | refine below_set ?_ GE365.out) | exact HB.out)⟩⟩
        ·rw [if_neg c39] at H
         exact absurd H (by simp)
   ·rw [if_neg c9] at H
    have c9b0 : decide (x20_1 < (wrap64 (1 + t366))) = false := decide_eq_false c9
    clear c9
    simp only [Option.some.injEq, Prod.mk.injEq] at H
    obtain ⟨rfl, rfl, rfl⟩ := H
    have hnb91 := NB365_364.out
    have hnc91 := NB364_365.out
    have hnb92 := NB365_0.out
    have hnc92 := NB0_365.out
    have hcz93_0 : wr.cell? ⟨gb365, 0, none⟩ = some (.string (⟨#[99]⟩ : ByteArray)) := (blk_cell BK365.out 0).trans rfl
    have hcz93_1 : wr.cell? ⟨gb365, 1, none⟩ = some (u366001) := (blk_cell BK365.out 1).trans rfl
    have hfz93_0 := blk_frozen BK365.out 0
    have hfz93_1 := blk_frozen BK365.out 1
    have hnb94 := NB364_0.out
    have hnc94 := NB0_364.out
    have hcz95_0 : wr.cell? ⟨gb364, 0, none⟩ = some (.string (⟨#[]⟩ : ByteArray)) := (blk_cell BK364.out 0).trans rfl
    have hcz95_1 : wr.cell? ⟨gb364, 1, none⟩ = some (.slice none 0 0) := (blk_cell BK364.out 1).trans rfl
    have hfz95_0 := blk_frozen BK364.out 0
    have hfz95_1 := blk_frozen BK364.out 1
    obtain ⟨Ao96, co96, eo96⟩ := Kd.R_slice HO_366001.out
    subst eo96
    go_wp2
    refine bodyPost_ret (results_cell_row rfl _ _ gb364 28 #[.string (⟨#[99]⟩ : ByteArray), .slice Ao96 x366001_1.length co96] (0, 0) _ rfl (by (with_reducible repeat (first | refine blk_drewN ?_ _ | refine blk_drew ?_ | refine blk_alloc ?_ _)); refine blk_put (cs := #[.string (⟨#[99]⟩ : ByteArray), .slice none 0 0]) ?_ 1 _ rfl; (with_reducible repeat (first | refine blk_drewN ?_ _ | refine blk_drew ?_ | refine blk_alloc ?_ _)); refine blk_put (cs := #[.string (⟨#[]⟩ : ByteArray), .slice none 0 0]) ?_ 0 _ rfl; (with_reducible repeat (first | refine blk_drewN ?_ _ | refine blk_drew ?_ | refine blk_alloc ?_ _)); exact BK364.out) Tryd.underlying28 rfl (by kernel_rfl)) rfl ?_
    exact ⟨_, by first | rfl | (simp [errW_none, errW_some] <;> rfl) | (simp [*, errW_none, errW_some] <;> rfl), by (with_reducible repeat (first | apply r_a | apply r_n | apply r_d)); exact Kd.R_mono (Kd.R_far (p := ⟨gb364, 1, none⟩) (Kd.R_far (p := ⟨gb364, 0, none⟩) (Kd.R_types HO_366001.out BK364.out (by decide)) (fun _ hk => hk.2) (.string (⟨#[99]⟩ : ByteArray))) (fun _ hk => hk.2) (.slice Ao96 x366001_1.length co96)) (fun _ hk => trivial), by repeat (first | (with_reducible first | exact HI0.out | apply IsS25.alloc | apply IsS25.drewN | apply IsS25.drew | apply IsS25.set_1 | refine IsS25.far ?_ NB0_364.out _ | refine IsS25.far ?_ NB0_365.out _) | exact HI0.out), by repeat (first | (with_reducible first | exact HB.out | apply b_a | apply b_n | apply b_d | refine below_set ?_ (IsS25.ge HI0.out) | refine below_set ?_ GE364.out | refine below_set ?_ GE365.out) | exact HB.out), by repeat (first | (with_reducible first | exact HK.out | apply KeepBut.set_ | apply keep_drewN | apply keep_drew | apply keep_alloc | refine keep_far ?_ GW364.out _ | refine keep_far ?_ GW365.out _) | exact HK.out)⟩

end Go.Proofs.YtpnoliognpmkmaaDoor.P
