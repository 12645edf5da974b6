/- Lean functions with the same answers as the program's Go functions, and for each the proof that the call comes to these answers; written by a program of mine out of the translation, the functions marked 'by hand' by me. -/
import Derived.Test.YtpnoliognpmkmaaDoorP0
namespace Go.Proofs.YtpnoliognpmkmaaDoor.P
open Go.RowKit Go.Proofs.YtpnoliognpmkmaaDoorW.PrintWords Go.Proofs.YtpnoliognpmkmaaDoorW.PrintLast Go.Proofs.YtpnoliognpmkmaaDoorW.PrintMore
attribute [local go_sem] max2_int min2_int max_two min_two max_three min_three max_four min_four   -- for this text's walks alone
set_option linter.unusedVariables false
set_option linter.unusedSimpArgs false

/-! ### priceofficelaw06_raw: function 19 -/
def priceofficelaw06_raw.l0 : Nat → List ByteArray → Int → Int → ByteArray → List ByteArray → Option (ByteArray × List ByteArray)
 | 0, _, _, _, _, _ => none
 | k + 1, x15, x16, x17, x336000, x336001 => if x17 < x16 then (if 0 ≤ x17 then (if x17 < (x15.length : Int) then (if 0 ≤ (mn ((rdOf ByteArray.empty x15 x17).size : Int) 20) then (if (mn ((rdOf ByteArray.empty x15 x17).size : Int) 20) ≤ ((rdOf ByteArray.empty x15 x17).size : Int) then (if x336001.length < 8796093022208 then (priceofficelaw06_raw.l0 k x15 x16 (wrap64 (x17 + 1)) x336000 (x336001 ++ [(rdOf ByteArray.empty x15 x17).extract 0 ((mn ((rdOf ByteArray.empty x15 x17).size : Int) 20) : Int).toNat])) else (none)) else (none)) else (none)) else (none)) else (none)) else (some (x336000, x336001))
def priceofficelaw06_raw.f (k : Nat) (a0_0 : ByteArray) (l0_1 : List ByteArray) : Option (ByteArray × List ByteArray) := if 0 ≤ (mn (l0_1.length : Int) 30) then (if (mn (l0_1.length : Int) 30) ≤ (l0_1.length : Int) then (priceofficelaw06_raw.l0 k (l0_1.take ((mn (l0_1.length : Int) 30) : Int).toNat) ((l0_1.take ((mn (l0_1.length : Int) 30) : Int).toNat).length : Int) 0 a0_0 ([] : List ByteArray)) else (none)) else (none)
theorem priceofficelaw06_raw.mono_l : ∀ k, (∀ y0 y1 y2 y3 y4, LeO (priceofficelaw06_raw.l0 k y0 y1 y2 y3 y4) (priceofficelaw06_raw.l0 (k + 1) y0 y1 y2 y3 y4))
 | 0 => fun _ _ _ _ _ r h => by simp [priceofficelaw06_raw.l0] at h
 | k + 1 => by
  have ih0 := priceofficelaw06_raw.mono_l k
  ·intro y0 y1 y2 y3 y4
   unfold priceofficelaw06_raw.l0
   repeat' first
   | (with_reducible exact ih0 _ _ _ _ _)
   | (with_reducible exact LeO.refl _)
   | (with_reducible exact LeO.none _)
   | (with_reducible refine LeO.ite ?_ ?_)
   | (with_reducible refine LeO.bind ?_ (fun _ => ?_))
   | exact ih0 _ _ _ _ _
   | exact LeO.none _
   | refine LeO.ite ?_ ?_
   | refine LeO.bind ?_ (fun _ => ?_)
theorem priceofficelaw06_raw.mono : ∀ a0 a1 k, LeO (priceofficelaw06_raw.f k a0 a1) (priceofficelaw06_raw.f (k + 1) a0 a1) := by
 intro a0 a1 k
 have ih0 := priceofficelaw06_raw.mono_l k
 unfold priceofficelaw06_raw.f
 repeat' first
   | (with_reducible exact ih0 _ _ _ _ _)
   | (with_reducible exact LeO.refl _)
   | (with_reducible exact LeO.none _)
   | (with_reducible refine LeO.ite ?_ ?_)
   | (with_reducible refine LeO.bind ?_ (fun _ => ?_))
   | exact ih0 _ _ _ _ _
   | exact LeO.none _
   | refine LeO.ite ?_ ?_
   | refine LeO.bind ?_ (fun _ => ?_)
def priceofficelaw06_raw.T5 : Bool × List (List Nat × List Nat) := (true, [([], []), ([0], [0]), ([], []), ([], []), ([3], [3]), ([4], [4]), ([2, 5], [2, 5]), ([6], [6]), ([1, 7], [1, 7]), ([0, 1, 2, 3, 4, 5, 6, 7, 8], []), ([9, 8, 8, 0, 1, 2, 3, 4, 5, 6, 7, 8], [8, 9])])
def priceofficelaw06_raw.B5 : List Nat := [0, 1, 0, 0, 8, 24, 60, 124, 255, 511, 1023]
theorem priceofficelaw06_raw.tab5 : rtab .any (opsOf Tryd.f19 5) = priceofficelaw06_raw.T5 := by kernel_rfl
theorem priceofficelaw06_raw.bits5 : waitsOk priceofficelaw06_raw.T5.2 priceofficelaw06_raw.B5 = true := by kernel_rfl
set_option maxHeartbeats 8000000 in
set_option maxRecDepth 100000 in
theorem priceofficelaw06_raw.calls (k : Nat) (a0_0 : ByteArray) (A0_1 : Option Addr) (c0_1 : Nat) (l0_1 : List ByteArray) (r1 : ByteArray) (r2 : List ByteArray) (w : World) (hr0_1 : Kd.C Kd.string w A0_1 l0_1.length l0_1) (hc0_1 : l0_1.length ≤ c0_1) (h : priceofficelaw06_raw.f k a0_0 l0_1 = some (r1, r2)) :
  Calls Tryd.prog 19 #[.agg #[.string a0_0, .slice A0_1 l0_1.length c0_1]] w fun e w' => ∃ v1_ : Value, e = .returned (.agg #[.string r1, v1_]) ∧ Kd.R Kd.string 9 w' w.heap.size (fun _ => True) v1_ r2 ∧ Below w.heap.size w w' := by
 have hu28 := Tryd.underlying28
 have HR0_1 := mk0 hr0_1
 have HC0_1 := mk0 hc0_1
 clear hr0_1 hc0_1
 have HB := mk0 (Below.refl w.heap.size w)
 have H : (if 0 ≤ (mn (l0_1.length : Int) 30) then (if (mn (l0_1.length : Int) 30) ≤ (l0_1.length : Int) then (priceofficelaw06_raw.l0 k (l0_1.take ((mn (l0_1.length : Int) 30) : Int).toNat) ((l0_1.take ((mn (l0_1.length : Int) 30) : Int).toNat).length : Int) 0 a0_0 ([] : List ByteArray)) else (none)) else (none)) = some (r1, r2) := h
 clear h
 obtain ⟨ji2, hji2⟩ : ∃ j_ : Int, (mn (l0_1.length : Int) 30) = j_ := ⟨_, rfl⟩
 replace H : (if 0 ≤ (ji2) then (if (ji2) ≤ (l0_1.length : Int) then (priceofficelaw06_raw.l0 k (l0_1.take ((ji2) : Int).toNat) ((l0_1.take ((ji2) : Int).toNat).length : Int) 0 a0_0 ([] : List ByteArray)) else (none)) else (none)) = some (r1, r2) := by first | (rw [hji2] at H; exact H) | (simp only [hji2] at H ⊢; exact H)
 (try (have hji2h : ji2 ≤ 30 := by (rw [← hji2]; unfold mn; (repeat' split) <;> omega)))
 (try (have hji2g : ji2 ≤ 64 := by omega))
 (try (have hji2l : 0 ≤ ji2 := by (rw [← hji2]; unfold mn; (repeat' split) <;> omega)))
 (try (have hji2m : 0 ≤ ji2 := by omega))
 have hji2_ : (if 30 < (l0_1.length : Int) then 30 else (l0_1.length : Int)) = ji2 := hji2
 have hltake : ((l0_1.take ((ji2) : Int).toNat).length : Int) = max ji2 0 := by rw [List.length_take]; have := hji2_; split at this <;> omega
 by_cases c3 : 0 ≤ (ji2)
 ·rw [if_pos c3] at H
  have c3b0 := eq_true c3
  have c3b1 : decide (0 ≤ (ji2)) = true := decide_eq_true c3
  clear c3
  by_cases c4 : (ji2) ≤ (l0_1.length : Int)
  ·rw [if_pos c4] at H
   have c4b0 := eq_true c4
   have c4b1 : decide ((ji2) ≤ (l0_1.length : Int)) = true := decide_eq_true c4
   clear c4
   have H' := mk0 H
   clear H
   go_enter Tryd.func19, Tryd.ntmps19
   go_wp2_with (first | ((with_reducible refine gate_dst (N := 1) rfl ?_); refine box_event ?hg (N := 1) ?hd (cs := #[.string a0_0, .slice A0_1 l0_1.length c0_1]) (t := 28) ?hr ?_; (case hd => rfl); (case hg => rfl); (case hr => first | (go_simp; done) | (go_simp; rfl)); intro gb333 hg w5 hbox hb; have n0_ := mk0 (below_step (by repeat (first | (with_reducible first | exact HB.out | apply b_a | apply b_n | apply b_d) | exact HB.out)) hb); have n1_ := mk0 (hbox); have n2_ := mk0 ((by rw [hg]; exact (below_size (by repeat (first | (with_reducible first | exact HB.out | apply b_a | apply b_n | apply b_d) | exact HB.out))) : w.heap.size ≤ gb333)); have n3_ := mk0 ((by rw [hg]; exact (below_size (by repeat (first | (with_reducible first | exact HB.out | apply b_a | apply b_n | apply b_d) | exact HB.out))) : w.heap.size ≤ gb333)); clear HB; have HB := n0_; have BK333 := n1_; have GW333 := n2_; have GE333 := n3_; clear n0_ n1_ n2_ n3_; clear hb hbox hg) | ((with_reducible refine gate_dst (N := 2) rfl ?_); refine box_event ?hg (N := 2) ?hd (cs := #[.string (⟨#[]⟩ : ByteArray), .slice none 0 0]) (t := 28) ?hr ?_; (case hd => rfl); (case hg => rfl); (case hr => first | (go_simp; done) | (go_simp; rfl)); intro gb334 hg w6 hbox hb; have n0_ := mk0 (blk_below (g := gb333) (o := .cells #[.string a0_0, .slice A0_1 l0_1.length c0_1] 28 (0, 0)) (by (with_reducible repeat (first | refine blk_drewN ?_ _ | refine blk_drew ?_ | refine blk_alloc ?_ _)); exact BK333.out) hb); have n1_ := mk0 (below_step (by repeat (first | (with_reducible first | exact HB.out | apply b_a | apply b_n | apply b_d | refine below_set ?_ GE333.out) | exact HB.out)) hb); have n2_ := mk0 (hbox); have n3_ := mk0 ((by rw [hg]; exact (below_size (by repeat (first | (with_reducible first | exact HB.out | apply b_a | apply b_n | apply b_d | refine below_set ?_ GE333.out) | exact HB.out))) : w.heap.size ≤ gb334)); have n4_ := mk0 ((by rw [hg]; exact (below_size (by repeat (first | (with_reducible first | exact HB.out | apply b_a | apply b_n | apply b_d | refine below_set ?_ GE333.out) | exact HB.out))) : w.heap.size ≤ gb334)); have n5_ := mk0 ((by rw [hg]; exact Nat.ne_of_lt (blk_lt (g := gb333) (o := .cells #[.string a0_0, .slice A0_1 l0_1.length c0_1] 28 (0, 0)) (by (with_reducible repeat (first | refine blk_drewN ?_ _ | refine blk_drew ?_ | refine blk_alloc ?_ _)); exact BK333.out)) : gb333 ≠ gb334)); have n6_ := mk0 ((by rw [hg]; exact Nat.ne_of_gt (blk_lt (g := gb333) (o := .cells #[.string a0_0, .slice A0_1 l0_1.length c0_1] 28 (0, 0)) (by (with_reducible repeat (first | refine blk_drewN ?_ _ | refine blk_drew ?_ | refine blk_alloc ?_ _)); exact BK333.out)) : gb334 ≠ gb333)); clear BK333; clear HB; have BK333 := n0_; have HB := n1_; have BK334 := n2_; have GW334 := n3_; have GE334 := n4_; have NB333_334 := n5_; have NB334_333 := n6_; clear n0_ n1_ n2_ n3_ n4_ n5_ n6_; clear hb hbox hg; have hnb7 := NB333_334.out; have hnc7 := NB334_333.out; have hcz8_0 : w6.cell? ⟨gb333, 0, none⟩ = some (.string a0_0) := (blk_cell BK333.out 0).trans rfl; have hcz8_1 : w6.cell? ⟨gb333, 1, none⟩ = some (.slice A0_1 l0_1.length c0_1) := (blk_cell BK333.out 1).trans rfl; have hfz8_0 := blk_frozen BK333.out 0; have hfz8_1 := blk_frozen BK333.out 1) | ((with_reducible refine gate_dst (N := 3) rfl ?_); refine box_event ?hg (N := 3) ?hd (cs := #[.string (⟨#[]⟩ : ByteArray), .slice none 0 0]) (t := 28) ?hr ?_; (case hd => rfl); (case hg => rfl); (case hr => first | (go_simp; done) | (go_simp; rfl)); intro gb335 hg w9 hbox hb; have n0_ := mk0 (blk_below (g := gb333) (o := .cells #[.string a0_0, .slice A0_1 l0_1.length c0_1] 28 (0, 0)) (by (with_reducible repeat (first | refine blk_drewN ?_ _ | refine blk_drew ?_ | refine blk_alloc ?_ _)); exact BK333.out) hb); have n1_ := mk0 (blk_below (g := gb334) (o := .cells #[.string (⟨#[]⟩ : ByteArray), .slice none 0 0] 28 (0, 0)) (by (with_reducible repeat (first | refine blk_drewN ?_ _ | refine blk_drew ?_ | refine blk_alloc ?_ _)); exact BK334.out) hb); have n2_ := mk0 (below_step (by repeat (first | (with_reducible first | exact HB.out | apply b_a | apply b_n | apply b_d | refine below_set ?_ GE333.out | refine below_set ?_ GE334.out) | exact HB.out)) hb); have n3_ := mk0 (hbox); have n4_ := mk0 ((by rw [hg]; exact (below_size (by repeat (first | (with_reducible first | exact HB.out | apply b_a | apply b_n | apply b_d | refine below_set ?_ GE333.out | refine below_set ?_ GE334.out) | exact HB.out))) : w.heap.size ≤ gb335)); have n5_ := mk0 ((by rw [hg]; exact (below_size (by repeat (first | (with_reducible first | exact HB.out | apply b_a | apply b_n | apply b_d | refine below_set ?_ GE333.out | refine below_set ?_ GE334.out) | exact HB.out))) : w.heap.size ≤ gb335)); have n6_ := mk0 ((by rw [hg]; exact Nat.ne_of_lt (blk_lt (g := gb333) (o := .cells #[.string a0_0, .slice A0_1 l0_1.length c0_1] 28 (0, 0)) (by (with_reducible repeat (first | refine blk_drewN ?_ _ | refine blk_drew ?_ | refine blk_alloc ?_ _)); exact BK333.out)) : gb333 ≠ gb335)); have n7_ := mk0 ((by rw [hg]; exact Nat.ne_of_gt (blk_lt (g := gb333) (o := .cells #[.string a0_0, .slice A0_1 l0_1.length c0_1] 28 (0, 0)) (by (with_reducible repeat (first | refine blk_drewN ?_ _ | refine blk_drew ?_ | refine blk_alloc ?_ _)); exact BK333.out)) : gb335 ≠ gb333)); have n8_ := mk0 ((by rw [hg]; exact Nat.ne_of_lt (blk_lt (g := gb334) (o := .cells #[.string (⟨#[]⟩ : ByteArray), .slice none 0 0] 28 (0, 0)) (by (with_reducible repeat (first | refine blk_drewN ?_ _ | refine blk_drew ?_ | refine blk_alloc ?_ _)); exact BK334.out)) : gb334 ≠ gb335)); have n9_ := mk0 ((by rw [hg]; exact Nat.ne_of_gt (blk_lt (g := gb334) (o := .cells #[.string (⟨#[]⟩ : ByteArray), .slice none 0 0] 28 (0, 0)) (by (with_reducible repeat (first | refine blk_drewN ?_ _ | refine blk_drew ?_ | refine blk_alloc ?_ _)); exact BK334.out)) : gb335 ≠ gb334)); clear BK333; clear BK334; clear HB; have BK333 := n0_; have BK334 := n1_; have HB := n2_; have BK335 := n3_; have GW335 := n4_; have GE335 := n5_; have NB333_335 := n6_; have NB335_333 := n7_; have NB334_335 := n8_; have NB335_334 := n9_; clear n0_ n1_ n2_ n3_ n4_ n5_ n6_ n7_ n8_ n9_; clear hb hbox hg; have hnb10 := NB335_333.out; have hnc10 := NB333_335.out; have hnb11 := NB335_334.out; have hnc11 := NB334_335.out; have hcz12_0 : w9.cell? ⟨gb335, 0, none⟩ = some (.string (⟨#[]⟩ : ByteArray)) := (blk_cell BK335.out 0).trans rfl; have hcz12_1 : w9.cell? ⟨gb335, 1, none⟩ = some (.slice none 0 0) := (blk_cell BK335.out 1).trans rfl; have hfz12_0 := blk_frozen BK335.out 0; have hfz12_1 := blk_frozen BK335.out 1; have hcz13_0 : w9.cell? ⟨gb333, 0, none⟩ = some (.string a0_0) := (blk_cell BK333.out 0).trans rfl; have hcz13_1 : w9.cell? ⟨gb333, 1, none⟩ = some (.slice A0_1 l0_1.length c0_1) := (blk_cell BK333.out 1).trans rfl; have hfz13_0 := blk_frozen BK333.out 0; have hfz13_1 := blk_frozen BK333.out 1; obtain ⟨i014, hi014, _, hsz14, _⟩ := info_parts info9; obtain ⟨hcut14, hA14, hC14⟩ := print_take_of (P := Tryd.prog) Value.string (⟨#[]⟩ : ByteArray) 26 9 .i64 Tryd.underlying26 hi014 hsz14 A0_1 c0_1 l0_1 (ji2) (of_decide_eq_true (by first | (with_reducible assumption) | assumption)) (of_decide_eq_true (by first | (with_reducible assumption) | assumption)) HC0_1.out; have HR336 := mk0 (Kd.C_of_reads (h1 := fun _ => rfl) (hA14 _ (Kd.reads_of_C HR0_1.out))); have HC336 := mk0 hC14; clear hA14 hC14 hi014 hsz14))
   go_loopg [17] k (fun kq v17 w' => ∃ (x17_1 : Int) (x336001_1 : List ByteArray) (u336001 : Value), v17 = .int .i64 x17_1 ∧ Aside0 (priceofficelaw06_raw.l0 kq (l0_1.take ((ji2) : Int).toNat) ((l0_1.take ((ji2) : Int).toNat).length : Int) x17_1 a0_0 x336001_1 = some (r1, r2)) ∧ Aside0 (kq ≤ k) ∧ Aside0 (Kd.R Kd.string 9 w' w.heap.size (fun _ => True) u336001 x336001_1) ∧ Aside0 (w'.heap[gb333]? = some (.cells #[.string a0_0, (.slice A0_1 l0_1.length c0_1)] 28 (0, 0))) ∧ Aside0 (w'.heap[gb334]? = some (.cells #[.string (⟨#[]⟩ : ByteArray), (.slice none 0 0)] 28 (0, 0))) ∧ Aside0 (w'.heap[gb335]? = some (.cells #[.string a0_0, u336001] 28 (0, 0))) ∧ Aside0 (Below w.heap.size w w'))
   case atStart => exact ⟨(0), (([] : List ByteArray)), (.slice none 0 0), (by first | rfl | (simp; done) | (simp [*]; done)), H', ⟨Nat.le_refl _⟩, ⟨by first | exact Kd.R_nil _ _ _ _ _ | exact Kd.N_nil _ _ _ _ _ | exact Kd.V_nil _ _ _ _ _ | exact Kd.Q_nil _ _ _ _ _ | exact Kd.S_nil _ _ _ _ _⟩, ⟨by (with_reducible repeat (first | refine blk_drewN ?_ _ | refine blk_drew ?_ | refine blk_alloc ?_ _)); refine blk_far ?_ NB333_335.out _; (with_reducible repeat (first | refine blk_drewN ?_ _ | refine blk_drew ?_ | refine blk_alloc ?_ _)); refine blk_far ?_ NB333_335.out _; (with_reducible repeat (first | refine blk_drewN ?_ _ | refine blk_drew ?_ | refine blk_alloc ?_ _)); exact BK333.out⟩, ⟨by (with_reducible repeat (first | refine blk_drewN ?_ _ | refine blk_drew ?_ | refine blk_alloc ?_ _)); refine blk_far ?_ NB334_335.out _; (with_reducible repeat (first | refine blk_drewN ?_ _ | refine blk_drew ?_ | refine blk_alloc ?_ _)); refine blk_far ?_ NB334_335.out _; (with_reducible repeat (first | refine blk_drewN ?_ _ | refine blk_drew ?_ | refine blk_alloc ?_ _)); exact BK334.out⟩, ⟨by (with_reducible repeat (first | refine blk_drewN ?_ _ | refine blk_drew ?_ | refine blk_alloc ?_ _)); refine blk_put (cs := #[.string a0_0, .slice none 0 0]) ?_ 1 _ rfl; (with_reducible repeat (first | refine blk_drewN ?_ _ | refine blk_drew ?_ | refine blk_alloc ?_ _)); refine blk_put (cs := #[.string (⟨#[]⟩ : ByteArray), .slice none 0 0]) ?_ 0 _ rfl; (with_reducible repeat (first | refine blk_drewN ?_ _ | refine blk_drew ?_ | refine blk_alloc ?_ _)); exact BK335.out⟩, ⟨by repeat (first | (with_reducible first | exact HB.out | apply b_a | apply b_n | apply b_d | refine below_set ?_ GE333.out | refine below_set ?_ GE334.out | refine below_set ?_ GE335.out) | exact HB.out)⟩⟩
   case round =>
    clear H'
    try clear c1
    try clear p2
    try clear c3
    try clear c3b0
    try clear c3b1
    try clear c4
    try clear c4b0
    try clear c4b1
    try clear c7
    try clear c10
    try clear c11
    try clear hcz12_0
    try clear hcz12_1
    try clear hcz13_0
    try clear hcz13_1
    try clear hcz8_0
    try clear hcz8_1
    try clear hfz12_0
    try clear hfz12_1
    try clear hfz13_0
    try clear hfz13_1
    try clear hfz8_0
    try clear hfz8_1
    obtain ⟨x17_1, x336001_1, u336001, rfl, HA, HK1, HO_336001, BK333, BK334, BK335, HB⟩ := hrel
    cases gk with
    | zero => exact absurd HA.out (by simp [priceofficelaw06_raw.l0])
    | succ k1 =>
     have H := HA.out
     clear HA
     simp only [priceofficelaw06_raw.l0] at H
     by_cases c15 : x17_1 < ((l0_1.take ((ji2) : Int).toNat).length : Int)
     ·rw [if_pos c15] at H
      have c15b0 : decide (x17_1 < ((l0_1.take ((ji2) : Int).toNat).length : Int)) = true := decide_eq_true c15
      (try have c15b0x := c15b0)
      (try simp only [hltake] at c15b0x)
      clear c15
      by_cases c16 : 0 ≤ x17_1
      ·rw [if_pos c16] at H
       have c16b0 : decide (0 ≤ x17_1) = true := decide_eq_true c16
       clear c16
       by_cases c17 : x17_1 < ((l0_1.take ((ji2) : Int).toNat).length : Int)
       ·rw [if_pos c17] at H
        have c17b0 : decide (x17_1 < ((l0_1.take ((ji2) : Int).toNat).length : Int)) = true := decide_eq_true c17
        (try have c17b0x := c17b0)
        (try simp only [hltake] at c17b0x)
        clear c17
        obtain ⟨ji18, hji18⟩ : ∃ j_ : Int, (mn ((rdOf ByteArray.empty (l0_1.take ((ji2) : Int).toNat) x17_1).size : Int) 20) = j_ := ⟨_, rfl⟩
        replace H : (if 0 ≤ (ji18) then (if (ji18) ≤ ((rdOf ByteArray.empty (l0_1.take ((ji2) : Int).toNat) x17_1).size : Int) then (if x336001_1.length < 8796093022208 then (priceofficelaw06_raw.l0 k1 (l0_1.take ((ji2) : Int).toNat) ((l0_1.take ((ji2) : Int).toNat).length : Int) (wrap64 (x17_1 + 1)) a0_0 (x336001_1 ++ [(rdOf ByteArray.empty (l0_1.take ((ji2) : Int).toNat) x17_1).extract 0 ((ji18) : Int).toNat])) else (none)) else (none)) else (none)) = some (r1, r2) := by first | (rw [hji18] at H; exact H) | (simp only [hji18] at H ⊢; exact H)
        have hji18_ : (if 20 < ((rdOf ByteArray.empty (l0_1.take ((ji2) : Int).toNat) x17_1).size : Int) then 20 else ((rdOf ByteArray.empty (l0_1.take ((ji2) : Int).toNat) x17_1).size : Int)) = ji18 := hji18
        by_cases c19 : 0 ≤ (ji18)
        ·rw [if_pos c19] at H
         have c19b0 := eq_true c19
         have c19b1 : decide (0 ≤ (ji18)) = true := decide_eq_true c19
         clear c19
         by_cases c20 : (ji18) ≤ ((rdOf ByteArray.empty (l0_1.take ((ji2) : Int).toNat) x17_1).size : Int)
         ·rw [if_pos c20] at H
          have c20b0 := eq_true c20
          have c20b1 : decide ((ji18) ≤ ((rdOf ByteArray.empty (l0_1.take ((ji2) : Int).toNat) x17_1).size : Int)) = true := decide_eq_true c20
          clear c20
          by_cases c21 : x336001_1.length < 8796093022208
          ·rw [if_pos c21] at H
           have LMc21 := mk0 c21
           clear c21
           obtain ⟨y338, hy338⟩ : ∃ y_ : List ByteArray, y_ = (x336001_1 ++ [(rdOf ByteArray.empty (l0_1.take ((ji2) : Int).toNat) x17_1).extract 0 ((ji18) : Int).toNat]) := ⟨_, rfl⟩
           replace H : (priceofficelaw06_raw.l0 k1 (l0_1.take ((ji2) : Int).toNat) ((l0_1.take ((ji2) : Int).toNat).length : Int) (wrap64 (x17_1 + 1)) a0_0 y338) = some (r1, r2) := by first | (rw [hy338]; with_reducible exact H) | (have H2_ := (Option.bind_some _ _).symm.trans H; rw [hy338]; with_reducible exact H2_) | (have H2_ := (Option.bind_some _ _).symm.trans H; with_reducible exact H2_) | with_reducible exact H | (rw [hy338]; exact H) | exact H
           have Ny338 := mk0 hy338
           clear hy338
           have H' := mk0 H
           clear H
           have p337 : 0 ≤ (x17_1 : Int) := of_decide_eq_true (by first | (with_reducible assumption) | assumption)
           have q337 : x17_1 < ((l0_1.take ((ji2) : Int).toNat).length : Int) := of_decide_eq_true (by first | (with_reducible assumption) | assumption)
           obtain ⟨ad337, e337, hx337_0⟩ := Kd.at_string HR336.out x17_1 p337 q337
           cases e337
           replace hx337_0 := (HB.out.cell (World.block_lt_of_cell? w _ hx337_0)).trans hx337_0
           replace p337 := eq_true p337
           replace q337 := eq_true q337
           (try have q337x := q337)
           (try simp only [hltake] at q337x)
           try go_wp2
           have n0_ := mk0 (r_d HO_336001.out)
           have n1_ := mk0 (blk_drew BK333.out)
           have n2_ := mk0 (blk_drew BK334.out)
           have n3_ := mk0 (blk_drew BK335.out)
           have n4_ := mk0 (b_d HB.out)
           clear HO_336001
           clear BK333
           clear BK334
           clear BK335
           clear HB
           have HO_336001 := n0_
           have BK333 := n1_
           have BK334 := n2_
           have BK335 := n3_
           have HB := n4_
           clear n0_ n1_ n2_ n3_ n4_
           refine start_ (n := 11) (S := fun w' => w'.cell? ⟨gb335, 0, none⟩ = some (.string a0_0) ∧ w'.cell? ⟨gb335, 1, none⟩ = some (u336001)) (ds := [10]) #[false, false, false, false, false, false, false, false, false, false, false] (by kernel_rfl) rfl rfl ⟨(blk_cell BK335.out 0).trans rfl, (blk_cell BK335.out 1).trans rfl⟩ (fun hHeld => ?_); refine with_tabW priceofficelaw06_raw.tab5 priceofficelaw06_raw.bits5 (fun HT_ HW_ => ?_)
           generalize wr.drew = w22 at HO_336001 BK333 BK334 BK335 HB hHeld ⊢
           refine pure_ (i := 0) (N := some 21) (v := ?_) (a' := ?_) #[true, false, false, false, false, false, false, false, false, false, false] rfl rfl (any_of HT_.out (by kernel_rfl)) (fun _ _ _ h => h) (Or.inl ⟨by rfl, ?_⟩) ?_ ?_
           rotate_left
           ·intro w'
            go_simp
            with_reducible rfl
           rotate_left
           ·simp only [Act.put, List.setIfInBounds_toArray, List.set_cons_zero, List.set_cons_succ, i64_w, i32_w]
            rfl
           refine pure_ (i := 2) (N := some 23) (v := ?_) (a' := ?_) #[true, false, true, false, false, false, false, false, false, false, false] rfl rfl (any_of HT_.out (by kernel_rfl)) (fun _ _ _ h => h) (Or.inl ⟨by rfl, ?_⟩) ?_ ?_
           rotate_left
           ·intro w'
            go_simp
            with_reducible rfl
           rotate_left
           ·simp only [Act.put, List.setIfInBounds_toArray, List.set_cons_zero, List.set_cons_succ, i64_w, i32_w]
            rfl
           refine pure_ (i := 3) (N := some 24) (v := ?_) (a' := ?_) #[true, false, true, true, false, false, false, false, false, false, false] rfl rfl (any_of HT_.out (by kernel_rfl)) (fun _ _ _ h => h) (Or.inl ⟨by rfl, ?_⟩) ?_ ?_
           rotate_left
           ·intro w'
            go_simp
            with_reducible rfl
           rotate_left
           ·simp only [Act.put, List.setIfInBounds_toArray, List.set_cons_zero, List.set_cons_succ, i64_w, i32_w]
            rfl
           refine pure_ (i := 4) (N := some 25) (v := ?_) (a' := ?_) #[true, false, true, true, true, false, false, false, false, false, false] rfl rfl (any_of HT_.out (by kernel_rfl)) (fun _ _ _ h => h) (Or.inl ⟨by rfl, ?_⟩) ?_ ?_
           rotate_left
           ·intro w'
            go_simp
            with_reducible rfl
           rotate_left
           ·simp only [Act.put, List.setIfInBounds_toArray, List.set_cons_zero, List.set_cons_succ, i64_w, i32_w]
            rfl
           refine pure_ (i := 5) (N := some 26) (v := ?_) (a' := ?_) #[true, false, true, true, true, true, false, false, false, false, false] rfl rfl (any_of HT_.out (by kernel_rfl)) (fun _ _ _ h => h) (Or.inl ⟨by rfl, ?_⟩) ?_ ?_
           rotate_left
           ·intro w'
            go_simp
            with_reducible rfl
           rotate_left
           ·simp only [Act.put, List.setIfInBounds_toArray, List.set_cons_zero, List.set_cons_succ, i64_w, i32_w]
            rfl
           refine pure_ (i := 6) (N := some 27) (v := ?_) (a' := ?_) #[true, false, true, true, true, true, true, false, false, false, false] rfl rfl (any_of HT_.out (by kernel_rfl)) (fun _ _ _ h => h) (Or.inl ⟨by rfl, ?_⟩) ?_ ?_
           rotate_left
           ·intro w'
            go_simp
            with_reducible rfl
           rotate_left
           ·simp only [Act.put, List.setIfInBounds_toArray, List.set_cons_zero, List.set_cons_succ, i64_w, i32_w]
            rfl
           refine take_ (i := 1) (N := some 22) (v := ?_) (a' := ?_) #[true, true, true, true, true, true, true, false, false, false, false] rfl rfl (take_ofW HT_.out HW_.out (by kernel_rfl)) (fun _ _ _ h => h) (Or.inl ⟨by rfl, ?_⟩) hHeld ?_ ?_
           rotate_left
           ·rintro w' ⟨s0, s1⟩
            go_simp
            with_reducible rfl
           rotate_left
           ·simp only [Act.put, List.setIfInBounds_toArray, List.set_cons_zero, List.set_cons_succ, i64_w, i32_w]
            rfl
           refine one_ (i := 7) (N := some 28) #[true, true, true, true, true, true, true, true, false, false, false] rfl rfl (one_of HT_.out (by kernel_rfl)) (by decide) (fun K hK => ?_)
           refine value_ (w1 := ?_) (v := ?_) (by rfl) rfl ?_ ?_
           rotate_left 2
           ·go_simp
            constructor
            ·rfl
            ·rfl
           refine hK.out _ _ ⟨(blk_cell (blk_alloc BK335.out _) 0).trans rfl, (blk_cell (blk_alloc BK335.out _) 1).trans rfl⟩ (fun hHeld => ?_)
           clear hK K
           refine norm_ (a' := ?_) ?_ ?_
           rotate_left
           ·show Act.put _ (some 28) _ = _
            simp only [Act.put, List.setIfInBounds_toArray, List.set_cons_zero, List.set_cons_succ, i64_w, i32_w]
            rfl
           refine one_ (i := 8) (N := some 29) #[true, true, true, true, true, true, true, true, true, false, false] rfl rfl (one_of HT_.out (by kernel_rfl)) (by decide) (fun K hK => ?_)
           refine Kd.R_append_step Kd.string (w0 := w) w.heap.size (by rfl) (.tmp 22) (.tmp 28) 26 9 (.string ⟨#[]⟩) 16 rfl Tryd.underlying26 info9 rfl (by decide) (by omega) u336001 x336001_1 ((rdOf ByteArray.empty (l0_1.take ((ji2) : Int).toNat) x17_1).extract 0 ((ji18) : Int).toNat) [.string ((rdOf ByteArray.empty (l0_1.take ((ji2) : Int).toNat) x17_1).extract 0 ((ji18) : Int).toNat)] (fun _ => True) (fun _ => False) rfl rfl ?aP (fun _ hk => hk.elim) ?aF ?aO ?aB ?aS ?aL ?_
           (case aP => exact rfl)
           (case aB => exact (by repeat (first | (with_reducible first | exact HB.out | apply b_a | apply b_n | apply b_d | refine below_set ?_ GE333.out | refine below_set ?_ GE334.out | refine below_set ?_ GE335.out) | exact HB.out)))
           (case aF => exact (fun _ _ => trivial))
           (case aO => exact (by (with_reducible repeat (first | apply r_a | apply r_n | apply r_d)); exact HO_336001.out))
           (case aS => exact (below_size (by repeat (first | (with_reducible first | exact HB.out | apply b_a | apply b_n | apply b_d | refine below_set ?_ GE333.out | refine below_set ?_ GE334.out | refine below_set ?_ GE335.out) | exact HB.out))))
           (case aL => have := LMc21.out; omega)
           intro v339 w23 ho hb hg hat
           rw [← Ny338.out] at ho
           have n0_ := mk0 (blk_grown (g := gb333) (o := .cells #[.string a0_0, .slice (some ad337) l0_1.length c0_1] 28 (0, 0)) (by (with_reducible repeat (first | refine blk_drewN ?_ _ | refine blk_drew ?_ | refine blk_alloc ?_ _)); exact BK333.out) hg (Kd.R_ne HO_336001.out BK333.out (by decide)))
           have n1_ := mk0 (blk_grown (g := gb334) (o := .cells #[.string (⟨#[]⟩ : ByteArray), .slice none 0 0] 28 (0, 0)) (by (with_reducible repeat (first | refine blk_drewN ?_ _ | refine blk_drew ?_ | refine blk_alloc ?_ _)); exact BK334.out) hg (Kd.R_ne HO_336001.out BK334.out (by decide)))
           have n2_ := mk0 (blk_grown (g := gb335) (o := .cells #[.string a0_0, u336001] 28 (0, 0)) (by (with_reducible repeat (first | refine blk_drewN ?_ _ | refine blk_drew ?_ | refine blk_alloc ?_ _)); exact BK335.out) hg (Kd.R_ne HO_336001.out BK335.out (by decide)))
           have n3_ := mk0 (hb)
           have n4_ := mk0 (ho)
           clear BK333
           clear BK334
           clear BK335
           clear HB
           clear HO_336001
           have BK333 := n0_
           have BK334 := n1_
           have BK335 := n2_
           have HB := n3_
           have HO340 := n4_
           clear n0_ n1_ n2_ n3_ n4_
           clear ho hb hg hat
           obtain ⟨Ao24, co24, eo24⟩ := Kd.R_slice HO340.out
           (first | subst eo24 | (injection eo24 with f1_ f2_ f3_; have f4_ := f1_.symm; have f5_ := f3_.symm; clear f1_ f2_ f3_; subst f4_; subst f5_))
           refine hK.out _ _ ⟨(blk_cell BK335.out 0).trans rfl, (blk_cell BK335.out 1).trans rfl⟩ (fun hHeld => ?_)
           clear hK K
           refine norm_ (a' := ?_) ?_ ?_
           rotate_left
           ·show Act.put _ (some 29) _ = _
            simp only [Act.put, List.setIfInBounds_toArray, List.set_cons_zero, List.set_cons_succ, i64_w, i32_w]
            rfl
           refine pure_ (i := 9) (N := some 30) (v := ?_) (a' := ?_) #[true, true, true, true, true, true, true, true, true, true, false] rfl rfl (any_of HT_.out (by kernel_rfl)) (fun _ _ _ h => h) (Or.inl ⟨by rfl, ?_⟩) ?_ ?_
           rotate_left
           ·intro w'
            go_simp
            with_reducible rfl
           rotate_left
           ·simp only [Act.put, List.setIfInBounds_toArray, List.set_cons_zero, List.set_cons_succ, i64_w, i32_w]
            rfl
           refine last_ (i := 10) (N := none) #[true, true, true, true, true, true, true, true, true, true, true] rfl rfl (one_of HT_.out (by kernel_rfl)) (by decide) (fun K hK => ?_)
           have hs25 : w23.cell? ⟨gb335, 1, none⟩ = some (u336001) := (blk_cell BK335.out 1).trans rfl
           have hfs25 := blk_frozen BK335.out 1
           have hns25_0 := NB333_335.out
           have hns25_1 := NB334_335.out
           have hms25_0 := NB335_333.out
           have hms25_1 := NB335_334.out
           refine skip_ (w1 := ?_) (by rfl) rfl ?_ ?_
           rotate_left
           ·go_simp
            rfl
           refine hK.out _ _ ?_
           clear hK K
           refine done_ (done_of HT_.out (by kernel_rfl)) ?_
           try go_wp2
           go_roundg k1
           case measure => have := HK1.out; omega
           case rel => exact ⟨(wrap64 (x17_1 + 1)), (y338), (.slice Ao24 y338.length co24), (by first | rfl | (simp; done) | (simp [*]; done)), H', ⟨by have := HK1.out; omega⟩, ⟨by (with_reducible repeat (first | apply r_a | apply r_n | apply r_d)); exact Kd.R_mono (Kd.R_far (p := ⟨gb335, 1, none⟩) (Kd.R_types HO340.out BK335.out (by decide)) (fun _ hk => hk.2) (.slice Ao24 y338.length co24)) (fun _ hk => trivial)⟩, ⟨by (with_reducible repeat (first | refine blk_drewN ?_ _ | refine blk_drew ?_ | refine blk_alloc ?_ _)); refine blk_far ?_ NB333_335.out _; (with_reducible repeat (first | refine blk_drewN ?_ _ | refine blk_drew ?_ | refine blk_alloc ?_ _)); exact BK333.out⟩, ⟨by (with_reducible repeat (first | refine blk_drewN ?_ _ | refine blk_drew ?_ | refine blk_alloc ?_ _)); refine blk_far ?_ NB334_335.out _; (with_reducible repeat (first | refine blk_drewN ?_ _ | refine blk_drew ?_ | refine blk_alloc ?_ _)); exact BK334.out⟩, ⟨by (with_reducible repeat (first | refine blk_drewN ?_ _ | refine blk_drew ?_ | refine blk_alloc ?_ _)); refine blk_put (cs := #[.string a0_0, u336001]) ?_ 1 _ rfl; (with_reducible repeat (first | refine blk_drewN ?_ _ | refine blk_drew ?_ | refine blk_alloc ?_ _)); exact BK335.out⟩, ⟨by repeat (first | (with_reducible first | exact HB.out | apply b_a | apply b_n | apply b_d | refine below_set ?_ GE333.out | refine below_set ?_ GE334.out | refine below_set ?_ GE335.out) | exact HB.out)⟩⟩
          ·rw [if_neg c21] at H
           exact absurd H (by simp)
         ·rw [if_neg c20] at H
          exact absurd H (by simp)
        ·rw [if_neg c19] at H
         exact absurd H (by simp)
       ·rw [if_neg c17] at H
        exact absurd H (by simp)
      ·rw [if_neg c16] at H
       exact absurd H (by simp)
     ·rw [if_neg c15] at H
      have c15b0 : decide (x17_1 < ((l0_1.take ((ji2) : Int).toNat).length : Int)) = false := decide_eq_false c15
      (try have c15b0x := c15b0)
      (try simp only [hltake] at c15b0x)
      clear c15
      simp only [Option.some.injEq, Prod.mk.injEq] at H
      obtain ⟨rfl, rfl⟩ := H
      have hnb26 := NB335_333.out
      have hnc26 := NB333_335.out
      have hnb27 := NB335_334.out
      have hnc27 := NB334_335.out
      have hcz28_0 : wr.cell? ⟨gb335, 0, none⟩ = some (.string a0_0) := (blk_cell BK335.out 0).trans rfl
      have hcz28_1 : wr.cell? ⟨gb335, 1, none⟩ = some (u336001) := (blk_cell BK335.out 1).trans rfl
      have hfz28_0 := blk_frozen BK335.out 0
      have hfz28_1 := blk_frozen BK335.out 1
      have hnb29 := NB334_333.out
      have hnc29 := NB333_334.out
      have hcz30_0 : wr.cell? ⟨gb334, 0, none⟩ = some (.string (⟨#[]⟩ : ByteArray)) := (blk_cell BK334.out 0).trans rfl
      have hcz30_1 : wr.cell? ⟨gb334, 1, none⟩ = some (.slice none 0 0) := (blk_cell BK334.out 1).trans rfl
      have hfz30_0 := blk_frozen BK334.out 0
      have hfz30_1 := blk_frozen BK334.out 1
      obtain ⟨Ao31, co31, eo31⟩ := Kd.R_slice HO_336001.out
      subst eo31
      go_wp2
      refine bodyPost_ret (results_cell_row rfl _ _ gb334 28 #[.string a0_0, .slice Ao31 x336001_1.length co31] (0, 0) _ rfl (by (with_reducible repeat (first | refine blk_drewN ?_ _ | refine blk_drew ?_ | refine blk_alloc ?_ _)); refine blk_put (cs := #[.string a0_0, .slice none 0 0]) ?_ 1 _ rfl; (with_reducible repeat (first | refine blk_drewN ?_ _ | refine blk_drew ?_ | refine blk_alloc ?_ _)); refine blk_put (cs := #[.string (⟨#[]⟩ : ByteArray), .slice none 0 0]) ?_ 0 _ rfl; (with_reducible repeat (first | refine blk_drewN ?_ _ | refine blk_drew ?_ | refine blk_alloc ?_ _)); exact BK334.out) Tryd.underlying28 rfl (by kernel_rfl)) rfl ?_
      exact ⟨_, by first | rfl | (simp [errW_none, errW_some] <;> rfl) | (simp only [← hji2]; first | rfl | (simp [errW_none, errW_some] <;> rfl)) | (simp [*, errW_none, errW_some] <;> rfl), by (with_reducible repeat (first | apply r_a | apply r_n | apply r_d)); exact Kd.R_mono (Kd.R_far (p := ⟨gb334, 1, none⟩) (Kd.R_far (p := ⟨gb334, 0, none⟩) (Kd.R_types HO_336001.out BK334.out (by decide)) (fun _ hk => hk.2) (.string a0_0)) (fun _ hk => hk.2) (.slice Ao31 x336001_1.length co31)) (fun _ hk => trivial), by repeat (first | (with_reducible first | exact HB.out | apply b_a | apply b_n | apply b_d | refine below_set ?_ GE333.out | refine below_set ?_ GE334.out | refine below_set ?_ GE335.out) | exact HB.out)⟩
  ·rw [if_neg c4] at H
   exact absurd H (by simp)
 ·rw [if_neg c3] at H
  exact absurd H (by simp)

end Go.Proofs.YtpnoliognpmkmaaDoor.P
