/- ClassificationCovers: the walk: the call comes to what the Lean function tells. -/
import Derived.Test.YtpnoliognpmkmaaDoorP3
import Derived.Test.YtpnoliognpmkmaaDoorP4
import Derived.Test.YtpnoliognpmkmaaDoorP13
import Derived.Test.YtpnoliognpmkmaaDoorP15
import Derived.Test.YtpnoliognpmkmaaDoorP31
import Derived.Test.YtpnoliognpmkmaaDoorP32
import Derived.Test.YtpnoliognpmkmaaDoorP33
import Derived.Deep.RegionHeld
import Derived.Test.YtpnoliognpmkmaaDoorCVD
namespace Go.Proofs.YtpnoliognpmkmaaDoor.P
open Go.RowKit Go.Proofs.YtpnoliognpmkmaaDoorW.PrintWords Go.Proofs.YtpnoliognpmkmaaDoorW.PrintLast Go.Proofs.YtpnoliognpmkmaaDoorW.PrintMore
attribute [local go_sem] max2_int min2_int max_two min_two max_three min_three max_four min_four   -- for this text's walks alone
set_option linter.unusedVariables false
set_option linter.unusedSimpArgs false
section
variable {P : Program} {ops : Array Oper} {Q : Exit → Act → World → Prop} {md : Region.Mode} {S : World → Prop}
theorem forced_list {fuel i : Nat} {listed : Array Bool} {a : Act} {w : World} {o : Oper} (ho : ops[i]? = some o) (hr : Region.ready md ops listed = [i])
  (h : wpList P ops (fun e a' w' => match e with | .normal => S w' ∧ wpAnyH P md ops Q S fuel (listed.setIfInBounds i true) a' w' | e => Q e a' w') [o] a w) : wpAnyH P md ops Q S (fuel + 1) listed a w := by
 refine wpAnyH_all hr (by simp) (fun j hj => ?_)
 obtain rfl := List.mem_singleton.1 hj
 unfold wpOp
 simp only [ho]
 exact h
end
def priceofficelaw06_ClassificationCovers.T14 : Bool × List (List Nat × List Nat) := (true, [([], []), ([], []), ([], []), ([0, 1, 2], [0, 1, 2]), ([], []), ([], []), ([], []), ([4, 5, 6, 3], [4, 5, 6]), ([3, 7], [3, 7]), ([8, 7], [8]), ([9], [9]), ([9], [9]), ([9], [9]), ([10, 11, 12, 9, 9], [9, 10, 11, 12]), ([9], [9]), ([9], [9]), ([9], [9]), ([14, 15, 16, 13, 9], [9, 14, 15, 16]), ([13, 17, 9], [9, 13, 17]), ([9, 18], [9, 18]), ([19, 17], [19]), ([20], [20]), ([20], [20]), ([20], [20]), ([20], [20]), ([23, 24, 20, 20], [20, 23, 24]), ([21, 22, 25, 25, 20], [20, 21, 22, 25]), ([20, 26], [20, 26]), ([27, 26], [27]), ([28], [28]), ([28], [28]), ([30, 28, 28], [28, 30]), ([29, 31, 31, 28], [28, 29, 31]), ([28, 32], [28, 32]), ([33, 32], [33]), ([34, 34], [34]), ([34, 35], [34, 35]), ([36, 35, 0, 1, 2, 3, 4, 5, 6, 7, 8, 9, 10, 11, 12, 13, 14, 15, 16, 17, 18, 19, 20, 21, 22, 23, 24, 25, 26, 27, 28, 29, 30, 31, 32, 33, 34, 35, 36], [36])])
def priceofficelaw06_ClassificationCovers.B14 : List Nat := [0, 0, 0, 7, 0, 0, 0, 127, 255, 511, 1023, 1023, 1023, 8191, 1023, 1023, 1023, 131071, 262143, 524287, 1048575, 2097151, 2097151, 2097151, 2097151, 27262975, 67108863, 134217727, 268435455, 536870911, 536870911, 1610612735, 4294967295, 8589934591, 17179869183, 34359738367, 68719476735, 137438953471]
theorem priceofficelaw06_ClassificationCovers.tab14 : rtab .any (opsOf Tryd.f4 14) = priceofficelaw06_ClassificationCovers.T14 := by kernel_rfl
theorem priceofficelaw06_ClassificationCovers.bits14 : waitsOk priceofficelaw06_ClassificationCovers.T14.2 priceofficelaw06_ClassificationCovers.B14 = true := by kernel_rfl
set_option maxHeartbeats 8000000 in
set_option maxRecDepth 100000 in
theorem priceofficelaw06_ClassificationCovers.calls (k : Nat) (a0_0 : ByteArray) (A0_1 : Option Addr) (c0_1 : Nat) (l0_1 : List ByteArray) (a1 : ByteArray) (A2 : Option Addr) (c2 : Nat) (l2 : List ByteArray) (A3 : Option Addr) (c3 : Nat) (l3 : List Int) (r : Bool) (w : World) (hr0_1 : Kd.C Kd.string w A0_1 l0_1.length l0_1) (hc0_1 : l0_1.length ≤ c0_1) (hr2 : Kd.C Kd.string w A2 l2.length l2) (hc2 : l2.length ≤ c2) (hr3 : Kd.C (Kd.int .i64) w A3 l3.length l3) (hc3 : l3.length ≤ c3) (hG : GL w) (h : priceofficelaw06_ClassificationCovers.f k a0_0 l0_1 a1 l2 l3 = some r) :
  Calls Tryd.prog 4 #[.agg #[.string a0_0, .slice A0_1 l0_1.length c0_1], .string a1, .slice A2 l2.length c2, .slice A3 l3.length c3] w fun e w' => e = .returned (.bool r) ∧ Below w.heap.size w w' := by
 have HG := mk0 hG
 clear hG
 have hu28 := Tryd.underlying28
 have hu25 := Tryd.underlying25
 have hfd28 : ∀ (u v : Value) (w : World), (Instr.field 28 (.agg #[u, v]) 1).run Tryd.prog w = .ok v w := fun _ _ _ => by kernel_rfl
 have HR0_1 := mk0 hr0_1
 have HC0_1 := mk0 hc0_1
 clear hr0_1 hc0_1
 have HR2 := mk0 hr2
 have HC2 := mk0 hc2
 clear hr2 hc2
 have HR3 := mk0 hr3
 have HC3 := mk0 hc3
 clear hr3 hc3
 have HB := mk0 (Below.refl w.heap.size w)
 have H : ((priceofficemake_Tape_Tree.f k l3 0).bind fun bt388 => ((some (([(⟨#[]⟩ : ByteArray)] : List ByteArray) : List ByteArray)).bind fun y394 => (if y394.length + bt388.2.1.length < 8796093022208 then ((some (y394 ++ bt388.2.1 : List ByteArray)).bind fun y397 => ((priceofficemake_Tape_Next.f l3 bt388.2.2 (wrap64 ((bt388.2.1.length : Int) + 1))).bind fun bt400 => (if 0 ≤ bt400.1 then (if bt400.1 < (y397.length : Int) then (priceofficelaw06_ClassificationCovers.l0 k a1 l2 (rdOf ByteArray.empty y397 bt400.1) ([] : List ByteArray) bt388.2.1 (bt388.2.1.length : Int) 0 a0_0 l0_1 l3 bt400.2 bt388.1 bt388.2.1) else (none)) else (none)))) else (none)))) = some r := h
 clear h
 replace H := Option.bind_eq_some_iff.mp H
 obtain ⟨⟨t388, t389, t392⟩, A50, H⟩ := H
 replace H : ((some (([(⟨#[]⟩ : ByteArray)] : List ByteArray) : List ByteArray)).bind fun y394 => (if y394.length + t389.length < 8796093022208 then ((some (y394 ++ t389 : List ByteArray)).bind fun y397 => ((priceofficemake_Tape_Next.f l3 t392 (wrap64 ((t389.length : Int) + 1))).bind fun bt400 => (if 0 ≤ bt400.1 then (if bt400.1 < (y397.length : Int) then (priceofficelaw06_ClassificationCovers.l0 k a1 l2 (rdOf ByteArray.empty y397 bt400.1) ([] : List ByteArray) t389 (t389.length : Int) 0 a0_0 l0_1 l3 bt400.2 t388 t389) else (none)) else (none)))) else (none))) = some r := H
 have A5 := mk0 A50
 clear A50
 obtain ⟨y394, hy394⟩ : ∃ y_ : List ByteArray, y_ = (([(⟨#[]⟩ : ByteArray)] : List ByteArray)) := ⟨_, rfl⟩
 replace H : (if y394.length + t389.length < 8796093022208 then ((some (y394 ++ t389 : List ByteArray)).bind fun y397 => ((priceofficemake_Tape_Next.f l3 t392 (wrap64 ((t389.length : Int) + 1))).bind fun bt400 => (if 0 ≤ bt400.1 then (if bt400.1 < (y397.length : Int) then (priceofficelaw06_ClassificationCovers.l0 k a1 l2 (rdOf ByteArray.empty y397 bt400.1) ([] : List ByteArray) t389 (t389.length : Int) 0 a0_0 l0_1 l3 bt400.2 t388 t389) else (none)) else (none)))) else (none)) = some r := by first | (rw [hy394]; with_reducible exact H) | (have H2_ := (Option.bind_some _ _).symm.trans H; rw [hy394]; with_reducible exact H2_) | (have H2_ := (Option.bind_some _ _).symm.trans H; with_reducible exact H2_) | with_reducible exact H | (rw [hy394]; exact H) | exact H
 have Ny394 := mk0 hy394
 clear hy394
 by_cases c6 : y394.length + t389.length < 8796093022208
 ·rw [if_pos c6] at H
  have LMc6 := mk0 c6
  clear c6
  obtain ⟨y397, hy397⟩ : ∃ y_ : List ByteArray, y_ = (y394 ++ t389) := ⟨_, rfl⟩
  replace H : ((priceofficemake_Tape_Next.f l3 t392 (wrap64 ((t389.length : Int) + 1))).bind fun bt400 => (if 0 ≤ bt400.1 then (if bt400.1 < (y397.length : Int) then (priceofficelaw06_ClassificationCovers.l0 k a1 l2 (rdOf ByteArray.empty y397 bt400.1) ([] : List ByteArray) t389 (t389.length : Int) 0 a0_0 l0_1 l3 bt400.2 t388 t389) else (none)) else (none))) = some r := by first | (rw [hy397]; with_reducible exact H) | (have H2_ := (Option.bind_some _ _).symm.trans H; rw [hy397]; with_reducible exact H2_) | (have H2_ := (Option.bind_some _ _).symm.trans H; with_reducible exact H2_) | with_reducible exact H | (rw [hy397]; exact H) | exact H
  have Ny397 := mk0 hy397
  clear hy397
  replace H := Option.bind_eq_some_iff.mp H
  obtain ⟨⟨t400, t401⟩, A70, H⟩ := H
  replace H : (if 0 ≤ t400 then (if t400 < (y397.length : Int) then (priceofficelaw06_ClassificationCovers.l0 k a1 l2 (rdOf ByteArray.empty y397 t400) ([] : List ByteArray) t389 (t389.length : Int) 0 a0_0 l0_1 l3 t401 t388 t389) else (none)) else (none)) = some r := H
  have A7 := mk0 A70
  clear A70
  by_cases c8 : 0 ≤ t400
  ·rw [if_pos c8] at H
   have c8b0 : decide (0 ≤ t400) = true := decide_eq_true c8
   clear c8
   by_cases c9 : t400 < (y397.length : Int)
   ·rw [if_pos c9] at H
    have c9b0 : decide (t400 < (y397.length : Int)) = true := decide_eq_true c9
    clear c9
    have H' := mk0 H
    clear H
    go_enter Tryd.func4, Tryd.ntmps4
    go_wp2_with (first | ((with_reducible refine gate_dst (N := 4) rfl ?_); refine box_event ?hg (N := 4) ?hd (cs := #[.string a0_0, .slice A0_1 l0_1.length c0_1]) (t := 28) ?hr ?_; (case hd => rfl); (case hg => rfl); (case hr => first | (go_simp; done) | (go_simp; rfl)); intro gb386 hg w10 hbox hb; have n0_ := mk0 (below_step (by repeat (first | (with_reducible first | exact HB.out | apply b_a | apply b_n | apply b_d) | exact HB.out)) hb); have n1_ := mk0 (hbox); have n2_ := mk0 ((by rw [hg]; exact (below_size (by repeat (first | (with_reducible first | exact HB.out | apply b_a | apply b_n | apply b_d) | exact HB.out))) : w.heap.size ≤ gb386)); have n3_ := mk0 ((by rw [hg]; exact (below_size (by repeat (first | (with_reducible first | exact HB.out | apply b_a | apply b_n | apply b_d) | exact HB.out))) : w.heap.size ≤ gb386)); clear HB; have HB := n0_; have BK386 := n1_; have GW386 := n2_; have GE386 := n3_; clear n0_ n1_ n2_ n3_; clear hb hbox hg) | ((with_reducible refine gate_dst (N := 17) rfl ?_); refine box_event ?hg (N := 17) ?hd (cs := #[.slice A3 l3.length c3, .int .i64 0]) (t := 25) ?hr ?_; (case hd => rfl); (case hg => rfl); (case hr => first | (go_simp; done) | (go_simp; rfl)); intro gb387 hg w11 hbox hb; have n0_ := mk0 (blk_below (g := gb386) (o := .cells #[.string a0_0, .slice A0_1 l0_1.length c0_1] 28 (0, 0)) (by (with_reducible repeat (first | refine blk_drewN ?_ _ | refine blk_drew ?_ | refine blk_alloc ?_ _)); exact BK386.out) hb); have n1_ := mk0 (below_step (by repeat (first | (with_reducible first | exact HB.out | apply b_a | apply b_n | apply b_d | refine below_set ?_ GE386.out) | exact HB.out)) hb); have n2_ := mk0 (hbox); have n3_ := mk0 ((by rw [hg]; exact (below_size (by repeat (first | (with_reducible first | exact HB.out | apply b_a | apply b_n | apply b_d | refine below_set ?_ GE386.out) | exact HB.out))) : w.heap.size ≤ gb387)); have n4_ := mk0 ((by rw [hg]; exact (below_size (by repeat (first | (with_reducible first | exact HB.out | apply b_a | apply b_n | apply b_d | refine below_set ?_ GE386.out) | exact HB.out))) : w.heap.size ≤ gb387)); have n5_ := mk0 ((by rw [hg]; exact Nat.ne_of_lt (blk_lt (g := gb386) (o := .cells #[.string a0_0, .slice A0_1 l0_1.length c0_1] 28 (0, 0)) (by (with_reducible repeat (first | refine blk_drewN ?_ _ | refine blk_drew ?_ | refine blk_alloc ?_ _)); exact BK386.out)) : gb386 ≠ gb387)); have n6_ := mk0 ((by rw [hg]; exact Nat.ne_of_gt (blk_lt (g := gb386) (o := .cells #[.string a0_0, .slice A0_1 l0_1.length c0_1] 28 (0, 0)) (by (with_reducible repeat (first | refine blk_drewN ?_ _ | refine blk_drew ?_ | refine blk_alloc ?_ _)); exact BK386.out)) : gb387 ≠ gb386)); have n7_ := mk0 ((show IsS25 w w11 gb387 l3 0 from ⟨_, _, hbox, (by rw [hg]; exact (below_size (by repeat (first | (with_reducible first | exact HB.out | apply b_a | apply b_n | apply b_d | refine below_set ?_ GE386.out) | exact HB.out))) : w.heap.size ≤ gb387), HR3.out⟩)); clear BK386; clear HB; have BK386 := n0_; have HB := n1_; have BK387 := n2_; have GW387 := n3_; have GE387 := n4_; have NB386_387 := n5_; have NB387_386 := n6_; have HI387 := n7_; clear n0_ n1_ n2_ n3_ n4_ n5_ n6_ n7_; clear hb hbox hg) | ((with_reducible refine gate_callee (f := 13) rfl ?_); refine goesL_ (some 19) rfl rfl Tryd.func13 (by kernel_rfl) rfl #[.pointer (some ⟨gb387, 0, none⟩)] rfl (by (try simp only [List.map_toArray, List.map_cons, List.map_nil]); first | done | rfl | (simp only [List.length_drop, List.length_take]; rfl)) ?_; (with_reducible refine (priceofficemake_Tape_Tree.calls k gb387 l3 0 t388 t389 t392 w _ ?side1 ?side2 A5.out).mono ?_); (case side1 => repeat (first | (with_reducible first | exact HI387.out | apply IsS25.alloc | apply IsS25.drewN | apply IsS25.drew | apply IsS25.set_1 | refine IsS25.far ?_ NB387_386.out _) | exact HI387.out)); (case side2 => repeat (first | (with_reducible first | exact HB.out | apply b_a | apply b_n | apply b_d | refine below_set ?_ (IsS25.ge HI387.out) | refine below_set ?_ GE386.out) | exact HB.out)); rintro e w12 ⟨v390, rfl, ho0, hi, hb, hk⟩; refine ⟨_, rfl, ?_⟩; have n0_ := mk0 (KeepBut.blk hk (g' := gb386) (o := .cells #[.string a0_0, .slice A0_1 l0_1.length c0_1] 28 (0, 0)) (by (with_reducible repeat (first | refine blk_drewN ?_ _ | refine blk_drew ?_ | refine blk_alloc ?_ _)); exact BK386.out) NB386_387.out (by simp)); have n1_ := mk0 (Kd.R_lower ho0 (below_size (by repeat (first | (with_reducible first | exact HB.out | apply b_a | apply b_n | apply b_d | refine below_set ?_ (IsS25.ge HI387.out) | refine below_set ?_ GE386.out) | exact HB.out)))); have n2_ := mk0 (hb); have n3_ := mk0 (hi); clear BK386; clear HB; clear HI387; have BK386 := n0_; have HO391 := n1_; have HB := n2_; have HI387 := n3_; clear n0_ n1_ n2_ n3_; (try clear hb); (try clear hb2); (try clear hk); (try clear hi); (try clear ho0)) | ((with_reducible refine gate_dst (N := 10) rfl ?_); refine box_event ?hg (N := 10) ?hd (cs := #[.string (⟨#[]⟩ : ByteArray), .slice none 0 0]) (t := 28) ?hr ?_; (case hd => rfl); (case hg => rfl); (case hr => first | (go_simp; done) | (go_simp; rfl)); intro gb393 hg w13 hbox hb; have n0_ := mk0 (Kd.R_below (by (with_reducible repeat (first | apply r_a | apply r_n | apply r_d)); exact HO391.out) hb); have n1_ := mk0 (blk_below (g := gb386) (o := .cells #[.string a0_0, .slice A0_1 l0_1.length c0_1] 28 (0, 0)) (by (with_reducible repeat (first | refine blk_drewN ?_ _ | refine blk_drew ?_ | refine blk_alloc ?_ _)); exact BK386.out) hb); have n2_ := mk0 (IsS25.below (by repeat (first | (with_reducible first | exact HI387.out | apply IsS25.alloc | apply IsS25.drewN | apply IsS25.drew | apply IsS25.set_1 | refine IsS25.far ?_ NB387_386.out _) | exact HI387.out)) hb); have n3_ := mk0 (below_step (by repeat (first | (with_reducible first | exact HB.out | apply b_a | apply b_n | apply b_d | refine below_set ?_ (IsS25.ge HI387.out) | refine below_set ?_ GE386.out) | exact HB.out)) hb); have n4_ := mk0 (hbox); have n5_ := mk0 ((by rw [hg]; exact (below_size (by repeat (first | (with_reducible first | exact HB.out | apply b_a | apply b_n | apply b_d | refine below_set ?_ (IsS25.ge HI387.out) | refine below_set ?_ GE386.out) | exact HB.out))) : w.heap.size ≤ gb393)); have n6_ := mk0 ((by rw [hg]; exact (below_size (by repeat (first | (with_reducible first | exact HB.out | apply b_a | apply b_n | apply b_d | refine below_set ?_ (IsS25.ge HI387.out) | refine below_set ?_ GE386.out) | exact HB.out))) : w.heap.size ≤ gb393)); have n7_ := mk0 ((by rw [hg]; exact Nat.ne_of_lt (blk_lt (g := gb386) (o := .cells #[.string a0_0, .slice A0_1 l0_1.length c0_1] 28 (0, 0)) (by (with_reducible repeat (first | refine blk_drewN ?_ _ | refine blk_drew ?_ | refine blk_alloc ?_ _)); exact BK386.out)) : gb386 ≠ gb393)); have n8_ := mk0 ((by rw [hg]; exact Nat.ne_of_gt (blk_lt (g := gb386) (o := .cells #[.string a0_0, .slice A0_1 l0_1.length c0_1] 28 (0, 0)) (by (with_reducible repeat (first | refine blk_drewN ?_ _ | refine blk_drew ?_ | refine blk_alloc ?_ _)); exact BK386.out)) : gb393 ≠ gb386)); have n9_ := mk0 ((by rw [hg]; exact Nat.ne_of_lt (IsS25.lt (show IsS25 w _ gb387 l3 t392 from by repeat (first | (with_reducible first | exact HI387.out | apply IsS25.alloc | apply IsS25.drewN | apply IsS25.drew | apply IsS25.set_1 | refine IsS25.far ?_ NB387_386.out _) | exact HI387.out))) : gb387 ≠ gb393)); have n10_ := mk0 ((by rw [hg]; exact Nat.ne_of_gt (IsS25.lt (show IsS25 w _ gb387 l3 t392 from by repeat (first | (with_reducible first | exact HI387.out | apply IsS25.alloc | apply IsS25.drewN | apply IsS25.drew | apply IsS25.set_1 | refine IsS25.far ?_ NB387_386.out _) | exact HI387.out))) : gb393 ≠ gb387)); clear HO391; clear BK386; clear HI387; clear HB; have HO391 := n0_; have BK386 := n1_; have HI387 := n2_; have HB := n3_; have BK393 := n4_; have GW393 := n5_; have GE393 := n6_; have NB386_393 := n7_; have NB393_386 := n8_; have NB387_393 := n9_; have NB393_387 := n10_; clear n0_ n1_ n2_ n3_ n4_ n5_ n6_ n7_ n8_ n9_ n10_; clear hb hbox hg; have hnb14 := NB393_386.out; have hnc14 := NB386_393.out; have hnb15 := NB393_387.out; have hnc15 := NB387_393.out; have hcz16_0 : w13.cell? ⟨gb393, 0, none⟩ = some (.string (⟨#[]⟩ : ByteArray)) := (blk_cell BK393.out 0).trans rfl; have hcz16_1 : w13.cell? ⟨gb393, 1, none⟩ = some (.slice none 0 0) := (blk_cell BK393.out 1).trans rfl; have hfz16_0 := blk_frozen BK393.out 0; have hfz16_1 := blk_frozen BK393.out 1; obtain ⟨Ao17, co17, eo17⟩ := Kd.R_slice HO391.out; subst eo17) | ((with_reducible refine gate_dst (N := 20) rfl ?_); refine Kd.R_lit Kd.string _ 9 ?hg (N := 20) ?hd (xs := ([(⟨#[]⟩ : ByteArray)] : List ByteArray)) (inner := [.string (⟨#[]⟩ : ByteArray)]) (ok := fun _ => True) (okp := fun _ => True) ?hr ?hp (fun _ hk => hk) trivial (Below.refl _ _) (Nat.le_refl _) (by simp) ?_; (case hd => rfl); (case hg => rfl); (case hr => first | (go_simp; done) | (go_simp; rfl)); (case hp => exact (Reps.one (show Kd.M Kd.string _ _ _ (⟨#[]⟩ : ByteArray) [.string (⟨#[]⟩ : ByteArray)] from rfl) (Reps.none _ _))); intro v395 w18 ho19 hb hg_ hnew_; clear hg_ hnew_; (first | rw [← Ny394.out] at ho19 | (simp only [Int.reduceToNat] at ho19; rw [← Ny394.out] at ho19)); have n0_ := mk0 (Kd.R_elder' (by (with_reducible repeat (first | apply r_a | apply r_n | apply r_d)); exact (Kd.R_mono (Kd.R_far (p := ⟨gb393, 1, none⟩) (Kd.R_far (p := ⟨gb393, 0, none⟩) (Kd.R_types HO391.out BK393.out (by decide)) (fun _ hk => hk.2) (.string t388)) (fun _ hk => hk.2) (.slice Ao17 t389.length co17)) (fun _ h_ => h_.1))) (Kd.R_base ho19) hb); have n1_ := mk0 (Kd.R_lower (Kd.R_new' ho19 (Kd.R_lt (by (with_reducible repeat (first | apply r_a | apply r_n | apply r_d)); exact (Kd.R_mono (Kd.R_far (p := ⟨gb393, 1, none⟩) (Kd.R_far (p := ⟨gb393, 0, none⟩) (Kd.R_types HO391.out BK393.out (by decide)) (fun _ hk => hk.2) (.string t388)) (fun _ hk => hk.2) (.slice Ao17 t389.length co17)) (fun _ h_ => h_.1))))) (below_size (by repeat (first | (with_reducible first | exact HB.out | apply b_a | apply b_n | apply b_d | refine below_set ?_ (IsS25.ge HI387.out) | refine below_set ?_ GE386.out | refine below_set ?_ GE393.out) | exact HB.out)))); have n2_ := mk0 (blk_below (g := gb386) (o := .cells #[.string a0_0, .slice A0_1 l0_1.length c0_1] 28 (0, 0)) (by (with_reducible repeat (first | refine blk_drewN ?_ _ | refine blk_drew ?_ | refine blk_alloc ?_ _)); refine blk_far ?_ NB386_393.out _; (with_reducible repeat (first | refine blk_drewN ?_ _ | refine blk_drew ?_ | refine blk_alloc ?_ _)); refine blk_far ?_ NB386_393.out _; (with_reducible repeat (first | refine blk_drewN ?_ _ | refine blk_drew ?_ | refine blk_alloc ?_ _)); exact BK386.out) hb); have n3_ := mk0 (IsS25.below (show IsS25 w ((w13.setCell ⟨gb393, 0, none⟩ (.string t388)).setCell ⟨gb393, 1, none⟩ (.slice Ao17 t389.length co17)) gb387 l3 t392 from by repeat (first | (with_reducible first | exact HI387.out | apply IsS25.alloc | apply IsS25.drewN | apply IsS25.drew | apply IsS25.set_1 | refine IsS25.far ?_ NB387_386.out _ | refine IsS25.far ?_ NB387_393.out _) | exact HI387.out)) hb); have n4_ := mk0 (blk_below (g := gb393) (o := .cells #[.string t388, .slice Ao17 t389.length co17] 28 (0, 0)) (by (with_reducible repeat (first | refine blk_drewN ?_ _ | refine blk_drew ?_ | refine blk_alloc ?_ _)); refine blk_put (cs := #[.string t388, .slice none 0 0]) ?_ 1 _ rfl; (with_reducible repeat (first | refine blk_drewN ?_ _ | refine blk_drew ?_ | refine blk_alloc ?_ _)); refine blk_put (cs := #[.string (⟨#[]⟩ : ByteArray), .slice none 0 0]) ?_ 0 _ rfl; (with_reducible repeat (first | refine blk_drewN ?_ _ | refine blk_drew ?_ | refine blk_alloc ?_ _)); exact BK393.out) hb); have n5_ := mk0 (below_step (by repeat (first | (with_reducible first | exact HB.out | apply b_a | apply b_n | apply b_d | refine below_set ?_ (IsS25.ge HI387.out) | refine below_set ?_ GE386.out | refine below_set ?_ GE393.out) | exact HB.out)) hb); clear HO391; clear BK386; clear HI387; clear BK393; clear HB; have HO391 := n0_; have HO396 := n1_; have BK386 := n2_; have HI387 := n3_; have BK393 := n4_; have HB := n5_; clear n0_ n1_ n2_ n3_ n4_ n5_; clear hb ho19; have hcz20_0 : w18.cell? ⟨gb393, 0, none⟩ = some (.string t388) := (blk_cell BK393.out 0).trans rfl; have hcz20_1 : w18.cell? ⟨gb393, 1, none⟩ = some (.slice Ao17 t389.length co17) := (blk_cell BK393.out 1).trans rfl; have hfz20_0 := blk_frozen BK393.out 0; have hfz20_1 := blk_frozen BK393.out 1) | ((with_reducible refine gate_builtin (b := .append) (xs := #[.tmp 20, .tmp 22]) rfl ?_); at_builtin; refine Kd.R_append_rows Kd.string (w0 := w) w.heap.size rfl (.tmp 20) (.tmp 22) 26 9 (.string ⟨#[]⟩) 16 rfl Tryd.underlying26 info9 rfl (by decide) (by omega) v395 y394 t389 _ _ _ (fun k_ => some k_ ≠ (.slice Ao17 t389.length co17 : Value).ownBlock) (fun _ => False) rfl rfl ?aO ?aR (fun _ _ h => h) (fun _ h => h.elim) ?aF ?aB ?aS ?aL ?_; (case aR => repeat (first | exact (Kd.R_reads' HO391.out).2.2 | (with_reducible refine Kd.C_alloc ?_ _) | (with_reducible refine Kd.C_drewN ?_ _) | (with_reducible refine Kd.C_drew ?_))); (case aB => exact (by repeat (first | (with_reducible first | exact HB.out | apply b_a | apply b_n | apply b_d | refine below_set ?_ (IsS25.ge HI387.out) | refine below_set ?_ GE386.out | refine below_set ?_ GE393.out) | exact HB.out))); (case aF => exact (fun k_ hk => Kd.fresh' (Kd.R_lt (by (with_reducible repeat (first | apply r_a | apply r_n | apply r_d)); exact HO391.out)) k_ hk)); (case aO => exact (by (with_reducible repeat (first | apply r_a | apply r_n | apply r_d)); exact Kd.R_mono HO396.out (fun _ hk => hk.2))); (case aS => exact (below_size (by repeat (first | (with_reducible first | exact HB.out | apply b_a | apply b_n | apply b_d | refine below_set ?_ (IsS25.ge HI387.out) | refine below_set ?_ GE386.out | refine below_set ?_ GE393.out) | exact HB.out)))); (case aL => have := LMc6.out; omega); intro v398 w21 ho hb hg hat; rw [← Ny397.out] at ho; have n0_ := mk0 (blk_grown (g := gb386) (o := .cells #[.string a0_0, .slice A0_1 l0_1.length c0_1] 28 (0, 0)) (by (with_reducible repeat (first | refine blk_drewN ?_ _ | refine blk_drew ?_ | refine blk_alloc ?_ _)); exact BK386.out) hg (Kd.R_ne HO396.out BK386.out (by decide))); have n1_ := mk0 (IsS25.grown (by repeat (first | (with_reducible first | exact HI387.out | apply IsS25.alloc | apply IsS25.drewN | apply IsS25.drew | apply IsS25.set_1 | refine IsS25.far ?_ NB387_386.out _ | refine IsS25.far ?_ NB387_393.out _) | exact HI387.out)) hg (IsS25.own_ne HI387.out HO396.out (by decide))); have n2_ := mk0 (Kd.R_after (ok := (fun _ => True)) (by (with_reducible repeat (first | apply r_a | apply r_n | apply r_d)); exact HO391.out) hg hat); have n3_ := mk0 (blk_grown (g := gb393) (o := .cells #[.string t388, .slice Ao17 t389.length co17] 28 (0, 0)) (by (with_reducible repeat (first | refine blk_drewN ?_ _ | refine blk_drew ?_ | refine blk_alloc ?_ _)); exact BK393.out) hg (Kd.R_ne HO396.out BK393.out (by decide))); have n4_ := mk0 (hb); have n5_ := mk0 (ho); clear BK386; clear HI387; clear HO391; clear BK393; clear HB; clear HO396; have BK386 := n0_; have HI387 := n1_; have HO391 := n2_; have BK393 := n3_; have HB := n4_; have HO399 := n5_; clear n0_ n1_ n2_ n3_ n4_ n5_; clear ho hb hg hat; have hcz22_0 : w21.cell? ⟨gb393, 0, none⟩ = some (.string t388) := (blk_cell BK393.out 0).trans rfl; have hcz22_1 : w21.cell? ⟨gb393, 1, none⟩ = some (.slice Ao17 t389.length co17) := (blk_cell BK393.out 1).trans rfl; have hfz22_0 := blk_frozen BK393.out 0; have hfz22_1 := blk_frozen BK393.out 1) | ((with_reducible refine gate_callee (f := 18) rfl ?_); refine goesL_ (some 29) rfl rfl Tryd.func18 (by kernel_rfl) rfl #[.pointer (some ⟨gb387, 0, none⟩), .int .i64 (wrap64 ((t389.length : Int) + 1))] rfl (by (try simp only [List.map_toArray, List.map_cons, List.map_nil]); first | done | rfl | (simp only [List.length_drop, List.length_take]; rfl)) ?_; (with_reducible refine (priceofficemake_Tape_Next.calls gb387 l3 t392 (wrap64 ((t389.length : Int) + 1)) t400 t401 w _ ?side1 ?side2 A7.out).mono ?_); (case side1 => repeat (first | (with_reducible first | exact HI387.out | apply IsS25.alloc | apply IsS25.drewN | apply IsS25.drew | apply IsS25.set_1 | refine IsS25.far ?_ NB387_386.out _ | refine IsS25.far ?_ NB387_393.out _) | exact HI387.out)); (case side2 => repeat (first | (with_reducible first | exact HB.out | apply b_a | apply b_n | apply b_d | refine below_set ?_ (IsS25.ge HI387.out) | refine below_set ?_ GE386.out | refine below_set ?_ GE393.out) | exact HB.out)); rintro e w23 ⟨rfl, hi, hb, hk⟩; refine ⟨_, rfl, ?_⟩; have n0_ := mk0 (KeepBut.blk hk (g' := gb386) (o := .cells #[.string a0_0, .slice A0_1 l0_1.length c0_1] 28 (0, 0)) (by (with_reducible repeat (first | refine blk_drewN ?_ _ | refine blk_drew ?_ | refine blk_alloc ?_ _)); exact BK386.out) NB386_387.out (by simp)); have n1_ := mk0 (Kd.R_mono (Kd.R_keep (IsS25.apart (show IsS25 w _ gb387 l3 t392 from by repeat (first | (with_reducible first | exact HI387.out | apply IsS25.alloc | apply IsS25.drewN | apply IsS25.drew | apply IsS25.set_1 | refine IsS25.far ?_ NB387_386.out _ | refine IsS25.far ?_ NB387_393.out _) | exact HI387.out)) (by (with_reducible repeat (first | apply r_a | apply r_n | apply r_d)); exact HO391.out) (by decide)) hk (fun _ h => h.2)) (fun _ h => h.1)); have n2_ := mk0 (KeepBut.blk hk (g' := gb393) (o := .cells #[.string t388, .slice Ao17 t389.length co17] 28 (0, 0)) (by (with_reducible repeat (first | refine blk_drewN ?_ _ | refine blk_drew ?_ | refine blk_alloc ?_ _)); exact BK393.out) NB393_387.out (by simp)); have n3_ := mk0 (Kd.R_mono (Kd.R_keep (IsS25.apart (show IsS25 w _ gb387 l3 t392 from by repeat (first | (with_reducible first | exact HI387.out | apply IsS25.alloc | apply IsS25.drewN | apply IsS25.drew | apply IsS25.set_1 | refine IsS25.far ?_ NB387_386.out _ | refine IsS25.far ?_ NB387_393.out _) | exact HI387.out)) (by (with_reducible repeat (first | apply r_a | apply r_n | apply r_d)); exact HO399.out) (by decide)) hk (fun _ h => h.2)) (fun _ h => h.1)); have n4_ := mk0 (hb); have n5_ := mk0 (hi); clear BK386; clear HO391; clear BK393; clear HO399; clear HB; clear HI387; have BK386 := n0_; have HO391 := n1_; have BK393 := n2_; have HO399 := n3_; have HB := n4_; have HI387 := n5_; clear n0_ n1_ n2_ n3_ n4_ n5_; (try clear hb); (try clear hb2); (try clear hk); (try clear hi); obtain ⟨Ao24, co24, eo24⟩ := Kd.R_slice HO399.out; subst eo24; have p402 : 0 ≤ (t400 : Int) := of_decide_eq_true (by first | (with_reducible assumption) | assumption); have q402 : t400 < (y397.length : Int) := of_decide_eq_true (by first | (with_reducible assumption) | assumption); obtain ⟨ad402, e402, hx402_0⟩ := Kd.at_string (Kd.R_reads' HO399.out).2.2 t400 p402 q402; cases e402; replace p402 := eq_true p402; replace q402 := eq_true q402; have hcz25_0 : w23.cell? ⟨gb393, 0, none⟩ = some (.string t388) := (blk_cell BK393.out 0).trans rfl; have hcz25_1 : w23.cell? ⟨gb393, 1, none⟩ = some (.slice Ao17 t389.length co17) := (blk_cell BK393.out 1).trans rfl; have hfz25_0 := blk_frozen BK393.out 0; have hfz25_1 := blk_frozen BK393.out 1))
    have m0_ := mk0 (r_d (Kd.R_mono (Kd.R_far (p := ⟨gb393, 1, none⟩) (Kd.R_far (p := ⟨gb393, 0, none⟩) (Kd.R_types HO391.out BK393.out (by decide)) (fun _ hk => hk.2) (.string t388)) (fun _ hk => hk.2) (.slice Ao17 t389.length co17)) (fun _ h_ => h_.1)))
    have m1_ := mk0 (blk_drew (blk_far (blk_far BK386.out (p := ⟨gb393, 0, none⟩) NB386_393.out (.string t388)) (p := ⟨gb393, 1, none⟩) NB386_393.out (.slice Ao17 t389.length co17)))
    have m2_ := mk0 (IsS25.drew (IsS25.far (IsS25.far HI387.out (p := ⟨gb393, 0, none⟩) NB387_393.out (.string t388)) (p := ⟨gb393, 1, none⟩) NB387_393.out (.slice Ao17 t389.length co17)))
    have m3_ := mk0 (show (((w13.setCell ⟨gb393, 0, none⟩ (.string t388)).setCell ⟨gb393, 1, none⟩ (.slice Ao17 t389.length co17)).drew).heap[gb393]? = some (Obj.cells #[.string t388, .slice Ao17 t389.length co17] 28 (0, 0)) from blk_drew (blk_put (cs := #[.string t388, .slice none 0 0]) (blk_put (cs := #[.string (⟨#[]⟩ : ByteArray), .slice none 0 0]) BK393.out 0 (.string t388) rfl) 1 (.slice Ao17 t389.length co17) rfl))
    have m4_ := mk0 (b_d (below_set (j := 1) (v := .slice Ao17 t389.length co17) (below_set (j := 0) (v := .string t388) HB.out GE393.out) GE393.out))
    have hc1 : ((w13.setCell ⟨gb393, 0, none⟩ (.string t388)).setCell ⟨gb393, 1, none⟩ (.slice Ao17 t389.length co17)).drew.cell? ⟨gb393, 1, none⟩ = some (.slice Ao17 t389.length co17) := (blk_cell m3_.out 1).trans rfl
    refine wp_region_held_drew (S := fun w' => w'.cell? ⟨gb393, 1, none⟩ = some (.slice Ao17 t389.length co17)) (by kernel_rfl) hc1 (fun hH => ?_)
    clear HO391 BK386 HI387 BK393 HB hcz16_0 hcz16_1 hfz16_0 hfz16_1
    have HO391 := m0_
    have BK386 := m1_
    have HI387 := m2_
    have BK393 := m3_
    have HB := m4_
    clear m0_ m1_ m2_ m3_ m4_
    generalize ((w13.setCell ⟨gb393, 0, none⟩ (.string t388)).setCell ⟨gb393, 1, none⟩ (.slice Ao17 t389.length co17)).drew = Wd at *
    refine wpAnyH_take (i := 1) (oi := { dst := some 21, op := .fieldAddr 28 (.tmp 10) 1, type := 0, pos := _, after := _, guard := none }) (v := .pointer (some ⟨gb393, 1, none⟩)) rfl (by kernel_rfl) (by kernel_rfl) (by kernel_rfl) (fun _ _ _ h => h) (Or.inl ⟨by kernel_rfl, fun w _ => by go_simp⟩) hH ?_
    simp only [Act.put, List.setIfInBounds_toArray, List.set_cons_zero, List.set_cons_succ]
    refine wpAnyH_take (i := 2) (oi := { dst := some 22, op := .load 26 (.tmp 21), type := 26, pos := _, after := _, guard := none }) (v := .slice Ao17 t389.length co17) rfl (by kernel_rfl) (by kernel_rfl) (by kernel_rfl) (fun _ _ _ h => h) (Or.inl ⟨by kernel_rfl, fun w hSw => by go_simp⟩) hH ?_
    simp only [Act.put, List.setIfInBounds_toArray, List.set_cons_zero, List.set_cons_succ]
    refine wpAnyH_take (i := 4) (oi := { dst := some 24, op := .move (.tmp 9), type := 23, pos := _, after := _, guard := none }) (v := .pointer (some ⟨gb387, 0, none⟩)) rfl (by kernel_rfl) (by kernel_rfl) (by kernel_rfl) (fun _ _ _ h => h) (Or.inl ⟨by kernel_rfl, fun w _ => rfl⟩) hH ?_
    simp only [Act.put, List.setIfInBounds_toArray, List.set_cons_zero, List.set_cons_succ]
    refine wpAnyH_take (i := 5) (oi := { dst := some 25, op := .fieldAddr 28 (.tmp 10) 1, type := 0, pos := _, after := _, guard := none }) (v := .pointer (some ⟨gb393, 1, none⟩)) rfl (by kernel_rfl) (by kernel_rfl) (by kernel_rfl) (fun _ _ _ h => h) (Or.inl ⟨by kernel_rfl, fun w _ => by go_simp⟩) hH ?_
    simp only [Act.put, List.setIfInBounds_toArray, List.set_cons_zero, List.set_cons_succ]
    refine wpAnyH_take (i := 6) (oi := { dst := some 26, op := .load 26 (.tmp 25), type := 26, pos := _, after := _, guard := none }) (v := .slice Ao17 t389.length co17) rfl (by kernel_rfl) (by kernel_rfl) (by kernel_rfl) (fun _ _ _ h => h) (Or.inl ⟨by kernel_rfl, fun w hSw => by go_simp⟩) hH ?_
    simp only [Act.put, List.setIfInBounds_toArray, List.set_cons_zero, List.set_cons_succ]
    refine wpAnyH_take (i := 7) (oi := { dst := some 27, op := .call { callee := .builtin .len, args := #[.tmp 26], argTypes := #[26] }, type := 3, pos := _, after := _, guard := none }) (v := .int .i64 (t389.length : Int)) rfl (by kernel_rfl) (by kernel_rfl) (by kernel_rfl) (fun _ _ _ h => h) (Or.inl ⟨by kernel_rfl, fun w _ => by go_simp⟩) hH ?_
    simp only [Act.put, List.setIfInBounds_toArray, List.set_cons_zero, List.set_cons_succ]
    refine wpAnyH_take (i := 8) (oi := { dst := some 28, op := .binOp .add 3 (.tmp 27) (.const (.int .i64 1)) 3, type := 3, pos := _, after := _, guard := none }) (v := .int .i64 (wrap64 ((t389.length : Int) + 1))) rfl (by kernel_rfl) (by kernel_rfl) (by kernel_rfl) (fun _ _ _ h => h) (Or.inl ⟨by kernel_rfl, fun w _ => by (go_simp; exact IntWalk.i64_left _)⟩) hH ?_
    simp only [Act.put, List.setIfInBounds_toArray, List.set_cons_zero, List.set_cons_succ]
    refine forced_list (i := 0) (o := { dst := some 20, op := .buildSlice 26 1 #[(0, .const (.string ⟨#[]⟩))], type := 26, pos := _, after := _, guard := none }) rfl (by kernel_rfl) ?_
    refine Kd.R_lit Kd.string _ 9 ?hg (N := 20) ?hd (xs := ([(⟨#[]⟩ : ByteArray)] : List ByteArray)) (inner := [.string (⟨#[]⟩ : ByteArray)]) (ok := fun _ => True) (okp := fun _ => True) ?hr ?hp (fun _ hk => hk) trivial (Below.refl _ _) (Nat.le_refl _) (by simp) ?_
    (case hd => rfl)
    (case hg => rfl)
    (case hr => first | (go_simp; done) | (go_simp; rfl))
    (case hp => exact (Reps.one (show Kd.M Kd.string _ _ _ (⟨#[]⟩ : ByteArray) [.string (⟨#[]⟩ : ByteArray)] from rfl) (Reps.none _ _)))
    intro v395 w18 ho19 hb hg_ hnew_
    clear hg_ hnew_ hH hc1
    (first | rw [← Ny394.out] at ho19 | (simp only [Int.reduceToNat] at ho19; rw [← Ny394.out] at ho19))
    have n0_ := mk0 (Kd.R_elder' HO391.out (Kd.R_base ho19) hb)
    have n1_ := mk0 (Kd.R_lower (Kd.R_new' ho19 (Kd.R_lt HO391.out)) (below_size HB.out))
    have n2_ := mk0 (blk_below BK386.out hb)
    have n3_ := mk0 (IsS25.below HI387.out hb)
    have n4_ := mk0 (blk_below BK393.out hb)
    have n5_ := mk0 (below_step HB.out hb)
    clear HO391 BK386 HI387 BK393 HB
    have HO391 := n0_
    have HO396 := n1_
    have BK386 := n2_
    have HI387 := n3_
    have BK393 := n4_
    have HB := n5_
    clear n0_ n1_ n2_ n3_ n4_ n5_ hb ho19
    have hcz20_1 : w18.cell? ⟨gb393, 1, none⟩ = some (.slice Ao17 t389.length co17) := (blk_cell BK393.out 1).trans rfl
    refine And.intro hcz20_1 ?_
    simp only [Act.put, List.setIfInBounds_toArray, List.set_cons_zero, List.set_cons_succ]
    refine forced_list (i := 3) (o := { dst := some 23, op := .call { callee := .builtin .append, args := #[.tmp 20, .tmp 22], argTypes := #[26, 26] }, type := 26, pos := _, after := _, guard := none }) rfl (by kernel_rfl) ?_
    (with_reducible refine gate_builtin (b := .append) (xs := #[.tmp 20, .tmp 22]) rfl ?_)
    at_builtin
    refine Kd.R_append_rows Kd.string (w0 := w) w.heap.size rfl (.tmp 20) (.tmp 22) 26 9 (.string ⟨#[]⟩) 16 rfl Tryd.underlying26 info9 rfl (by decide) (by omega) v395 y394 t389 _ _ _ (fun k_ => some k_ ≠ (.slice Ao17 t389.length co17 : Value).ownBlock) (fun _ => False) rfl rfl ?aO ?aR (fun _ _ h => h) (fun _ h => h.elim) ?aF ?aB ?aS ?aL ?_
    (case aR => exact (Kd.R_reads' HO391.out).2.2)
    (case aB => exact HB.out)
    (case aF => exact (fun k_ hk => Kd.fresh' (Kd.R_lt HO391.out) k_ hk))
    (case aO => exact Kd.R_mono HO396.out (fun _ hk => hk.2))
    (case aS => exact below_size HB.out)
    (case aL => have := LMc6.out; omega)
    intro v398 w21 ho hb hg hat
    rw [← Ny397.out] at ho
    have n0_ := mk0 (blk_grown BK386.out hg (Kd.R_ne HO396.out BK386.out (by decide)))
    have n1_ := mk0 (IsS25.grown HI387.out hg (IsS25.own_ne HI387.out HO396.out (by decide)))
    have n2_ := mk0 (Kd.R_after (ok := (fun _ => True)) HO391.out hg hat)
    have n3_ := mk0 (blk_grown BK393.out hg (Kd.R_ne HO396.out BK393.out (by decide)))
    have n4_ := mk0 (hb)
    have n5_ := mk0 (ho)
    clear BK386 HI387 HO391 BK393 HB HO396 hcz20_1
    have BK386 := n0_
    have HI387 := n1_
    have HO391 := n2_
    have BK393 := n3_
    have HB := n4_
    have HO399 := n5_
    clear n0_ n1_ n2_ n3_ n4_ n5_ ho hb hg hat
    have hcz22_1 : w21.cell? ⟨gb393, 1, none⟩ = some (.slice Ao17 t389.length co17) := (blk_cell BK393.out 1).trans rfl
    refine And.intro hcz22_1 ?_
    simp only [Act.put, List.setIfInBounds_toArray, List.set_cons_zero, List.set_cons_succ]
    refine forced_list (i := 9) (o := { dst := some 29, op := .call { callee := .value (.func 18), args := #[.tmp 24, .tmp 28], argTypes := #[23, 3] }, type := 3, pos := _, after := _, guard := none }) rfl (by kernel_rfl) ?_
    (with_reducible refine gate_callee (f := 18) rfl ?_)
    refine goesL_ (some 29) rfl rfl Tryd.func18 (by kernel_rfl) rfl #[.pointer (some ⟨gb387, 0, none⟩), .int .i64 (wrap64 ((t389.length : Int) + 1))] rfl (by (try simp only [List.map_toArray, List.map_cons, List.map_nil]); first | done | rfl | (simp only [List.length_drop, List.length_take]; rfl)) ?_
    (with_reducible refine (priceofficemake_Tape_Next.calls gb387 l3 t392 (wrap64 ((t389.length : Int) + 1)) t400 t401 w _ ?side1 ?side2 A7.out).mono ?_)
    (case side1 => exact HI387.out)
    (case side2 => exact HB.out)
    rintro e w23 ⟨rfl, hi, hb, hk⟩
    refine ⟨_, rfl, ?_⟩
    have n0_ := mk0 (KeepBut.blk hk BK386.out NB386_387.out (by simp))
    have n1_ := mk0 (Kd.R_mono (Kd.R_keep (IsS25.apart HI387.out HO391.out (by decide)) hk (fun _ h => h.2)) (fun _ h => h.1))
    have n2_ := mk0 (KeepBut.blk hk BK393.out NB393_387.out (by simp))
    have n3_ := mk0 (Kd.R_mono (Kd.R_keep (IsS25.apart HI387.out HO399.out (by decide)) hk (fun _ h => h.2)) (fun _ h => h.1))
    have n4_ := mk0 (hb)
    have n5_ := mk0 (hi)
    clear BK386 HO391 BK393 HO399 HB HI387 hcz22_1
    have BK386 := n0_
    have HO391 := n1_
    have BK393 := n2_
    have HO399 := n3_
    have HB := n4_
    have HI387 := n5_
    clear n0_ n1_ n2_ n3_ n4_ n5_ hb hk hi
    obtain ⟨Ao24, co24, eo24⟩ := Kd.R_slice HO399.out
    subst eo24
    have p402 : 0 ≤ (t400 : Int) := of_decide_eq_true c8b0
    have q402 : t400 < (y397.length : Int) := of_decide_eq_true c9b0
    obtain ⟨ad402, e402, hx402_0⟩ := Kd.at_string (Kd.R_reads' HO399.out).2.2 t400 p402 q402
    cases e402
    replace p402 := eq_true p402
    replace q402 := eq_true q402
    have hcz25_0 : w23.cell? ⟨gb393, 0, none⟩ = some (.string t388) := (blk_cell BK393.out 0).trans rfl
    have hcz25_1 : w23.cell? ⟨gb393, 1, none⟩ = some (.slice Ao17 t389.length co17) := (blk_cell BK393.out 1).trans rfl
    have hfz25_0 := blk_frozen BK393.out 0
    have hfz25_1 := blk_frozen BK393.out 1
    refine And.intro hcz25_1 ?_
    simp only [Act.put, List.setIfInBounds_toArray, List.set_cons_zero, List.set_cons_succ]
    refine forced_list (i := 10) (o := { dst := some 30, op := .indexAddr 26 (.tmp 23) (.tmp 29), type := 0, pos := _, after := _, guard := none }) rfl (by kernel_rfl) ?_
    go_wp2
    try simp only [Act.put, List.setIfInBounds_toArray, List.set_cons_zero, List.set_cons_succ]
    refine forced_list (i := 11) (o := { dst := some 31, op := .load 9 (.tmp 30), type := 9, pos := _, after := _, guard := none }) rfl (by kernel_rfl) ?_
    go_wp2
    try simp only [Act.put, List.setIfInBounds_toArray, List.set_cons_zero, List.set_cons_succ]
    refine forced_list (i := 12) (o := { dst := some 11, op := .assign (.tmp 31), type := 9, pos := _, after := _, guard := none }) rfl (by kernel_rfl) ?_
    go_wp2
    try simp only [Act.put, List.setIfInBounds_toArray, List.set_cons_zero, List.set_cons_succ]
    refine wpAnyH_done (by kernel_rfl) ?_ _
    go_wp2
    go_loopg [12, 35] k (fun kq v12 v35 w' => ∃ (x12_1 : List ByteArray) (x35_1 : Int) (x388001_1 : Int), v35 = .int .i64 x35_1 ∧ Aside0 (priceofficelaw06_ClassificationCovers.l0 kq a1 l2 (rdOf ByteArray.empty y397 t400) x12_1 t389 (t389.length : Int) x35_1 a0_0 l0_1 l3 x388001_1 t388 t389 = some r) ∧ Aside0 (kq ≤ k) ∧ Aside0 (Kd.R Kd.string 9 w' w.heap.size (fun k_ => some k_ ≠ ((.slice Ao17 t389.length co17) : Value).ownBlock ∧ some k_ ≠ ((.slice Ao17 t389.length co17) : Value).ownBlock) v12 x12_1) ∧ Aside0 (Kd.R Kd.string 9 w' w.heap.size (fun k_ => some k_ ≠ (v12 : Value).ownBlock) (.slice Ao17 t389.length co17) t389) ∧ Aside0 (Kd.R Kd.string 9 w' w.heap.size (fun k_ => some k_ ≠ (v12 : Value).ownBlock) (.slice Ao17 t389.length co17) t389) ∧ Aside0 (w'.heap[gb386]? = some (.cells #[.string a0_0, (.slice A0_1 l0_1.length c0_1)] 28 (0, 0))) ∧ Aside0 (w'.heap[gb393]? = some (.cells #[.string t388, (.slice Ao17 t389.length co17)] 28 (0, 0))) ∧ Aside0 (IsS25 w w' gb387 l3 x388001_1) ∧ Aside0 (Below w.heap.size w w'))
    case atStart => exact ⟨(([] : List ByteArray)), (0), (t401), (by first | rfl | (simp; done) | (simp [*]; done)), H', ⟨Nat.le_refl _⟩, ⟨by first | exact Kd.R_nil _ _ _ _ _ | exact Kd.N_nil _ _ _ _ _ | exact Kd.V_nil _ _ _ _ _ | exact Kd.Q_nil _ _ _ _ _ | exact Kd.S_nil _ _ _ _ _⟩, ⟨by (with_reducible repeat (first | apply r_a | apply r_n | apply r_d)); exact Kd.R_mono HO391.out (fun _ hk => (by simp [Value.ownBlock]))⟩, ⟨by (with_reducible repeat (first | apply r_a | apply r_n | apply r_d)); exact Kd.R_mono HO391.out (fun _ hk => (by simp [Value.ownBlock]))⟩, ⟨by (with_reducible repeat (first | refine blk_drewN ?_ _ | refine blk_drew ?_ | refine blk_alloc ?_ _)); exact BK386.out⟩, ⟨by (with_reducible repeat (first | refine blk_drewN ?_ _ | refine blk_drew ?_ | refine blk_alloc ?_ _)); exact BK393.out⟩, ⟨by repeat (first | (with_reducible first | exact HI387.out | apply IsS25.alloc | apply IsS25.drewN | apply IsS25.drew | apply IsS25.set_1 | refine IsS25.far ?_ NB387_386.out _ | refine IsS25.far ?_ NB387_393.out _) | exact HI387.out)⟩, ⟨by repeat (first | (with_reducible first | exact HB.out | apply b_a | apply b_n | apply b_d | refine below_set ?_ (IsS25.ge HI387.out) | refine below_set ?_ GE386.out | refine below_set ?_ GE393.out) | exact HB.out)⟩⟩
    case round =>
     clear H'
     try clear c1
     try clear c2
     try clear p2
     try clear c3
     try clear c4
     try clear p4
     try clear q4
     try clear hx4
     try clear c6
     try clear p6
     try clear c8
     try clear c8b0
     try clear c9
     try clear c9b0
     try clear c13
     try clear c14
     try clear c15
     try clear c18
     try clear hcz16_0
     try clear hcz16_1
     try clear hcz20_0
     try clear hcz20_1
     try clear hcz22_0
     try clear hcz22_1
     try clear hcz25_0
     try clear hcz25_1
     try clear hfz16_0
     try clear hfz16_1
     try clear hfz20_0
     try clear hfz20_1
     try clear hfz22_0
     try clear hfz22_1
     try clear hfz25_0
     try clear hfz25_1
     try clear hx402_0
     try clear p402
     try clear q402
     obtain ⟨x12_1, x35_1, x388001_1, rfl, HA, HK1, HO_12, HO_33, HO_394001, BK386, BK393, HI387, HB⟩ := hrel
     cases gk with
     | zero => exact absurd HA.out (by simp [priceofficelaw06_ClassificationCovers.l0])
     | succ k1 =>
      have H := HA.out
      clear HA
      simp only [priceofficelaw06_ClassificationCovers.l0] at H
      by_cases c26 : x35_1 < (t389.length : Int)
      ·rw [if_pos c26] at H
       have c26b0 : decide (x35_1 < (t389.length : Int)) = true := decide_eq_true c26
       clear c26
       by_cases c27 : 0 ≤ x35_1
       ·rw [if_pos c27] at H
        have c27b0 : decide (0 ≤ x35_1) = true := decide_eq_true c27
        clear c27
        by_cases c28 : x35_1 < (t389.length : Int)
        ·rw [if_pos c28] at H
         have c28b0 : decide (x35_1 < (t389.length : Int)) = true := decide_eq_true c28
         clear c28
         replace H := Option.bind_eq_some_iff.mp H
         obtain ⟨⟨t404, t405⟩, A290, H⟩ := H
         replace H : (if t404 = 0 then (if x12_1.length < 8796093022208 then (priceofficelaw06_ClassificationCovers.l0 k1 a1 l2 (rdOf ByteArray.empty y397 t400) (x12_1 ++ [rdOf ByteArray.empty t389 x35_1]) t389 (t389.length : Int) (wrap64 (x35_1 + 1)) a0_0 l0_1 l3 t405 t388 t389) else (none)) else (priceofficelaw06_ClassificationCovers.l0 k1 a1 l2 (rdOf ByteArray.empty y397 t400) x12_1 t389 (t389.length : Int) (wrap64 (x35_1 + 1)) a0_0 l0_1 l3 t405 t388 t389)) = some r := H
         have A29 := mk0 A290
         clear A290
         by_cases c30 : t404 = 0
         ·rw [if_pos c30] at H
          have c30b0 : (t404 == 0) = true := beq_iff_eq.mpr c30
          have c30b1 : (t404 != 0) = false := bne_eq_false_iff_eq.mpr c30
          clear c30
          by_cases c31 : x12_1.length < 8796093022208
          ·rw [if_pos c31] at H
           have LMc31 := mk0 c31
           clear c31
           obtain ⟨y406, hy406⟩ : ∃ y_ : List ByteArray, y_ = (x12_1 ++ [rdOf ByteArray.empty t389 x35_1]) := ⟨_, rfl⟩
           replace H : (priceofficelaw06_ClassificationCovers.l0 k1 a1 l2 (rdOf ByteArray.empty y397 t400) y406 t389 (t389.length : Int) (wrap64 (x35_1 + 1)) a0_0 l0_1 l3 t405 t388 t389) = some r := by first | (rw [hy406]; with_reducible exact H) | (have H2_ := (Option.bind_some _ _).symm.trans H; rw [hy406]; with_reducible exact H2_) | (have H2_ := (Option.bind_some _ _).symm.trans H; with_reducible exact H2_) | with_reducible exact H | (rw [hy406]; exact H) | exact H
           have Ny406 := mk0 hy406
           clear hy406
           have H' := mk0 H
           clear H
           have p403 : 0 ≤ (x35_1 : Int) := of_decide_eq_true (by first | (with_reducible assumption) | assumption)
           have q403 : x35_1 < (t389.length : Int) := of_decide_eq_true (by first | (with_reducible assumption) | assumption)
           obtain ⟨ad403, e403, hx403_0⟩ := Kd.at_string (Kd.R_reads' HO_33.out).2.2 x35_1 p403 q403
           cases e403
           replace p403 := eq_true p403
           replace q403 := eq_true q403
           go_wp2_with (first | ((with_reducible refine gate_callee (f := 18) rfl ?_); refine goesL_ (some 40) rfl rfl Tryd.func18 (by kernel_rfl) rfl #[.pointer (some ⟨gb387, 0, none⟩), .int .i64 2] rfl (by (try simp only [List.map_toArray, List.map_cons, List.map_nil]); first | done | rfl | (simp only [List.length_drop, List.length_take]; rfl)) ?_; (with_reducible refine (priceofficemake_Tape_Next.calls gb387 l3 x388001_1 2 t404 t405 w _ ?side1 ?side2 A29.out).mono ?_); (case side1 => repeat (first | (with_reducible first | exact HI387.out | apply IsS25.alloc | apply IsS25.drewN | apply IsS25.drew | apply IsS25.set_1 | refine IsS25.far ?_ NB387_386.out _ | refine IsS25.far ?_ NB387_393.out _) | exact HI387.out)); (case side2 => repeat (first | (with_reducible first | exact HB.out | apply b_a | apply b_n | apply b_d | refine below_set ?_ (IsS25.ge HI387.out) | refine below_set ?_ GE386.out | refine below_set ?_ GE393.out) | exact HB.out)); rintro e w32 ⟨rfl, hi, hb, hk⟩; refine ⟨_, rfl, ?_⟩; have n0_ := mk0 (Kd.R_mono (Kd.R_keep (IsS25.apart (show IsS25 w _ gb387 l3 x388001_1 from by repeat (first | (with_reducible first | exact HI387.out | apply IsS25.alloc | apply IsS25.drewN | apply IsS25.drew | apply IsS25.set_1 | refine IsS25.far ?_ NB387_386.out _ | refine IsS25.far ?_ NB387_393.out _) | exact HI387.out)) (by (with_reducible repeat (first | apply r_a | apply r_n | apply r_d)); exact HO_12.out) (by decide)) hk (fun _ h => h.2)) (fun _ h => h.1)); have n1_ := mk0 (Kd.R_mono (Kd.R_keep (IsS25.apart (show IsS25 w _ gb387 l3 x388001_1 from by repeat (first | (with_reducible first | exact HI387.out | apply IsS25.alloc | apply IsS25.drewN | apply IsS25.drew | apply IsS25.set_1 | refine IsS25.far ?_ NB387_386.out _ | refine IsS25.far ?_ NB387_393.out _) | exact HI387.out)) (by (with_reducible repeat (first | apply r_a | apply r_n | apply r_d)); exact HO_33.out) (by decide)) hk (fun _ h => h.2)) (fun _ h => h.1)); have n2_ := mk0 (Kd.R_mono (Kd.R_keep (IsS25.apart (show IsS25 w _ gb387 l3 x388001_1 from by repeat (first | (with_reducible first | exact HI387.out | apply IsS25.alloc | apply IsS25.drewN | apply IsS25.drew | apply IsS25.set_1 | refine IsS25.far ?_ NB387_386.out _ | refine IsS25.far ?_ NB387_393.out _) | exact HI387.out)) (by (with_reducible repeat (first | apply r_a | apply r_n | apply r_d)); exact HO_394001.out) (by decide)) hk (fun _ h => h.2)) (fun _ h => h.1)); have n3_ := mk0 (KeepBut.blk hk (g' := gb386) (o := .cells #[.string a0_0, .slice A0_1 l0_1.length c0_1] 28 (0, 0)) (by (with_reducible repeat (first | refine blk_drewN ?_ _ | refine blk_drew ?_ | refine blk_alloc ?_ _)); exact BK386.out) NB386_387.out (by simp)); have n4_ := mk0 (KeepBut.blk hk (g' := gb393) (o := .cells #[.string t388, .slice (some ad403) t389.length co17] 28 (0, 0)) (by (with_reducible repeat (first | refine blk_drewN ?_ _ | refine blk_drew ?_ | refine blk_alloc ?_ _)); exact BK393.out) NB393_387.out (by simp)); have n5_ := mk0 (hb); have n6_ := mk0 (hi); clear HO_12; clear HO_33; clear HO_394001; clear BK386; clear BK393; clear HB; clear HI387; have HO_12 := n0_; have HO_33 := n1_; have HO_394001 := n2_; have BK386 := n3_; have BK393 := n4_; have HB := n5_; have HI387 := n6_; clear n0_ n1_ n2_ n3_ n4_ n5_ n6_; (try clear hb); (try clear hb2); (try clear hk); (try clear hi)) | ((with_reducible refine gate_builtin (b := .append) (xs := #[.tmp 42, .tmp 44]) rfl ?_); at_builtin; refine Kd.R_append Kd.string (w0 := w) w.heap.size rfl (.tmp 42) (.tmp 44) 26 9 (.string ⟨#[]⟩) 16 rfl Tryd.underlying26 info9 rfl (by decide) (by omega) u12 x12_1 (rdOf ByteArray.empty t389 x35_1) [.string (rdOf ByteArray.empty t389 x35_1)] (fun k_ => some k_ ≠ (.slice (some ad403) t389.length co17 : Value).ownBlock ∧ some k_ ≠ (.slice (some ad403) t389.length co17 : Value).ownBlock) (fun _ => False) rfl rfl ?aP (fun _ hk => hk.elim) ?aF ?aO ?aB ?aS ?aL ?_; (case aP => exact rfl); (case aB => exact (by repeat (first | (with_reducible first | exact HB.out | apply b_a | apply b_n | apply b_d | refine below_set ?_ (IsS25.ge HI387.out) | refine below_set ?_ GE386.out | refine below_set ?_ GE393.out) | exact HB.out))); (case aF => exact (fun k_ hk => ⟨Kd.fresh' (Kd.R_lt (by (with_reducible repeat (first | apply r_a | apply r_n | apply r_d)); exact HO_33.out)) k_ hk, Kd.fresh' (Kd.R_lt (by (with_reducible repeat (first | apply r_a | apply r_n | apply r_d)); exact HO_394001.out)) k_ hk⟩)); (case aO => exact (by (with_reducible repeat (first | apply r_a | apply r_n | apply r_d)); exact HO_12.out)); (case aS => exact (below_size (by repeat (first | (with_reducible first | exact HB.out | apply b_a | apply b_n | apply b_d | refine below_set ?_ (IsS25.ge HI387.out) | refine below_set ?_ GE386.out | refine below_set ?_ GE393.out) | exact HB.out)))); (case aL => have := LMc31.out; omega); intro v407 w33 ho hb hg hat; rw [← Ny406.out] at ho; have n0_ := mk0 (Kd.R_after (ok := (fun _ => True)) (by (with_reducible repeat (first | apply r_a | apply r_n | apply r_d)); exact Kd.R_mono HO_33.out (fun _ hk => ⟨trivial, hk⟩)) hg hat); have n1_ := mk0 (Kd.R_after (ok := (fun _ => True)) (by (with_reducible repeat (first | apply r_a | apply r_n | apply r_d)); exact Kd.R_mono HO_394001.out (fun _ hk => ⟨trivial, hk⟩)) hg hat); have n2_ := mk0 (blk_grown (g := gb386) (o := .cells #[.string a0_0, .slice A0_1 l0_1.length c0_1] 28 (0, 0)) (by (with_reducible repeat (first | refine blk_drewN ?_ _ | refine blk_drew ?_ | refine blk_alloc ?_ _)); exact BK386.out) hg (Kd.R_ne HO_12.out BK386.out (by decide))); have n3_ := mk0 (blk_grown (g := gb393) (o := .cells #[.string t388, .slice (some ad403) t389.length co17] 28 (0, 0)) (by (with_reducible repeat (first | refine blk_drewN ?_ _ | refine blk_drew ?_ | refine blk_alloc ?_ _)); exact BK393.out) hg (Kd.R_ne HO_12.out BK393.out (by decide))); have n4_ := mk0 (IsS25.grown (by repeat (first | (with_reducible first | exact HI387.out | apply IsS25.alloc | apply IsS25.drewN | apply IsS25.drew | apply IsS25.set_1 | refine IsS25.far ?_ NB387_386.out _ | refine IsS25.far ?_ NB387_393.out _) | exact HI387.out)) hg (IsS25.own_ne HI387.out HO_12.out (by decide))); have n5_ := mk0 (hb); have n6_ := mk0 (ho); clear HO_33; clear HO_394001; clear BK386; clear BK393; clear HI387; clear HB; clear HO_12; have HO_33 := n0_; have HO_394001 := n1_; have BK386 := n2_; have BK393 := n3_; have HI387 := n4_; have HB := n5_; have HO408 := n6_; clear n0_ n1_ n2_ n3_ n4_ n5_ n6_; clear ho hb hg hat))
           go_roundg k1
           case measure => have := HK1.out; omega
           case rel => exact ⟨(y406), (wrap64 (x35_1 + 1)), (t405), (by first | rfl | (simp; done) | (simp [*]; done)), H', ⟨by have := HK1.out; omega⟩, ⟨by (with_reducible repeat (first | apply r_a | apply r_n | apply r_d)); exact HO408.out⟩, ⟨by (with_reducible repeat (first | apply r_a | apply r_n | apply r_d)); exact Kd.R_mono HO_33.out (fun _ hk => hk.2)⟩, ⟨by (with_reducible repeat (first | apply r_a | apply r_n | apply r_d)); exact Kd.R_mono HO_394001.out (fun _ hk => hk.2)⟩, ⟨by (with_reducible repeat (first | refine blk_drewN ?_ _ | refine blk_drew ?_ | refine blk_alloc ?_ _)); exact BK386.out⟩, ⟨by (with_reducible repeat (first | refine blk_drewN ?_ _ | refine blk_drew ?_ | refine blk_alloc ?_ _)); exact BK393.out⟩, ⟨by repeat (first | (with_reducible first | exact HI387.out | apply IsS25.alloc | apply IsS25.drewN | apply IsS25.drew | apply IsS25.set_1 | refine IsS25.far ?_ NB387_386.out _ | refine IsS25.far ?_ NB387_393.out _) | exact HI387.out)⟩, ⟨by repeat (first | (with_reducible first | exact HB.out | apply b_a | apply b_n | apply b_d | refine below_set ?_ (IsS25.ge HI387.out) | refine below_set ?_ GE386.out | refine below_set ?_ GE393.out) | exact HB.out)⟩⟩
          ·rw [if_neg c31] at H
           exact absurd H (by simp)
         ·rw [if_neg c30] at H
          have c30b0 : (t404 == 0) = false := beq_eq_false_iff_ne.mpr c30
          have c30b1 : (t404 != 0) = true := bne_iff_ne.mpr c30
          have H' := mk0 H
          clear H
          have p403 : 0 ≤ (x35_1 : Int) := of_decide_eq_true (by first | (with_reducible assumption) | assumption)
          have q403 : x35_1 < (t389.length : Int) := of_decide_eq_true (by first | (with_reducible assumption) | assumption)
          obtain ⟨ad403, e403, hx403_0⟩ := Kd.at_string (Kd.R_reads' HO_33.out).2.2 x35_1 p403 q403
          cases e403
          replace p403 := eq_true p403
          replace q403 := eq_true q403
          go_wp2_with (first | ((with_reducible refine gate_callee (f := 18) rfl ?_); refine goesL_ (some 40) rfl rfl Tryd.func18 (by kernel_rfl) rfl #[.pointer (some ⟨gb387, 0, none⟩), .int .i64 2] rfl (by (try simp only [List.map_toArray, List.map_cons, List.map_nil]); first | done | rfl | (simp only [List.length_drop, List.length_take]; rfl)) ?_; (with_reducible refine (priceofficemake_Tape_Next.calls gb387 l3 x388001_1 2 t404 t405 w _ ?side1 ?side2 A29.out).mono ?_); (case side1 => repeat (first | (with_reducible first | exact HI387.out | apply IsS25.alloc | apply IsS25.drewN | apply IsS25.drew | apply IsS25.set_1 | refine IsS25.far ?_ NB387_386.out _ | refine IsS25.far ?_ NB387_393.out _) | exact HI387.out)); (case side2 => repeat (first | (with_reducible first | exact HB.out | apply b_a | apply b_n | apply b_d | refine below_set ?_ (IsS25.ge HI387.out) | refine below_set ?_ GE386.out | refine below_set ?_ GE393.out) | exact HB.out)); rintro e w34 ⟨rfl, hi, hb, hk⟩; refine ⟨_, rfl, ?_⟩; have n0_ := mk0 (Kd.R_mono (Kd.R_keep (IsS25.apart (show IsS25 w _ gb387 l3 x388001_1 from by repeat (first | (with_reducible first | exact HI387.out | apply IsS25.alloc | apply IsS25.drewN | apply IsS25.drew | apply IsS25.set_1 | refine IsS25.far ?_ NB387_386.out _ | refine IsS25.far ?_ NB387_393.out _) | exact HI387.out)) (by (with_reducible repeat (first | apply r_a | apply r_n | apply r_d)); exact HO_12.out) (by decide)) hk (fun _ h => h.2)) (fun _ h => h.1)); have n1_ := mk0 (Kd.R_mono (Kd.R_keep (IsS25.apart (show IsS25 w _ gb387 l3 x388001_1 from by repeat (first | (with_reducible first | exact HI387.out | apply IsS25.alloc | apply IsS25.drewN | apply IsS25.drew | apply IsS25.set_1 | refine IsS25.far ?_ NB387_386.out _ | refine IsS25.far ?_ NB387_393.out _) | exact HI387.out)) (by (with_reducible repeat (first | apply r_a | apply r_n | apply r_d)); exact HO_33.out) (by decide)) hk (fun _ h => h.2)) (fun _ h => h.1)); have n2_ := mk0 (Kd.R_mono (Kd.R_keep (IsS25.apart (show IsS25 w _ gb387 l3 x388001_1 from by repeat (first | (with_reducible first | exact HI387.out | apply IsS25.alloc | apply IsS25.drewN | apply IsS25.drew | apply IsS25.set_1 | refine IsS25.far ?_ NB387_386.out _ | refine IsS25.far ?_ NB387_393.out _) | exact HI387.out)) (by (with_reducible repeat (first | apply r_a | apply r_n | apply r_d)); exact HO_394001.out) (by decide)) hk (fun _ h => h.2)) (fun _ h => h.1)); have n3_ := mk0 (KeepBut.blk hk (g' := gb386) (o := .cells #[.string a0_0, .slice A0_1 l0_1.length c0_1] 28 (0, 0)) (by (with_reducible repeat (first | refine blk_drewN ?_ _ | refine blk_drew ?_ | refine blk_alloc ?_ _)); exact BK386.out) NB386_387.out (by simp)); have n4_ := mk0 (KeepBut.blk hk (g' := gb393) (o := .cells #[.string t388, .slice (some ad403) t389.length co17] 28 (0, 0)) (by (with_reducible repeat (first | refine blk_drewN ?_ _ | refine blk_drew ?_ | refine blk_alloc ?_ _)); exact BK393.out) NB393_387.out (by simp)); have n5_ := mk0 (hb); have n6_ := mk0 (hi); clear HO_12; clear HO_33; clear HO_394001; clear BK386; clear BK393; clear HB; clear HI387; have HO_12 := n0_; have HO_33 := n1_; have HO_394001 := n2_; have BK386 := n3_; have BK393 := n4_; have HB := n5_; have HI387 := n6_; clear n0_ n1_ n2_ n3_ n4_ n5_ n6_; (try clear hb); (try clear hb2); (try clear hk); (try clear hi)))
          go_roundg k1
          case measure => have := HK1.out; omega
          case rel => exact ⟨(x12_1), (wrap64 (x35_1 + 1)), (t405), (by first | rfl | (simp; done) | (simp [*]; done)), H', ⟨by have := HK1.out; omega⟩, ⟨by (with_reducible repeat (first | apply r_a | apply r_n | apply r_d)); exact HO_12.out⟩, ⟨by (with_reducible repeat (first | apply r_a | apply r_n | apply r_d)); exact HO_33.out⟩, ⟨by (with_reducible repeat (first | apply r_a | apply r_n | apply r_d)); exact HO_394001.out⟩, ⟨by (with_reducible repeat (first | refine blk_drewN ?_ _ | refine blk_drew ?_ | refine blk_alloc ?_ _)); exact BK386.out⟩, ⟨by (with_reducible repeat (first | refine blk_drewN ?_ _ | refine blk_drew ?_ | refine blk_alloc ?_ _)); exact BK393.out⟩, ⟨by repeat (first | (with_reducible first | exact HI387.out | apply IsS25.alloc | apply IsS25.drewN | apply IsS25.drew | apply IsS25.set_1 | refine IsS25.far ?_ NB387_386.out _ | refine IsS25.far ?_ NB387_393.out _) | exact HI387.out)⟩, ⟨by repeat (first | (with_reducible first | exact HB.out | apply b_a | apply b_n | apply b_d | refine below_set ?_ (IsS25.ge HI387.out) | refine below_set ?_ GE386.out | refine below_set ?_ GE393.out) | exact HB.out)⟩⟩
        ·rw [if_neg c28] at H
         exact absurd H (by simp)
       ·rw [if_neg c27] at H
        exact absurd H (by simp)
      ·rw [if_neg c26] at H
       have c26b0 : decide (x35_1 < (t389.length : Int)) = false := decide_eq_false c26
       clear c26
       replace H := Option.bind_eq_some_iff.mp H
       obtain ⟨⟨t409, t410⟩, A350, H⟩ := H
       replace H : ((priceofficelaw06_raw.f k1 (⟨#[]⟩ : ByteArray) l2).bind fun bt413 => (if 0 ≤ (mn (a1.size : Int) 20) then (if (mn (a1.size : Int) 20) ≤ (a1.size : Int) then ((classification_Cover.f k1 t409 t410 (a1.extract 0 ((mn (a1.size : Int) 20) : Int).toNat) bt413.2).bind fun t417 => ((priceofficeref06_Cover.f k1 t409 t410 (a1.extract 0 ((mn (a1.size : Int) 20) : Int).toNat) bt413.2).bind fun t418 => (if (t417 == t418) = true then ((classification_Cover.f k1 t388 t389 (rdOf ByteArray.empty y397 t400) x12_1).bind fun t419 => ((priceofficeref06_Cover.f k1 t388 t389 (rdOf ByteArray.empty y397 t400) x12_1).bind fun t420 => (if (t419 == t420) = true then ((priceofficeref06_Leaves.f k1 t388 t389 (rdOf ByteArray.empty y397 t400)).bind fun t421 => ((classification_Cover.f k1 t388 t389 (rdOf ByteArray.empty y397 t400) t421).bind fun t424 => (if t424 = true then ((priceofficeref06_Children.f k1 t388 t389 (⟨#[]⟩ : ByteArray)).bind fun t425 => ((classification_Cover.f k1 t388 t389 (⟨#[]⟩ : ByteArray) t425).bind fun t428 => (if t428 = true then ((priceofficelaw06_awake.f k1).bind fun t429 => (some t429)) else (none)))) else (none)))) else (none)))) else (none)))) else (none)) else (none))) = some r := H
       have A35 := mk0 A350
       clear A350
       replace H := Option.bind_eq_some_iff.mp H
       obtain ⟨⟨t413, t414⟩, A360, H⟩ := H
       replace H : (if 0 ≤ (mn (a1.size : Int) 20) then (if (mn (a1.size : Int) 20) ≤ (a1.size : Int) then ((classification_Cover.f k1 t409 t410 (a1.extract 0 ((mn (a1.size : Int) 20) : Int).toNat) t414).bind fun t417 => ((priceofficeref06_Cover.f k1 t409 t410 (a1.extract 0 ((mn (a1.size : Int) 20) : Int).toNat) t414).bind fun t418 => (if (t417 == t418) = true then ((classification_Cover.f k1 t388 t389 (rdOf ByteArray.empty y397 t400) x12_1).bind fun t419 => ((priceofficeref06_Cover.f k1 t388 t389 (rdOf ByteArray.empty y397 t400) x12_1).bind fun t420 => (if (t419 == t420) = true then ((priceofficeref06_Leaves.f k1 t388 t389 (rdOf ByteArray.empty y397 t400)).bind fun t421 => ((classification_Cover.f k1 t388 t389 (rdOf ByteArray.empty y397 t400) t421).bind fun t424 => (if t424 = true then ((priceofficeref06_Children.f k1 t388 t389 (⟨#[]⟩ : ByteArray)).bind fun t425 => ((classification_Cover.f k1 t388 t389 (⟨#[]⟩ : ByteArray) t425).bind fun t428 => (if t428 = true then ((priceofficelaw06_awake.f k1).bind fun t429 => (some t429)) else (none)))) else (none)))) else (none)))) else (none)))) else (none)) else (none)) = some r := H
       have A36 := mk0 A360
       clear A360
       obtain ⟨ji37, hji37⟩ : ∃ j_ : Int, (mn (a1.size : Int) 20) = j_ := ⟨_, rfl⟩
       replace H : (if 0 ≤ (ji37) then (if (ji37) ≤ (a1.size : Int) then ((classification_Cover.f k1 t409 t410 (a1.extract 0 ((ji37) : Int).toNat) t414).bind fun t417 => ((priceofficeref06_Cover.f k1 t409 t410 (a1.extract 0 ((ji37) : Int).toNat) t414).bind fun t418 => (if (t417 == t418) = true then ((classification_Cover.f k1 t388 t389 (rdOf ByteArray.empty y397 t400) x12_1).bind fun t419 => ((priceofficeref06_Cover.f k1 t388 t389 (rdOf ByteArray.empty y397 t400) x12_1).bind fun t420 => (if (t419 == t420) = true then ((priceofficeref06_Leaves.f k1 t388 t389 (rdOf ByteArray.empty y397 t400)).bind fun t421 => ((classification_Cover.f k1 t388 t389 (rdOf ByteArray.empty y397 t400) t421).bind fun t424 => (if t424 = true then ((priceofficeref06_Children.f k1 t388 t389 (⟨#[]⟩ : ByteArray)).bind fun t425 => ((classification_Cover.f k1 t388 t389 (⟨#[]⟩ : ByteArray) t425).bind fun t428 => (if t428 = true then ((priceofficelaw06_awake.f k1).bind fun t429 => (some t429)) else (none)))) else (none)))) else (none)))) else (none)))) else (none)) else (none)) = some r := by first | (rw [hji37] at H; exact H) | (simp only [hji37] at H ⊢; exact H)
       (try rw [hji37] at A35)
       (try rw [hji37] at A36)
       have hji37_ : (if 20 < (a1.size : Int) then 20 else (a1.size : Int)) = ji37 := hji37
       by_cases c38 : 0 ≤ (ji37)
       ·rw [if_pos c38] at H
        have c38b0 := eq_true c38
        have c38b1 : decide (0 ≤ (ji37)) = true := decide_eq_true c38
        clear c38
        by_cases c39 : (ji37) ≤ (a1.size : Int)
        ·rw [if_pos c39] at H
         have c39b0 := eq_true c39
         have c39b1 : decide ((ji37) ≤ (a1.size : Int)) = true := decide_eq_true c39
         clear c39
         replace H := Option.bind_eq_some_iff.mp H
         obtain ⟨t417, A400, H⟩ := H
         replace H : ((priceofficeref06_Cover.f k1 t409 t410 (a1.extract 0 ((ji37) : Int).toNat) t414).bind fun t418 => (if (t417 == t418) = true then ((classification_Cover.f k1 t388 t389 (rdOf ByteArray.empty y397 t400) x12_1).bind fun t419 => ((priceofficeref06_Cover.f k1 t388 t389 (rdOf ByteArray.empty y397 t400) x12_1).bind fun t420 => (if (t419 == t420) = true then ((priceofficeref06_Leaves.f k1 t388 t389 (rdOf ByteArray.empty y397 t400)).bind fun t421 => ((classification_Cover.f k1 t388 t389 (rdOf ByteArray.empty y397 t400) t421).bind fun t424 => (if t424 = true then ((priceofficeref06_Children.f k1 t388 t389 (⟨#[]⟩ : ByteArray)).bind fun t425 => ((classification_Cover.f k1 t388 t389 (⟨#[]⟩ : ByteArray) t425).bind fun t428 => (if t428 = true then ((priceofficelaw06_awake.f k1).bind fun t429 => (some t429)) else (none)))) else (none)))) else (none)))) else (none))) = some r := H
         have A40 := mk0 A400
         clear A400
         replace H := Option.bind_eq_some_iff.mp H
         obtain ⟨t418, A410, H⟩ := H
         replace H : (if (t417 == t418) = true then ((classification_Cover.f k1 t388 t389 (rdOf ByteArray.empty y397 t400) x12_1).bind fun t419 => ((priceofficeref06_Cover.f k1 t388 t389 (rdOf ByteArray.empty y397 t400) x12_1).bind fun t420 => (if (t419 == t420) = true then ((priceofficeref06_Leaves.f k1 t388 t389 (rdOf ByteArray.empty y397 t400)).bind fun t421 => ((classification_Cover.f k1 t388 t389 (rdOf ByteArray.empty y397 t400) t421).bind fun t424 => (if t424 = true then ((priceofficeref06_Children.f k1 t388 t389 (⟨#[]⟩ : ByteArray)).bind fun t425 => ((classification_Cover.f k1 t388 t389 (⟨#[]⟩ : ByteArray) t425).bind fun t428 => (if t428 = true then ((priceofficelaw06_awake.f k1).bind fun t429 => (some t429)) else (none)))) else (none)))) else (none)))) else (none)) = some r := H
         have A41 := mk0 A410
         clear A410
         by_cases c42 : (t417 == t418) = true
         ·rw [if_pos c42] at H
          have c42b0 : (t417 == t418) = true := c42
          (try (have c42b1 : decide (t417 = t418) = true := by simpa using c42))
          (try (have c42b2 : (t417 == t418) = true := by simpa using c42))
          clear c42
          replace H := Option.bind_eq_some_iff.mp H
          obtain ⟨t419, A430, H⟩ := H
          replace H : ((priceofficeref06_Cover.f k1 t388 t389 (rdOf ByteArray.empty y397 t400) x12_1).bind fun t420 => (if (t419 == t420) = true then ((priceofficeref06_Leaves.f k1 t388 t389 (rdOf ByteArray.empty y397 t400)).bind fun t421 => ((classification_Cover.f k1 t388 t389 (rdOf ByteArray.empty y397 t400) t421).bind fun t424 => (if t424 = true then ((priceofficeref06_Children.f k1 t388 t389 (⟨#[]⟩ : ByteArray)).bind fun t425 => ((classification_Cover.f k1 t388 t389 (⟨#[]⟩ : ByteArray) t425).bind fun t428 => (if t428 = true then ((priceofficelaw06_awake.f k1).bind fun t429 => (some t429)) else (none)))) else (none)))) else (none))) = some r := H
          have A43 := mk0 A430
          clear A430
          replace H := Option.bind_eq_some_iff.mp H
          obtain ⟨t420, A440, H⟩ := H
          replace H : (if (t419 == t420) = true then ((priceofficeref06_Leaves.f k1 t388 t389 (rdOf ByteArray.empty y397 t400)).bind fun t421 => ((classification_Cover.f k1 t388 t389 (rdOf ByteArray.empty y397 t400) t421).bind fun t424 => (if t424 = true then ((priceofficeref06_Children.f k1 t388 t389 (⟨#[]⟩ : ByteArray)).bind fun t425 => ((classification_Cover.f k1 t388 t389 (⟨#[]⟩ : ByteArray) t425).bind fun t428 => (if t428 = true then ((priceofficelaw06_awake.f k1).bind fun t429 => (some t429)) else (none)))) else (none)))) else (none)) = some r := H
          have A44 := mk0 A440
          clear A440
          by_cases c45 : (t419 == t420) = true
          ·rw [if_pos c45] at H
           have c45b0 : (t419 == t420) = true := c45
           (try (have c45b1 : decide (t419 = t420) = true := by simpa using c45))
           (try (have c45b2 : (t419 == t420) = true := by simpa using c45))
           clear c45
           replace H := Option.bind_eq_some_iff.mp H
           obtain ⟨t421, A460, H⟩ := H
           replace H : ((classification_Cover.f k1 t388 t389 (rdOf ByteArray.empty y397 t400) t421).bind fun t424 => (if t424 = true then ((priceofficeref06_Children.f k1 t388 t389 (⟨#[]⟩ : ByteArray)).bind fun t425 => ((classification_Cover.f k1 t388 t389 (⟨#[]⟩ : ByteArray) t425).bind fun t428 => (if t428 = true then ((priceofficelaw06_awake.f k1).bind fun t429 => (some t429)) else (none)))) else (none))) = some r := H
           have A46 := mk0 A460
           clear A460
           replace H := Option.bind_eq_some_iff.mp H
           obtain ⟨t424, A470, H⟩ := H
           replace H : (if t424 = true then ((priceofficeref06_Children.f k1 t388 t389 (⟨#[]⟩ : ByteArray)).bind fun t425 => ((classification_Cover.f k1 t388 t389 (⟨#[]⟩ : ByteArray) t425).bind fun t428 => (if t428 = true then ((priceofficelaw06_awake.f k1).bind fun t429 => (some t429)) else (none)))) else (none)) = some r := H
           have A47 := mk0 A470
           clear A470
           by_cases c48 : t424 = true
           ·subst c48
            have H1 : ((priceofficeref06_Children.f k1 t388 t389 (⟨#[]⟩ : ByteArray)).bind fun t425 => ((classification_Cover.f k1 t388 t389 (⟨#[]⟩ : ByteArray) t425).bind fun t428 => (if t428 = true then ((priceofficelaw06_awake.f k1).bind fun t429 => (some t429)) else (none)))) = some r := by rw [if_pos rfl] at H; exact H
            clear H
            have H := H1
            clear H1
            replace H := Option.bind_eq_some_iff.mp H
            obtain ⟨t425, A490, H⟩ := H
            replace H : ((classification_Cover.f k1 t388 t389 (⟨#[]⟩ : ByteArray) t425).bind fun t428 => (if t428 = true then ((priceofficelaw06_awake.f k1).bind fun t429 => (some t429)) else (none))) = some r := H
            have A49 := mk0 A490
            clear A490
            replace H := Option.bind_eq_some_iff.mp H
            obtain ⟨t428, A500, H⟩ := H
            replace H : (if t428 = true then ((priceofficelaw06_awake.f k1).bind fun t429 => (some t429)) else (none)) = some r := H
            have A50 := mk0 A500
            clear A500
            by_cases c51 : t428 = true
            ·subst c51
             have H1 : ((priceofficelaw06_awake.f k1).bind fun t429 => (some t429)) = some r := by rw [if_pos rfl] at H; exact H
             clear H
             have H := H1
             clear H1
             replace H := Option.bind_eq_some_iff.mp H
             obtain ⟨t429, A520, H⟩ := H
             replace H : (some t429) = some r := H
             have A52 := mk0 A520
             clear A520
             obtain rfl := Option.some.inj H
             have hnb53 := NB386_393.out
             have hnc53 := NB393_386.out
             have hnb54 := NB386_387.out
             have hnc54 := NB387_386.out
             have hcz55_0 : wr.cell? ⟨gb386, 0, none⟩ = some (.string a0_0) := (blk_cell BK386.out 0).trans rfl
             have hcz55_1 : wr.cell? ⟨gb386, 1, none⟩ = some (.slice A0_1 l0_1.length c0_1) := (blk_cell BK386.out 1).trans rfl
             have hfz55_0 := blk_frozen BK386.out 0
             have hfz55_1 := blk_frozen BK386.out 1
             try go_wp2_with (first | ((with_reducible refine gate_callee (f := 19) rfl ?_); refine goesL_ (some 48) rfl rfl Tryd.func19 (by kernel_rfl) rfl #[.agg #[.string a0_0, .slice A0_1 l0_1.length c0_1]] rfl (by (try simp only [List.map_toArray, List.map_cons, List.map_nil]); first | done | rfl | (simp only [List.length_drop, List.length_take]; rfl)) ?_; (with_reducible refine (priceofficelaw06_raw.calls k1 a0_0 _ _ l0_1 t409 t410 _ ?side1 ?side2 A35.out).mono ?_); (case side1 => repeat (first | exact (Kd.C_below HR0_1.out HB.out) | (with_reducible refine Kd.C_alloc ?_ _) | (with_reducible refine Kd.C_drewN ?_ _) | (with_reducible refine Kd.C_drew ?_))); (case side2 => exact HC0_1.out); rintro e w56 ⟨v411, rfl, ho0, hb⟩; refine ⟨_, rfl, ?_⟩; have n0_ := mk0 (Kd.R_elder' (by (with_reducible repeat (first | apply r_a | apply r_n | apply r_d)); exact HO_12.out) (Kd.R_base ho0) hb); have n1_ := mk0 (Kd.R_elder' (by (with_reducible repeat (first | apply r_a | apply r_n | apply r_d)); exact HO_33.out) (Kd.R_base ho0) hb); have n2_ := mk0 (Kd.R_elder' (by (with_reducible repeat (first | apply r_a | apply r_n | apply r_d)); exact HO_394001.out) (Kd.R_base ho0) hb); have n3_ := mk0 (Kd.R_lower (Kd.R_new' (Kd.R_new' (Kd.R_new' ho0 (Kd.R_lt (by (with_reducible repeat (first | apply r_a | apply r_n | apply r_d)); exact HO_12.out))) (Kd.R_lt (by (with_reducible repeat (first | apply r_a | apply r_n | apply r_d)); exact HO_33.out))) (Kd.R_lt (by (with_reducible repeat (first | apply r_a | apply r_n | apply r_d)); exact HO_394001.out))) (below_size (by repeat (first | (with_reducible first | exact HB.out | apply b_a | apply b_n | apply b_d | refine below_set ?_ (IsS25.ge HI387.out) | refine below_set ?_ GE386.out | refine below_set ?_ GE393.out) | exact HB.out)))); have n4_ := mk0 (blk_below (g := gb386) (o := .cells #[.string a0_0, .slice A0_1 l0_1.length c0_1] 28 (0, 0)) (by (with_reducible repeat (first | refine blk_drewN ?_ _ | refine blk_drew ?_ | refine blk_alloc ?_ _)); exact BK386.out) hb); have n5_ := mk0 (blk_below (g := gb393) (o := .cells #[.string t388, .slice Ao17 t389.length co17] 28 (0, 0)) (by (with_reducible repeat (first | refine blk_drewN ?_ _ | refine blk_drew ?_ | refine blk_alloc ?_ _)); exact BK393.out) hb); have n6_ := mk0 (IsS25.below (by repeat (first | (with_reducible first | exact HI387.out | apply IsS25.alloc | apply IsS25.drewN | apply IsS25.drew | apply IsS25.set_1 | refine IsS25.far ?_ NB387_386.out _ | refine IsS25.far ?_ NB387_393.out _) | exact HI387.out)) hb); have n7_ := mk0 (below_step (by repeat (first | (with_reducible first | exact HB.out | apply b_a | apply b_n | apply b_d | refine below_set ?_ (IsS25.ge HI387.out) | refine below_set ?_ GE386.out | refine below_set ?_ GE393.out) | exact HB.out)) hb); clear HO_12; clear HO_33; clear HO_394001; clear BK386; clear BK393; clear HI387; clear HB; have HO_12 := n0_; have HO_33 := n1_; have HO_394001 := n2_; have HO412 := n3_; have BK386 := n4_; have BK393 := n5_; have HI387 := n6_; have HB := n7_; clear n0_ n1_ n2_ n3_ n4_ n5_ n6_ n7_; (try clear hb); (try clear hb2); (try clear hk); (try clear hi); (try clear ho0); have hcz57_0 : w56.cell? ⟨gb386, 0, none⟩ = some (.string a0_0) := (blk_cell BK386.out 0).trans rfl; have hcz57_1 : w56.cell? ⟨gb386, 1, none⟩ = some (.slice A0_1 l0_1.length c0_1) := (blk_cell BK386.out 1).trans rfl; have hfz57_0 := blk_frozen BK386.out 0; have hfz57_1 := blk_frozen BK386.out 1; obtain ⟨Ao58, co58, eo58⟩ := Kd.R_slice HO412.out; subst eo58) | ((with_reducible refine gate_callee (f := 19) rfl ?_); refine goesL_ (some 51) rfl rfl Tryd.func19 (by kernel_rfl) rfl #[.agg #[.string (⟨#[]⟩ : ByteArray), .slice A2 l2.length c2]] rfl (by (try simp only [List.map_toArray, List.map_cons, List.map_nil]); first | done | rfl | (simp only [List.length_drop, List.length_take]; rfl)) ?_; (with_reducible refine (priceofficelaw06_raw.calls k1 (⟨#[]⟩ : ByteArray) _ _ l2 t413 t414 _ ?side1 ?side2 A36.out).mono ?_); (case side1 => exact Kd.C_below HR2.out (by repeat (first | (with_reducible first | exact HB.out | apply b_a | apply b_n | apply b_d | refine below_set ?_ (IsS25.ge HI387.out) | refine below_set ?_ GE386.out | refine below_set ?_ GE393.out) | exact HB.out))); (case side2 => exact HC2.out); rintro e w59 ⟨v415, rfl, ho0, hb⟩; refine ⟨_, rfl, ?_⟩; have n0_ := mk0 (Kd.R_elder' (by (with_reducible repeat (first | apply r_a | apply r_n | apply r_d)); exact (Kd.R_mono (Kd.R_far (p := ⟨gb386, 1, none⟩) (Kd.R_far (p := ⟨gb386, 0, none⟩) (Kd.R_types HO_12.out BK386.out (by decide)) (fun _ hk => hk.2) (.string t409)) (fun _ hk => hk.2) (.slice Ao58 t410.length co58)) (fun _ h_ => h_.1))) (Kd.R_base ho0) hb); have n1_ := mk0 (Kd.R_elder' (by (with_reducible repeat (first | apply r_a | apply r_n | apply r_d)); exact (Kd.R_mono (Kd.R_far (p := ⟨gb386, 1, none⟩) (Kd.R_far (p := ⟨gb386, 0, none⟩) (Kd.R_types HO_33.out BK386.out (by decide)) (fun _ hk => hk.2) (.string t409)) (fun _ hk => hk.2) (.slice Ao58 t410.length co58)) (fun _ h_ => h_.1))) (Kd.R_base ho0) hb); have n2_ := mk0 (Kd.R_elder' (by (with_reducible repeat (first | apply r_a | apply r_n | apply r_d)); exact (Kd.R_mono (Kd.R_far (p := ⟨gb386, 1, none⟩) (Kd.R_far (p := ⟨gb386, 0, none⟩) (Kd.R_types HO_394001.out BK386.out (by decide)) (fun _ hk => hk.2) (.string t409)) (fun _ hk => hk.2) (.slice Ao58 t410.length co58)) (fun _ h_ => h_.1))) (Kd.R_base ho0) hb); have n3_ := mk0 (Kd.R_elder' (by (with_reducible repeat (first | apply r_a | apply r_n | apply r_d)); exact (Kd.R_mono (Kd.R_far (p := ⟨gb386, 1, none⟩) (Kd.R_far (p := ⟨gb386, 0, none⟩) (Kd.R_types HO412.out BK386.out (by decide)) (fun _ hk => hk.2) (.string t409)) (fun _ hk => hk.2) (.slice Ao58 t410.length co58)) (fun _ h_ => h_.1))) (Kd.R_base ho0) hb); have n4_ := mk0 (Kd.R_lower (Kd.R_new' (Kd.R_new' (Kd.R_new' (Kd.R_new' ho0 (Kd.R_lt (by (with_reducible repeat (first | apply r_a | apply r_n | apply r_d)); exact (Kd.R_mono (Kd.R_far (p := ⟨gb386, 1, none⟩) (Kd.R_far (p := ⟨gb386, 0, none⟩) (Kd.R_types HO_12.out BK386.out (by decide)) (fun _ hk => hk.2) (.string t409)) (fun _ hk => hk.2) (.slice Ao58 t410.length co58)) (fun _ h_ => h_.1))))) (Kd.R_lt (by (with_reducible repeat (first | apply r_a | apply r_n | apply r_d)); exact (Kd.R_mono (Kd.R_far (p := ⟨gb386, 1, none⟩) (Kd.R_far (p := ⟨gb386, 0, none⟩) (Kd.R_types HO_33.out BK386.out (by decide)) (fun _ hk => hk.2) (.string t409)) (fun _ hk => hk.2) (.slice Ao58 t410.length co58)) (fun _ h_ => h_.1))))) (Kd.R_lt (by (with_reducible repeat (first | apply r_a | apply r_n | apply r_d)); exact (Kd.R_mono (Kd.R_far (p := ⟨gb386, 1, none⟩) (Kd.R_far (p := ⟨gb386, 0, none⟩) (Kd.R_types HO_394001.out BK386.out (by decide)) (fun _ hk => hk.2) (.string t409)) (fun _ hk => hk.2) (.slice Ao58 t410.length co58)) (fun _ h_ => h_.1))))) (Kd.R_lt (by (with_reducible repeat (first | apply r_a | apply r_n | apply r_d)); exact (Kd.R_mono (Kd.R_far (p := ⟨gb386, 1, none⟩) (Kd.R_far (p := ⟨gb386, 0, none⟩) (Kd.R_types HO412.out BK386.out (by decide)) (fun _ hk => hk.2) (.string t409)) (fun _ hk => hk.2) (.slice Ao58 t410.length co58)) (fun _ h_ => h_.1))))) (below_size (by repeat (first | (with_reducible first | exact HB.out | apply b_a | apply b_n | apply b_d | refine below_set ?_ (IsS25.ge HI387.out) | refine below_set ?_ GE386.out | refine below_set ?_ GE393.out) | exact HB.out)))); have n5_ := mk0 (blk_below (g := gb386) (o := .cells #[.string t409, .slice Ao58 t410.length co58] 28 (0, 0)) (by (with_reducible repeat (first | refine blk_drewN ?_ _ | refine blk_drew ?_ | refine blk_alloc ?_ _)); refine blk_put (cs := #[.string t409, .slice A0_1 l0_1.length c0_1]) ?_ 1 _ rfl; (with_reducible repeat (first | refine blk_drewN ?_ _ | refine blk_drew ?_ | refine blk_alloc ?_ _)); refine blk_put (cs := #[.string a0_0, .slice A0_1 l0_1.length c0_1]) ?_ 0 _ rfl; (with_reducible repeat (first | refine blk_drewN ?_ _ | refine blk_drew ?_ | refine blk_alloc ?_ _)); exact BK386.out) hb); have n6_ := mk0 (blk_below (g := gb393) (o := .cells #[.string t388, .slice Ao17 t389.length co17] 28 (0, 0)) (by (with_reducible repeat (first | refine blk_drewN ?_ _ | refine blk_drew ?_ | refine blk_alloc ?_ _)); refine blk_far ?_ NB393_386.out _; (with_reducible repeat (first | refine blk_drewN ?_ _ | refine blk_drew ?_ | refine blk_alloc ?_ _)); refine blk_far ?_ NB393_386.out _; (with_reducible repeat (first | refine blk_drewN ?_ _ | refine blk_drew ?_ | refine blk_alloc ?_ _)); exact BK393.out) hb); have n7_ := mk0 (IsS25.below (show IsS25 w ((w56.setCell ⟨gb386, 0, none⟩ (.string t409)).setCell ⟨gb386, 1, none⟩ (.slice Ao58 t410.length co58)) gb387 l3 x388001_1 from by repeat (first | (with_reducible first | exact HI387.out | apply IsS25.alloc | apply IsS25.drewN | apply IsS25.drew | apply IsS25.set_1 | refine IsS25.far ?_ NB387_386.out _ | refine IsS25.far ?_ NB387_393.out _) | exact HI387.out)) hb); have n8_ := mk0 (below_step (by repeat (first | (with_reducible first | exact HB.out | apply b_a | apply b_n | apply b_d | refine below_set ?_ (IsS25.ge HI387.out) | refine below_set ?_ GE386.out | refine below_set ?_ GE393.out) | exact HB.out)) hb); clear HO_12; clear HO_33; clear HO_394001; clear HO412; clear BK386; clear BK393; clear HI387; clear HB; have HO_12 := n0_; have HO_33 := n1_; have HO_394001 := n2_; have HO412 := n3_; have HO416 := n4_; have BK386 := n5_; have BK393 := n6_; have HI387 := n7_; have HB := n8_; clear n0_ n1_ n2_ n3_ n4_ n5_ n6_ n7_ n8_; (try clear hb); (try clear hb2); (try clear hk); (try clear hi); (try clear ho0); obtain ⟨Ao61x, co61x, eo61x⟩ := Kd.R_slice HO416.out; subst eo61x))
             have n0_ := mk0 (r_d HO_12.out)
             have n1_ := mk0 (r_d HO_33.out)
             have n2_ := mk0 (r_d HO_394001.out)
             have n3_ := mk0 (r_d HO412.out)
             have n4_ := mk0 (r_d HO416.out)
             have n5_ := mk0 (blk_drew BK386.out)
             have n6_ := mk0 (blk_drew BK393.out)
             have n7_ := mk0 (IsS25.drew HI387.out)
             have n8_ := mk0 (b_d HB.out)
             clear HO_12
             clear HO_33
             clear HO_394001
             clear HO412
             clear HO416
             clear BK386
             clear BK393
             clear HI387
             clear HB
             have HO_12 := n0_
             have HO_33 := n1_
             have HO_394001 := n2_
             have HO412 := n3_
             have HO416 := n4_
             have BK386 := n5_
             have BK393 := n6_
             have HI387 := n7_
             have HB := n8_
             clear n0_ n1_ n2_ n3_ n4_ n5_ n6_ n7_ n8_
             obtain ⟨Ao61, co61, eo61⟩ := Kd.R_slice HO416.out
             (first | subst eo61 | (injection eo61 with f1_ f2_ f3_; have f4_ := f1_.symm; have f5_ := f3_.symm; clear f1_ f2_ f3_; subst f4_; subst f5_))
             refine start_ (n := 38) (S := fun w' => w'.cell? ⟨gb386, 0, none⟩ = some (.string t409) ∧ w'.cell? ⟨gb386, 1, none⟩ = some (.slice Ao58 t410.length co58) ∧ w'.cell? ⟨gb393, 0, none⟩ = some (.string t388) ∧ w'.cell? ⟨gb393, 1, none⟩ = some (.slice Ao17 t389.length co17)) (ds := []) #[false, false, false, false, false, false, false, false, false, false, false, false, false, false, false, false, false, false, false, false, false, false, false, false, false, false, false, false, false, false, false, false, false, false, false, false, false, false] (by kernel_rfl) rfl rfl ⟨(blk_cell BK386.out 0).trans rfl, (blk_cell BK386.out 1).trans rfl, (blk_cell BK393.out 0).trans rfl, (blk_cell BK393.out 1).trans rfl⟩ (fun hHeld => ?_); refine with_tabW priceofficelaw06_ClassificationCovers.tab14 priceofficelaw06_ClassificationCovers.bits14 (fun HT_ HW_ => ?_)
             generalize w59.drew = w60 at HO_12 HO_33 HO_394001 HO412 HO416 BK386 BK393 HI387 HB hHeld ⊢
             refine pure_ (i := 1) (N := some 59) (v := ?_) (a' := ?_) #[false, true, false, false, false, false, false, false, false, false, false, false, false, false, false, false, false, false, false, false, false, false, false, false, false, false, false, false, false, false, false, false, false, false, false, false, false, false] rfl rfl (any_of HT_.out (by kernel_rfl)) (fun _ _ _ h => h) (Or.inl ⟨by rfl, ?_⟩) ?_ ?_
             rotate_left
             ·intro w'
              go_simp
              with_reducible rfl
             rotate_left
             ·simp only [Act.put, List.setIfInBounds_toArray, List.set_cons_zero, List.set_cons_succ, i64_w, i32_w]
              rfl
             refine pure_ (i := 2) (N := some 60) (v := ?_) (a' := ?_) #[false, true, true, false, false, false, false, false, false, false, false, false, false, false, false, false, false, false, false, false, false, false, false, false, false, false, false, false, false, false, false, false, false, false, false, false, false, false] rfl rfl (any_of HT_.out (by kernel_rfl)) (fun _ _ _ h => h) (Or.inl ⟨by rfl, ?_⟩) ?_ ?_
             rotate_left
             ·intro w'
              go_simp
              with_reducible rfl
             rotate_left
             ·simp only [Act.put, List.setIfInBounds_toArray, List.set_cons_zero, List.set_cons_succ, i64_w, i32_w]
              rfl
             refine pure_ (i := 5) (N := some 63) (v := ?_) (a' := ?_) #[false, true, true, false, false, true, false, false, false, false, false, false, false, false, false, false, false, false, false, false, false, false, false, false, false, false, false, false, false, false, false, false, false, false, false, false, false, false] rfl rfl (any_of HT_.out (by kernel_rfl)) (fun _ _ _ h => h) (Or.inl ⟨by rfl, ?_⟩) ?_ ?_
             rotate_left
             ·intro w'
              go_simp
              with_reducible rfl
             rotate_left
             ·simp only [Act.put, List.setIfInBounds_toArray, List.set_cons_zero, List.set_cons_succ, i64_w, i32_w]
              rfl
             refine pure_ (i := 6) (N := some 64) (v := ?_) (a' := ?_) #[false, true, true, false, false, true, true, false, false, false, false, false, false, false, false, false, false, false, false, false, false, false, false, false, false, false, false, false, false, false, false, false, false, false, false, false, false, false] rfl rfl (any_of HT_.out (by kernel_rfl)) (fun _ _ _ h => h) (Or.inl ⟨by rfl, ?_⟩) ?_ ?_
             rotate_left
             ·intro w'
              go_simp
              with_reducible rfl
             rotate_left
             ·simp only [Act.put, List.setIfInBounds_toArray, List.set_cons_zero, List.set_cons_succ, i64_w, i32_w]
              rfl
             refine take_ (i := 0) (N := some 58) (v := ?_) (a' := ?_) #[true, true, true, false, false, true, true, false, false, false, false, false, false, false, false, false, false, false, false, false, false, false, false, false, false, false, false, false, false, false, false, false, false, false, false, false, false, false] rfl rfl (take_ofW HT_.out HW_.out (by kernel_rfl)) (fun _ _ _ h => h) (Or.inl ⟨by rfl, ?_⟩) hHeld ?_ ?_
             rotate_left
             ·rintro w' ⟨s0, s1, s2, s3⟩
              go_simp
              with_reducible rfl
             rotate_left
             ·simp only [Act.put, List.setIfInBounds_toArray, List.set_cons_zero, List.set_cons_succ, i64_w, i32_w]
              rfl
             refine take_ (i := 4) (N := some 62) (v := ?_) (a' := ?_) #[true, true, true, false, true, true, true, false, false, false, false, false, false, false, false, false, false, false, false, false, false, false, false, false, false, false, false, false, false, false, false, false, false, false, false, false, false, false] rfl rfl (take_ofW HT_.out HW_.out (by kernel_rfl)) (fun _ _ _ h => h) (Or.inl ⟨by rfl, ?_⟩) hHeld ?_ ?_
             rotate_left
             ·rintro w' ⟨s0, s1, s2, s3⟩
              go_simp
              with_reducible rfl
             rotate_left
             ·simp only [Act.put, List.setIfInBounds_toArray, List.set_cons_zero, List.set_cons_succ, i64_w, i32_w]
              rfl
             refine one_ (i := 3) (N := some 61) #[true, true, true, true, true, true, true, false, false, false, false, false, false, false, false, false, false, false, false, false, false, false, false, false, false, false, false, false, false, false, false, false, false, false, false, false, false, false] rfl rfl (one_of HT_.out (by kernel_rfl)) (by decide) (fun K hK => ?_)
             refine goes_ Tryd.func20 (by kernel_rfl) rfl #[.agg #[.string t409, .slice Ao58 t410.length co58], .string (a1.extract 0 ((ji37) : Int).toNat), .slice Ao61 t414.length co61] (by rfl) rfl rfl (by (try simp only [List.map_toArray, List.map_cons, List.map_nil]); first | done | (simp only [hji37]; rfl) | rfl | (simp only [List.length_drop, List.length_take]; rfl)) ?_
             with_reducible refine (classification_Cover.calls k1 t409 _ _ t410 (a1.extract 0 ((ji37) : Int).toNat) _ _ t414 t417 _ ?side1 ?side2 ?side3 ?side4 ?side5 A40.out).mono ?_
             (case side1 => repeat (first | exact (Kd.R_reads' HO412.out).2.2 | (with_reducible refine Kd.C_alloc ?_ _) | (with_reducible refine Kd.C_drewN ?_ _) | (with_reducible refine Kd.C_drew ?_)))
             (case side2 => exact (Kd.R_reads' HO412.out).2.1)
             (case side3 => repeat (first | exact (Kd.R_reads' HO416.out).2.2 | (with_reducible refine Kd.C_alloc ?_ _) | (with_reducible refine Kd.C_drewN ?_ _) | (with_reducible refine Kd.C_drew ?_)))
             (case side4 => exact (Kd.R_reads' HO416.out).2.1)
             (case side5 => first | exact HG.out | exact GL.below HG.out (by repeat (first | (with_reducible first | exact HB.out | apply b_a | apply b_n | apply b_d | refine below_set ?_ (IsS25.ge HI387.out) | refine below_set ?_ GE386.out | refine below_set ?_ GE393.out) | exact HB.out)))
             rintro e w62 ⟨rfl, hb⟩
             refine ⟨_, rfl, ?_⟩
             have n0_ := mk0 (Kd.R_below (by (with_reducible repeat (first | apply r_a | apply r_n | apply r_d)); exact HO_12.out) hb)
             have n1_ := mk0 (Kd.R_below (by (with_reducible repeat (first | apply r_a | apply r_n | apply r_d)); exact HO_33.out) hb)
             have n2_ := mk0 (Kd.R_below (by (with_reducible repeat (first | apply r_a | apply r_n | apply r_d)); exact HO_394001.out) hb)
             have n3_ := mk0 (Kd.R_below (by (with_reducible repeat (first | apply r_a | apply r_n | apply r_d)); exact HO412.out) hb)
             have n4_ := mk0 (Kd.R_below (by (with_reducible repeat (first | apply r_a | apply r_n | apply r_d)); exact HO416.out) hb)
             have n5_ := mk0 (blk_below (g := gb386) (o := .cells #[.string t409, .slice Ao58 t410.length co58] 28 (0, 0)) (by (with_reducible repeat (first | refine blk_drewN ?_ _ | refine blk_drew ?_ | refine blk_alloc ?_ _)); exact BK386.out) hb)
             have n6_ := mk0 (blk_below (g := gb393) (o := .cells #[.string t388, .slice Ao17 t389.length co17] 28 (0, 0)) (by (with_reducible repeat (first | refine blk_drewN ?_ _ | refine blk_drew ?_ | refine blk_alloc ?_ _)); exact BK393.out) hb)
             have n7_ := mk0 (IsS25.below (by repeat (first | (with_reducible first | exact HI387.out | apply IsS25.alloc | apply IsS25.drewN | apply IsS25.drew | apply IsS25.set_1 | refine IsS25.far ?_ NB387_386.out _ | refine IsS25.far ?_ NB387_393.out _) | exact HI387.out)) hb)
             have n8_ := mk0 (below_step (by repeat (first | (with_reducible first | exact HB.out | apply b_a | apply b_n | apply b_d | refine below_set ?_ (IsS25.ge HI387.out) | refine below_set ?_ GE386.out | refine below_set ?_ GE393.out) | exact HB.out)) hb)
             clear HO_12
             clear HO_33
             clear HO_394001
             clear HO412
             clear HO416
             clear BK386
             clear BK393
             clear HI387
             clear HB
             have HO_12 := n0_
             have HO_33 := n1_
             have HO_394001 := n2_
             have HO412 := n3_
             have HO416 := n4_
             have BK386 := n5_
             have BK393 := n6_
             have HI387 := n7_
             have HB := n8_
             clear n0_ n1_ n2_ n3_ n4_ n5_ n6_ n7_ n8_
             (try clear hb)
             (try clear hb2)
             (try clear hk)
             (try clear hi)
             refine hK.out _ _ ⟨(blk_cell BK386.out 0).trans rfl, (blk_cell BK386.out 1).trans rfl, (blk_cell BK393.out 0).trans rfl, (blk_cell BK393.out 1).trans rfl⟩ (fun hHeld => ?_)
             clear hK K
             refine norm_ (a' := ?_) ?_ ?_
             rotate_left
             ·show Act.put _ (some 61) _ = _
              simp only [Act.put, List.setIfInBounds_toArray, List.set_cons_zero, List.set_cons_succ, i64_w, i32_w]
              rfl
             refine one_ (i := 7) (N := some 65) #[true, true, true, true, true, true, true, true, false, false, false, false, false, false, false, false, false, false, false, false, false, false, false, false, false, false, false, false, false, false, false, false, false, false, false, false, false, false] rfl rfl (one_of HT_.out (by kernel_rfl)) (by decide) (fun K hK => ?_)
             refine goes_ Tryd.func21 (by kernel_rfl) rfl #[.agg #[.string t409, .slice Ao58 t410.length co58], .string (a1.extract 0 ((ji37) : Int).toNat), .slice Ao61 t414.length co61] (by rfl) rfl rfl (by (try simp only [List.map_toArray, List.map_cons, List.map_nil]); first | done | (simp only [hji37]; rfl) | rfl | (simp only [List.length_drop, List.length_take]; rfl)) ?_
             with_reducible refine (priceofficeref06_Cover.calls k1 t409 _ _ t410 (a1.extract 0 ((ji37) : Int).toNat) _ _ t414 t418 _ ?side1 ?side2 ?side3 ?side4 A41.out).mono ?_
             (case side1 => repeat (first | exact (Kd.R_reads' HO412.out).2.2 | (with_reducible refine Kd.C_alloc ?_ _) | (with_reducible refine Kd.C_drewN ?_ _) | (with_reducible refine Kd.C_drew ?_)))
             (case side2 => exact (Kd.R_reads' HO412.out).2.1)
             (case side3 => repeat (first | exact (Kd.R_reads' HO416.out).2.2 | (with_reducible refine Kd.C_alloc ?_ _) | (with_reducible refine Kd.C_drewN ?_ _) | (with_reducible refine Kd.C_drew ?_)))
             (case side4 => exact (Kd.R_reads' HO416.out).2.1)
             rintro e w63 ⟨rfl, hb⟩
             refine ⟨_, rfl, ?_⟩
             have n0_ := mk0 (Kd.R_below (by (with_reducible repeat (first | apply r_a | apply r_n | apply r_d)); exact HO_12.out) hb)
             have n1_ := mk0 (Kd.R_below (by (with_reducible repeat (first | apply r_a | apply r_n | apply r_d)); exact HO_33.out) hb)
             have n2_ := mk0 (Kd.R_below (by (with_reducible repeat (first | apply r_a | apply r_n | apply r_d)); exact HO_394001.out) hb)
             have n3_ := mk0 (Kd.R_below (by (with_reducible repeat (first | apply r_a | apply r_n | apply r_d)); exact HO412.out) hb)
             have n4_ := mk0 (Kd.R_below (by (with_reducible repeat (first | apply r_a | apply r_n | apply r_d)); exact HO416.out) hb)
             have n5_ := mk0 (blk_below (g := gb386) (o := .cells #[.string t409, .slice Ao58 t410.length co58] 28 (0, 0)) (by (with_reducible repeat (first | refine blk_drewN ?_ _ | refine blk_drew ?_ | refine blk_alloc ?_ _)); exact BK386.out) hb)
             have n6_ := mk0 (blk_below (g := gb393) (o := .cells #[.string t388, .slice Ao17 t389.length co17] 28 (0, 0)) (by (with_reducible repeat (first | refine blk_drewN ?_ _ | refine blk_drew ?_ | refine blk_alloc ?_ _)); exact BK393.out) hb)
             have n7_ := mk0 (IsS25.below (by repeat (first | (with_reducible first | exact HI387.out | apply IsS25.alloc | apply IsS25.drewN | apply IsS25.drew | apply IsS25.set_1 | refine IsS25.far ?_ NB387_386.out _ | refine IsS25.far ?_ NB387_393.out _) | exact HI387.out)) hb)
             have n8_ := mk0 (below_step (by repeat (first | (with_reducible first | exact HB.out | apply b_a | apply b_n | apply b_d | refine below_set ?_ (IsS25.ge HI387.out) | refine below_set ?_ GE386.out | refine below_set ?_ GE393.out) | exact HB.out)) hb)
             clear HO_12
             clear HO_33
             clear HO_394001
             clear HO412
             clear HO416
             clear BK386
             clear BK393
             clear HI387
             clear HB
             have HO_12 := n0_
             have HO_33 := n1_
             have HO_394001 := n2_
             have HO412 := n3_
             have HO416 := n4_
             have BK386 := n5_
             have BK393 := n6_
             have HI387 := n7_
             have HB := n8_
             clear n0_ n1_ n2_ n3_ n4_ n5_ n6_ n7_ n8_
             (try clear hb)
             (try clear hb2)
             (try clear hk)
             (try clear hi)
             obtain ⟨Ao64, co64, eo64⟩ := Kd.R_slice HO_12.out
             (first | subst eo64 | (injection eo64 with f1_ f2_ f3_; have f4_ := f1_.symm; have f5_ := f3_.symm; clear f1_ f2_ f3_; subst f4_; subst f5_))
             refine hK.out _ _ ⟨(blk_cell BK386.out 0).trans rfl, (blk_cell BK386.out 1).trans rfl, (blk_cell BK393.out 0).trans rfl, (blk_cell BK393.out 1).trans rfl⟩ (fun hHeld => ?_)
             clear hK K
             refine norm_ (a' := ?_) ?_ ?_
             rotate_left
             ·show Act.put _ (some 65) _ = _
              simp only [Act.put, List.setIfInBounds_toArray, List.set_cons_zero, List.set_cons_succ, i64_w, i32_w]
              rfl
             refine pure_ (i := 8) (N := some 66) (v := ?_) (a' := ?_) #[true, true, true, true, true, true, true, true, true, false, false, false, false, false, false, false, false, false, false, false, false, false, false, false, false, false, false, false, false, false, false, false, false, false, false, false, false, false] rfl rfl (any_of HT_.out (by kernel_rfl)) (fun _ _ _ h => h) (Or.inl ⟨by rfl, ?_⟩) ?_ ?_
             rotate_left
             ·intro w'
              go_simp
              with_reducible rfl
             rotate_left
             ·simp only [Act.put, List.setIfInBounds_toArray, List.set_cons_zero, List.set_cons_succ, i64_w, i32_w]
              rfl
             refine pure_ (i := 9) (N := some 67) (v := ?_) (a' := ?_) #[true, true, true, true, true, true, true, true, true, true, false, false, false, false, false, false, false, false, false, false, false, false, false, false, false, false, false, false, false, false, false, false, false, false, false, false, false, false] rfl rfl (any_of HT_.out (by kernel_rfl)) (fun _ _ _ h => h) (Or.inl ⟨by rfl, ?_⟩) ?_ ?_
             rotate_left
             ·intro w'
              go_simp
              with_reducible rfl
             rotate_left
             ·simp only [Act.put, List.setIfInBounds_toArray, List.set_cons_zero, List.set_cons_succ, i64_w, i32_w]
              rfl
             refine pure_ (i := 11) (N := some 69) (v := ?_) (a' := ?_) #[true, true, true, true, true, true, true, true, true, true, false, true, false, false, false, false, false, false, false, false, false, false, false, false, false, false, false, false, false, false, false, false, false, false, false, false, false, false] rfl rfl (any_of HT_.out (by kernel_rfl)) (fun _ _ _ h => h) (Or.inl ⟨by rfl, ?_⟩) ?_ ?_
             rotate_left
             ·intro w'
              go_simp
              with_reducible rfl
             rotate_left
             ·simp only [Act.put, List.setIfInBounds_toArray, List.set_cons_zero, List.set_cons_succ, i64_w, i32_w]
              rfl
             refine pure_ (i := 12) (N := some 70) (v := ?_) (a' := ?_) #[true, true, true, true, true, true, true, true, true, true, false, true, true, false, false, false, false, false, false, false, false, false, false, false, false, false, false, false, false, false, false, false, false, false, false, false, false, false] rfl rfl (any_of HT_.out (by kernel_rfl)) (fun _ _ _ h => h) (Or.inl ⟨by rfl, ?_⟩) ?_ ?_
             rotate_left
             ·intro w'
              go_simp
              with_reducible rfl
             rotate_left
             ·simp only [Act.put, List.setIfInBounds_toArray, List.set_cons_zero, List.set_cons_succ, i64_w, i32_w]
              rfl
             refine pure_ (i := 15) (N := some 73) (v := ?_) (a' := ?_) #[true, true, true, true, true, true, true, true, true, true, false, true, true, false, false, true, false, false, false, false, false, false, false, false, false, false, false, false, false, false, false, false, false, false, false, false, false, false] rfl rfl (any_of HT_.out (by kernel_rfl)) (fun _ _ _ h => h) (Or.inl ⟨by rfl, ?_⟩) ?_ ?_
             rotate_left
             ·intro w'
              go_simp
              with_reducible rfl
             rotate_left
             ·simp only [Act.put, List.setIfInBounds_toArray, List.set_cons_zero, List.set_cons_succ, i64_w, i32_w]
              rfl
             refine pure_ (i := 16) (N := some 74) (v := ?_) (a' := ?_) #[true, true, true, true, true, true, true, true, true, true, false, true, true, false, false, true, true, false, false, false, false, false, false, false, false, false, false, false, false, false, false, false, false, false, false, false, false, false] rfl rfl (any_of HT_.out (by kernel_rfl)) (fun _ _ _ h => h) (Or.inl ⟨by rfl, ?_⟩) ?_ ?_
             rotate_left
             ·intro w'
              go_simp
              with_reducible rfl
             rotate_left
             ·simp only [Act.put, List.setIfInBounds_toArray, List.set_cons_zero, List.set_cons_succ, i64_w, i32_w]
              rfl
             refine take_ (i := 10) (N := some 68) (v := ?_) (a' := ?_) #[true, true, true, true, true, true, true, true, true, true, true, true, true, false, false, true, true, false, false, false, false, false, false, false, false, false, false, false, false, false, false, false, false, false, false, false, false, false] rfl rfl (take_ofW HT_.out HW_.out (by kernel_rfl)) (fun _ _ _ h => h) (Or.inl ⟨by rfl, ?_⟩) hHeld ?_ ?_
             rotate_left
             ·rintro w' ⟨s0, s1, s2, s3⟩
              go_simp
              with_reducible rfl
             rotate_left
             ·simp only [Act.put, List.setIfInBounds_toArray, List.set_cons_zero, List.set_cons_succ, i64_w, i32_w]
              rfl
             refine take_ (i := 14) (N := some 72) (v := ?_) (a' := ?_) #[true, true, true, true, true, true, true, true, true, true, true, true, true, false, true, true, true, false, false, false, false, false, false, false, false, false, false, false, false, false, false, false, false, false, false, false, false, false] rfl rfl (take_ofW HT_.out HW_.out (by kernel_rfl)) (fun _ _ _ h => h) (Or.inl ⟨by rfl, ?_⟩) hHeld ?_ ?_
             rotate_left
             ·rintro w' ⟨s0, s1, s2, s3⟩
              go_simp
              with_reducible rfl
             rotate_left
             ·simp only [Act.put, List.setIfInBounds_toArray, List.set_cons_zero, List.set_cons_succ, i64_w, i32_w]
              rfl
             refine one_ (i := 13) (N := some 71) #[true, true, true, true, true, true, true, true, true, true, true, true, true, true, true, true, true, false, false, false, false, false, false, false, false, false, false, false, false, false, false, false, false, false, false, false, false, false] rfl rfl (one_of HT_.out (by kernel_rfl)) (by decide) (fun K hK => ?_)
             refine goes_ Tryd.func20 (by kernel_rfl) rfl #[.agg #[.string t388, .slice Ao17 t389.length co17], .string (rdOf ByteArray.empty y397 t400), .slice Ao64 x12_1.length co64] (by rfl) rfl rfl (by (try simp only [List.map_toArray, List.map_cons, List.map_nil]); first | done | rfl | (simp only [List.length_drop, List.length_take]; rfl)) ?_
             with_reducible refine (classification_Cover.calls k1 t388 _ _ t389 (rdOf ByteArray.empty y397 t400) _ _ x12_1 t419 _ ?side1 ?side2 ?side3 ?side4 ?side5 A43.out).mono ?_
             (case side1 => repeat (first | exact (Kd.R_reads' HO_394001.out).2.2 | (with_reducible refine Kd.C_alloc ?_ _) | (with_reducible refine Kd.C_drewN ?_ _) | (with_reducible refine Kd.C_drew ?_)))
             (case side2 => exact (Kd.R_reads' HO_394001.out).2.1)
             (case side3 => repeat (first | exact (Kd.R_reads' HO_12.out).2.2 | (with_reducible refine Kd.C_alloc ?_ _) | (with_reducible refine Kd.C_drewN ?_ _) | (with_reducible refine Kd.C_drew ?_)))
             (case side4 => exact (Kd.R_reads' HO_12.out).2.1)
             (case side5 => first | exact HG.out | exact GL.below HG.out (by repeat (first | (with_reducible first | exact HB.out | apply b_a | apply b_n | apply b_d | refine below_set ?_ (IsS25.ge HI387.out) | refine below_set ?_ GE386.out | refine below_set ?_ GE393.out) | exact HB.out)))
             rintro e w65 ⟨rfl, hb⟩
             refine ⟨_, rfl, ?_⟩
             have n0_ := mk0 (Kd.R_below (by (with_reducible repeat (first | apply r_a | apply r_n | apply r_d)); exact HO_12.out) hb)
             have n1_ := mk0 (Kd.R_below (by (with_reducible repeat (first | apply r_a | apply r_n | apply r_d)); exact HO_33.out) hb)
             have n2_ := mk0 (Kd.R_below (by (with_reducible repeat (first | apply r_a | apply r_n | apply r_d)); exact HO_394001.out) hb)
             have n3_ := mk0 (Kd.R_below (by (with_reducible repeat (first | apply r_a | apply r_n | apply r_d)); exact HO412.out) hb)
             have n4_ := mk0 (Kd.R_below (by (with_reducible repeat (first | apply r_a | apply r_n | apply r_d)); exact HO416.out) hb)
             have n5_ := mk0 (blk_below (g := gb386) (o := .cells #[.string t409, .slice Ao58 t410.length co58] 28 (0, 0)) (by (with_reducible repeat (first | refine blk_drewN ?_ _ | refine blk_drew ?_ | refine blk_alloc ?_ _)); exact BK386.out) hb)
             have n6_ := mk0 (blk_below (g := gb393) (o := .cells #[.string t388, .slice Ao17 t389.length co17] 28 (0, 0)) (by (with_reducible repeat (first | refine blk_drewN ?_ _ | refine blk_drew ?_ | refine blk_alloc ?_ _)); exact BK393.out) hb)
             have n7_ := mk0 (IsS25.below (by repeat (first | (with_reducible first | exact HI387.out | apply IsS25.alloc | apply IsS25.drewN | apply IsS25.drew | apply IsS25.set_1 | refine IsS25.far ?_ NB387_386.out _ | refine IsS25.far ?_ NB387_393.out _) | exact HI387.out)) hb)
             have n8_ := mk0 (below_step (by repeat (first | (with_reducible first | exact HB.out | apply b_a | apply b_n | apply b_d | refine below_set ?_ (IsS25.ge HI387.out) | refine below_set ?_ GE386.out | refine below_set ?_ GE393.out) | exact HB.out)) hb)
             clear HO_12
             clear HO_33
             clear HO_394001
             clear HO412
             clear HO416
             clear BK386
             clear BK393
             clear HI387
             clear HB
             have HO_12 := n0_
             have HO_33 := n1_
             have HO_394001 := n2_
             have HO412 := n3_
             have HO416 := n4_
             have BK386 := n5_
             have BK393 := n6_
             have HI387 := n7_
             have HB := n8_
             clear n0_ n1_ n2_ n3_ n4_ n5_ n6_ n7_ n8_
             (try clear hb)
             (try clear hb2)
             (try clear hk)
             (try clear hi)
             refine hK.out _ _ ⟨(blk_cell BK386.out 0).trans rfl, (blk_cell BK386.out 1).trans rfl, (blk_cell BK393.out 0).trans rfl, (blk_cell BK393.out 1).trans rfl⟩ (fun hHeld => ?_)
             clear hK K
             refine norm_ (a' := ?_) ?_ ?_
             rotate_left
             ·show Act.put _ (some 71) _ = _
              simp only [Act.put, List.setIfInBounds_toArray, List.set_cons_zero, List.set_cons_succ, i64_w, i32_w]
              rfl
             refine one_ (i := 17) (N := some 75) #[true, true, true, true, true, true, true, true, true, true, true, true, true, true, true, true, true, true, false, false, false, false, false, false, false, false, false, false, false, false, false, false, false, false, false, false, false, false] rfl rfl (one_of HT_.out (by kernel_rfl)) (by decide) (fun K hK => ?_)
             refine goes_ Tryd.func21 (by kernel_rfl) rfl #[.agg #[.string t388, .slice Ao17 t389.length co17], .string (rdOf ByteArray.empty y397 t400), .slice Ao64 x12_1.length co64] (by rfl) rfl rfl (by (try simp only [List.map_toArray, List.map_cons, List.map_nil]); first | done | rfl | (simp only [List.length_drop, List.length_take]; rfl)) ?_
             with_reducible refine (priceofficeref06_Cover.calls k1 t388 _ _ t389 (rdOf ByteArray.empty y397 t400) _ _ x12_1 t420 _ ?side1 ?side2 ?side3 ?side4 A44.out).mono ?_
             (case side1 => repeat (first | exact (Kd.R_reads' HO_394001.out).2.2 | (with_reducible refine Kd.C_alloc ?_ _) | (with_reducible refine Kd.C_drewN ?_ _) | (with_reducible refine Kd.C_drew ?_)))
             (case side2 => exact (Kd.R_reads' HO_394001.out).2.1)
             (case side3 => repeat (first | exact (Kd.R_reads' HO_12.out).2.2 | (with_reducible refine Kd.C_alloc ?_ _) | (with_reducible refine Kd.C_drewN ?_ _) | (with_reducible refine Kd.C_drew ?_)))
             (case side4 => exact (Kd.R_reads' HO_12.out).2.1)
             rintro e w66 ⟨rfl, hb⟩
             refine ⟨_, rfl, ?_⟩
             have n0_ := mk0 (Kd.R_below (by (with_reducible repeat (first | apply r_a | apply r_n | apply r_d)); exact HO_12.out) hb)
             have n1_ := mk0 (Kd.R_below (by (with_reducible repeat (first | apply r_a | apply r_n | apply r_d)); exact HO_33.out) hb)
             have n2_ := mk0 (Kd.R_below (by (with_reducible repeat (first | apply r_a | apply r_n | apply r_d)); exact HO_394001.out) hb)
             have n3_ := mk0 (Kd.R_below (by (with_reducible repeat (first | apply r_a | apply r_n | apply r_d)); exact HO412.out) hb)
             have n4_ := mk0 (Kd.R_below (by (with_reducible repeat (first | apply r_a | apply r_n | apply r_d)); exact HO416.out) hb)
             have n5_ := mk0 (blk_below (g := gb386) (o := .cells #[.string t409, .slice Ao58 t410.length co58] 28 (0, 0)) (by (with_reducible repeat (first | refine blk_drewN ?_ _ | refine blk_drew ?_ | refine blk_alloc ?_ _)); exact BK386.out) hb)
             have n6_ := mk0 (blk_below (g := gb393) (o := .cells #[.string t388, .slice Ao17 t389.length co17] 28 (0, 0)) (by (with_reducible repeat (first | refine blk_drewN ?_ _ | refine blk_drew ?_ | refine blk_alloc ?_ _)); exact BK393.out) hb)
             have n7_ := mk0 (IsS25.below (by repeat (first | (with_reducible first | exact HI387.out | apply IsS25.alloc | apply IsS25.drewN | apply IsS25.drew | apply IsS25.set_1 | refine IsS25.far ?_ NB387_386.out _ | refine IsS25.far ?_ NB387_393.out _) | exact HI387.out)) hb)
             have n8_ := mk0 (below_step (by repeat (first | (with_reducible first | exact HB.out | apply b_a | apply b_n | apply b_d | refine below_set ?_ (IsS25.ge HI387.out) | refine below_set ?_ GE386.out | refine below_set ?_ GE393.out) | exact HB.out)) hb)
             clear HO_12
             clear HO_33
             clear HO_394001
             clear HO412
             clear HO416
             clear BK386
             clear BK393
             clear HI387
             clear HB
             have HO_12 := n0_
             have HO_33 := n1_
             have HO_394001 := n2_
             have HO412 := n3_
             have HO416 := n4_
             have BK386 := n5_
             have BK393 := n6_
             have HI387 := n7_
             have HB := n8_
             clear n0_ n1_ n2_ n3_ n4_ n5_ n6_ n7_ n8_
             (try clear hb)
             (try clear hb2)
             (try clear hk)
             (try clear hi)
             refine hK.out _ _ ⟨(blk_cell BK386.out 0).trans rfl, (blk_cell BK386.out 1).trans rfl, (blk_cell BK393.out 0).trans rfl, (blk_cell BK393.out 1).trans rfl⟩ (fun hHeld => ?_)
             clear hK K
             refine norm_ (a' := ?_) ?_ ?_
             rotate_left
             ·show Act.put _ (some 75) _ = _
              simp only [Act.put, List.setIfInBounds_toArray, List.set_cons_zero, List.set_cons_succ, i64_w, i32_w]
              rfl
             refine pure_ (i := 18) (N := some 76) (v := ?_) (a' := ?_) #[true, true, true, true, true, true, true, true, true, true, true, true, true, true, true, true, true, true, true, false, false, false, false, false, false, false, false, false, false, false, false, false, false, false, false, false, false, false] rfl rfl (any_of HT_.out (by kernel_rfl)) (fun _ _ _ h => h) (Or.inl ⟨by rfl, ?_⟩) ?_ ?_
             rotate_left
             ·intro w'
              go_simp
              with_reducible rfl
             rotate_left
             ·simp only [Act.put, List.setIfInBounds_toArray, List.set_cons_zero, List.set_cons_succ, i64_w, i32_w]
              rfl
             refine pure_ (i := 19) (N := some 77) (v := ?_) (a' := ?_) #[true, true, true, true, true, true, true, true, true, true, true, true, true, true, true, true, true, true, true, true, false, false, false, false, false, false, false, false, false, false, false, false, false, false, false, false, false, false] rfl rfl (any_of HT_.out (by kernel_rfl)) (fun _ _ _ h => h) (Or.inl ⟨by rfl, ?_⟩) ?_ ?_
             rotate_left
             ·intro w'
              go_simp
              with_reducible rfl
             rotate_left
             ·simp only [Act.put, List.setIfInBounds_toArray, List.set_cons_zero, List.set_cons_succ, i64_w, i32_w]
              rfl
             refine pure_ (i := 20) (N := some 78) (v := ?_) (a' := ?_) #[true, true, true, true, true, true, true, true, true, true, true, true, true, true, true, true, true, true, true, true, true, false, false, false, false, false, false, false, false, false, false, false, false, false, false, false, false, false] rfl rfl (any_of HT_.out (by kernel_rfl)) (fun _ _ _ h => h) (Or.inl ⟨by rfl, ?_⟩) ?_ ?_
             rotate_left
             ·intro w'
              go_simp
              with_reducible rfl
             rotate_left
             ·simp only [Act.put, List.setIfInBounds_toArray, List.set_cons_zero, List.set_cons_succ, i64_w, i32_w]
              rfl
             refine pure_ (i := 22) (N := some 80) (v := ?_) (a' := ?_) #[true, true, true, true, true, true, true, true, true, true, true, true, true, true, true, true, true, true, true, true, true, false, true, false, false, false, false, false, false, false, false, false, false, false, false, false, false, false] rfl rfl (any_of HT_.out (by kernel_rfl)) (fun _ _ _ h => h) (Or.inl ⟨by rfl, ?_⟩) ?_ ?_
             rotate_left
             ·intro w'
              go_simp
              with_reducible rfl
             rotate_left
             ·simp only [Act.put, List.setIfInBounds_toArray, List.set_cons_zero, List.set_cons_succ, i64_w, i32_w]
              rfl
             refine pure_ (i := 24) (N := some 82) (v := ?_) (a' := ?_) #[true, true, true, true, true, true, true, true, true, true, true, true, true, true, true, true, true, true, true, true, true, false, true, false, true, false, false, false, false, false, false, false, false, false, false, false, false, false] rfl rfl (any_of HT_.out (by kernel_rfl)) (fun _ _ _ h => h) (Or.inl ⟨by rfl, ?_⟩) ?_ ?_
             rotate_left
             ·intro w'
              go_simp
              with_reducible rfl
             rotate_left
             ·simp only [Act.put, List.setIfInBounds_toArray, List.set_cons_zero, List.set_cons_succ, i64_w, i32_w]
              rfl
             refine take_ (i := 21) (N := some 79) (v := ?_) (a' := ?_) #[true, true, true, true, true, true, true, true, true, true, true, true, true, true, true, true, true, true, true, true, true, true, true, false, true, false, false, false, false, false, false, false, false, false, false, false, false, false] rfl rfl (take_ofW HT_.out HW_.out (by kernel_rfl)) (fun _ _ _ h => h) (Or.inl ⟨by rfl, ?_⟩) hHeld ?_ ?_
             rotate_left
             ·rintro w' ⟨s0, s1, s2, s3⟩
              go_simp
              with_reducible rfl
             rotate_left
             ·simp only [Act.put, List.setIfInBounds_toArray, List.set_cons_zero, List.set_cons_succ, i64_w, i32_w]
              rfl
             refine take_ (i := 23) (N := some 81) (v := ?_) (a' := ?_) #[true, true, true, true, true, true, true, true, true, true, true, true, true, true, true, true, true, true, true, true, true, true, true, true, true, false, false, false, false, false, false, false, false, false, false, false, false, false] rfl rfl (take_ofW HT_.out HW_.out (by kernel_rfl)) (fun _ _ _ h => h) (Or.inl ⟨by rfl, ?_⟩) hHeld ?_ ?_
             rotate_left
             ·rintro w' ⟨s0, s1, s2, s3⟩
              go_simp
              with_reducible rfl
             rotate_left
             ·simp only [Act.put, List.setIfInBounds_toArray, List.set_cons_zero, List.set_cons_succ, i64_w, i32_w]
              rfl
             refine one_ (i := 25) (N := some 83) #[true, true, true, true, true, true, true, true, true, true, true, true, true, true, true, true, true, true, true, true, true, true, true, true, true, true, false, false, false, false, false, false, false, false, false, false, false, false] rfl rfl (one_of HT_.out (by kernel_rfl)) (by decide) (fun K hK => ?_)
             refine goes_ Tryd.func22 (by kernel_rfl) rfl #[.agg #[.string t388, .slice Ao17 t389.length co17], .string (rdOf ByteArray.empty y397 t400)] (by rfl) rfl rfl (by (try simp only [List.map_toArray, List.map_cons, List.map_nil]); first | done | rfl | (simp only [List.length_drop, List.length_take]; rfl)) ?_
             with_reducible refine (priceofficeref06_Leaves.calls k1 t388 _ _ t389 (rdOf ByteArray.empty y397 t400) t421 _ ?side1 ?side2 A46.out).mono ?_
             (case side1 => repeat (first | exact (Kd.R_reads' HO_394001.out).2.2 | (with_reducible refine Kd.C_alloc ?_ _) | (with_reducible refine Kd.C_drewN ?_ _) | (with_reducible refine Kd.C_drew ?_)))
             (case side2 => exact (Kd.R_reads' HO_394001.out).2.1)
             rintro e w67 ⟨v422, rfl, ho0, hb⟩
             refine ⟨_, rfl, ?_⟩
             have n0_ := mk0 (Kd.R_elder' (by (with_reducible repeat (first | apply r_a | apply r_n | apply r_d)); exact HO_12.out) (Kd.R_base ho0) hb)
             have n1_ := mk0 (Kd.R_elder' (by (with_reducible repeat (first | apply r_a | apply r_n | apply r_d)); exact HO_33.out) (Kd.R_base ho0) hb)
             have n2_ := mk0 (Kd.R_elder' (by (with_reducible repeat (first | apply r_a | apply r_n | apply r_d)); exact HO_394001.out) (Kd.R_base ho0) hb)
             have n3_ := mk0 (Kd.R_elder' (by (with_reducible repeat (first | apply r_a | apply r_n | apply r_d)); exact HO412.out) (Kd.R_base ho0) hb)
             have n4_ := mk0 (Kd.R_elder' (by (with_reducible repeat (first | apply r_a | apply r_n | apply r_d)); exact HO416.out) (Kd.R_base ho0) hb)
             have n5_ := mk0 (Kd.R_lower (Kd.R_new' (Kd.R_new' (Kd.R_new' (Kd.R_new' (Kd.R_new' ho0 (Kd.R_lt (by (with_reducible repeat (first | apply r_a | apply r_n | apply r_d)); exact HO_12.out))) (Kd.R_lt (by (with_reducible repeat (first | apply r_a | apply r_n | apply r_d)); exact HO_33.out))) (Kd.R_lt (by (with_reducible repeat (first | apply r_a | apply r_n | apply r_d)); exact HO_394001.out))) (Kd.R_lt (by (with_reducible repeat (first | apply r_a | apply r_n | apply r_d)); exact HO412.out))) (Kd.R_lt (by (with_reducible repeat (first | apply r_a | apply r_n | apply r_d)); exact HO416.out))) (below_size (by repeat (first | (with_reducible first | exact HB.out | apply b_a | apply b_n | apply b_d | refine below_set ?_ (IsS25.ge HI387.out) | refine below_set ?_ GE386.out | refine below_set ?_ GE393.out) | exact HB.out))))
             have n6_ := mk0 (blk_below (g := gb386) (o := .cells #[.string t409, .slice Ao58 t410.length co58] 28 (0, 0)) (by (with_reducible repeat (first | refine blk_drewN ?_ _ | refine blk_drew ?_ | refine blk_alloc ?_ _)); exact BK386.out) hb)
             have n7_ := mk0 (blk_below (g := gb393) (o := .cells #[.string t388, .slice Ao17 t389.length co17] 28 (0, 0)) (by (with_reducible repeat (first | refine blk_drewN ?_ _ | refine blk_drew ?_ | refine blk_alloc ?_ _)); exact BK393.out) hb)
             have n8_ := mk0 (IsS25.below (by repeat (first | (with_reducible first | exact HI387.out | apply IsS25.alloc | apply IsS25.drewN | apply IsS25.drew | apply IsS25.set_1 | refine IsS25.far ?_ NB387_386.out _ | refine IsS25.far ?_ NB387_393.out _) | exact HI387.out)) hb)
             have n9_ := mk0 (below_step (by repeat (first | (with_reducible first | exact HB.out | apply b_a | apply b_n | apply b_d | refine below_set ?_ (IsS25.ge HI387.out) | refine below_set ?_ GE386.out | refine below_set ?_ GE393.out) | exact HB.out)) hb)
             clear HO_12
             clear HO_33
             clear HO_394001
             clear HO412
             clear HO416
             clear BK386
             clear BK393
             clear HI387
             clear HB
             have HO_12 := n0_
             have HO_33 := n1_
             have HO_394001 := n2_
             have HO412 := n3_
             have HO416 := n4_
             have HO423 := n5_
             have BK386 := n6_
             have BK393 := n7_
             have HI387 := n8_
             have HB := n9_
             clear n0_ n1_ n2_ n3_ n4_ n5_ n6_ n7_ n8_ n9_
             (try clear hb)
             (try clear hb2)
             (try clear hk)
             (try clear hi)
             (try clear ho0)
             obtain ⟨Ao68, co68, eo68⟩ := Kd.R_slice HO423.out
             (first | subst eo68 | (injection eo68 with f1_ f2_ f3_; have f4_ := f1_.symm; have f5_ := f3_.symm; clear f1_ f2_ f3_; subst f4_; subst f5_))
             refine hK.out _ _ ⟨(blk_cell BK386.out 0).trans rfl, (blk_cell BK386.out 1).trans rfl, (blk_cell BK393.out 0).trans rfl, (blk_cell BK393.out 1).trans rfl⟩ (fun hHeld => ?_)
             clear hK K
             refine norm_ (a' := ?_) ?_ ?_
             rotate_left
             ·show Act.put _ (some 83) _ = _
              simp only [Act.put, List.setIfInBounds_toArray, List.set_cons_zero, List.set_cons_succ, i64_w, i32_w]
              rfl
             refine one_ (i := 26) (N := some 84) #[true, true, true, true, true, true, true, true, true, true, true, true, true, true, true, true, true, true, true, true, true, true, true, true, true, true, true, false, false, false, false, false, false, false, false, false, false, false] rfl rfl (one_of HT_.out (by kernel_rfl)) (by decide) (fun K hK => ?_)
             refine goes_ Tryd.func20 (by kernel_rfl) rfl #[.agg #[.string t388, .slice Ao17 t389.length co17], .string (rdOf ByteArray.empty y397 t400), .slice Ao68 t421.length co68] (by rfl) rfl rfl (by (try simp only [List.map_toArray, List.map_cons, List.map_nil]); first | done | rfl | (simp only [List.length_drop, List.length_take]; rfl)) ?_
             with_reducible refine (classification_Cover.calls k1 t388 _ _ t389 (rdOf ByteArray.empty y397 t400) _ _ t421 true _ ?side1 ?side2 ?side3 ?side4 ?side5 A47.out).mono ?_
             (case side1 => repeat (first | exact (Kd.R_reads' HO_394001.out).2.2 | (with_reducible refine Kd.C_alloc ?_ _) | (with_reducible refine Kd.C_drewN ?_ _) | (with_reducible refine Kd.C_drew ?_)))
             (case side2 => exact (Kd.R_reads' HO_394001.out).2.1)
             (case side3 => repeat (first | exact (Kd.R_reads' HO423.out).2.2 | (with_reducible refine Kd.C_alloc ?_ _) | (with_reducible refine Kd.C_drewN ?_ _) | (with_reducible refine Kd.C_drew ?_)))
             (case side4 => exact (Kd.R_reads' HO423.out).2.1)
             (case side5 => first | exact HG.out | exact GL.below HG.out (by repeat (first | (with_reducible first | exact HB.out | apply b_a | apply b_n | apply b_d | refine below_set ?_ (IsS25.ge HI387.out) | refine below_set ?_ GE386.out | refine below_set ?_ GE393.out) | exact HB.out)))
             rintro e w69 ⟨rfl, hb⟩
             refine ⟨_, rfl, ?_⟩
             have n0_ := mk0 (Kd.R_below (by (with_reducible repeat (first | apply r_a | apply r_n | apply r_d)); exact HO_12.out) hb)
             have n1_ := mk0 (Kd.R_below (by (with_reducible repeat (first | apply r_a | apply r_n | apply r_d)); exact HO_33.out) hb)
             have n2_ := mk0 (Kd.R_below (by (with_reducible repeat (first | apply r_a | apply r_n | apply r_d)); exact HO_394001.out) hb)
             have n3_ := mk0 (Kd.R_below (by (with_reducible repeat (first | apply r_a | apply r_n | apply r_d)); exact HO412.out) hb)
             have n4_ := mk0 (Kd.R_below (by (with_reducible repeat (first | apply r_a | apply r_n | apply r_d)); exact HO416.out) hb)
             have n5_ := mk0 (Kd.R_below (by (with_reducible repeat (first | apply r_a | apply r_n | apply r_d)); exact HO423.out) hb)
             have n6_ := mk0 (blk_below (g := gb386) (o := .cells #[.string t409, .slice Ao58 t410.length co58] 28 (0, 0)) (by (with_reducible repeat (first | refine blk_drewN ?_ _ | refine blk_drew ?_ | refine blk_alloc ?_ _)); exact BK386.out) hb)
             have n7_ := mk0 (blk_below (g := gb393) (o := .cells #[.string t388, .slice Ao17 t389.length co17] 28 (0, 0)) (by (with_reducible repeat (first | refine blk_drewN ?_ _ | refine blk_drew ?_ | refine blk_alloc ?_ _)); exact BK393.out) hb)
             have n8_ := mk0 (IsS25.below (by repeat (first | (with_reducible first | exact HI387.out | apply IsS25.alloc | apply IsS25.drewN | apply IsS25.drew | apply IsS25.set_1 | refine IsS25.far ?_ NB387_386.out _ | refine IsS25.far ?_ NB387_393.out _) | exact HI387.out)) hb)
             have n9_ := mk0 (below_step (by repeat (first | (with_reducible first | exact HB.out | apply b_a | apply b_n | apply b_d | refine below_set ?_ (IsS25.ge HI387.out) | refine below_set ?_ GE386.out | refine below_set ?_ GE393.out) | exact HB.out)) hb)
             clear HO_12
             clear HO_33
             clear HO_394001
             clear HO412
             clear HO416
             clear HO423
             clear BK386
             clear BK393
             clear HI387
             clear HB
             have HO_12 := n0_
             have HO_33 := n1_
             have HO_394001 := n2_
             have HO412 := n3_
             have HO416 := n4_
             have HO423 := n5_
             have BK386 := n6_
             have BK393 := n7_
             have HI387 := n8_
             have HB := n9_
             clear n0_ n1_ n2_ n3_ n4_ n5_ n6_ n7_ n8_ n9_
             (try clear hb)
             (try clear hb2)
             (try clear hk)
             (try clear hi)
             refine hK.out _ _ ⟨(blk_cell BK386.out 0).trans rfl, (blk_cell BK386.out 1).trans rfl, (blk_cell BK393.out 0).trans rfl, (blk_cell BK393.out 1).trans rfl⟩ (fun hHeld => ?_)
             clear hK K
             refine norm_ (a' := ?_) ?_ ?_
             rotate_left
             ·show Act.put _ (some 84) _ = _
              simp only [Act.put, List.setIfInBounds_toArray, List.set_cons_zero, List.set_cons_succ, i64_w, i32_w]
              rfl
             refine pure_ (i := 27) (N := some 85) (v := ?_) (a' := ?_) #[true, true, true, true, true, true, true, true, true, true, true, true, true, true, true, true, true, true, true, true, true, true, true, true, true, true, true, true, false, false, false, false, false, false, false, false, false, false] rfl rfl (any_of HT_.out (by kernel_rfl)) (fun _ _ _ h => h) (Or.inl ⟨by rfl, ?_⟩) ?_ ?_
             rotate_left
             ·intro w'
              go_simp
              with_reducible rfl
             rotate_left
             ·simp only [Act.put, List.setIfInBounds_toArray, List.set_cons_zero, List.set_cons_succ, i64_w, i32_w]
              rfl
             refine pure_ (i := 28) (N := some 86) (v := ?_) (a' := ?_) #[true, true, true, true, true, true, true, true, true, true, true, true, true, true, true, true, true, true, true, true, true, true, true, true, true, true, true, true, true, false, false, false, false, false, false, false, false, false] rfl rfl (any_of HT_.out (by kernel_rfl)) (fun _ _ _ h => h) (Or.inl ⟨by rfl, ?_⟩) ?_ ?_
             rotate_left
             ·intro w'
              go_simp
              with_reducible rfl
             rotate_left
             ·simp only [Act.put, List.setIfInBounds_toArray, List.set_cons_zero, List.set_cons_succ, i64_w, i32_w]
              rfl
             refine take_ (i := 29) (N := some 87) (v := ?_) (a' := ?_) #[true, true, true, true, true, true, true, true, true, true, true, true, true, true, true, true, true, true, true, true, true, true, true, true, true, true, true, true, true, true, false, false, false, false, false, false, false, false] rfl rfl (take_ofW HT_.out HW_.out (by kernel_rfl)) (fun _ _ _ h => h) (Or.inl ⟨by rfl, ?_⟩) hHeld ?_ ?_
             rotate_left
             ·rintro w' ⟨s0, s1, s2, s3⟩
              go_simp
              with_reducible rfl
             rotate_left
             ·simp only [Act.put, List.setIfInBounds_toArray, List.set_cons_zero, List.set_cons_succ, i64_w, i32_w]
              rfl
             refine take_ (i := 30) (N := some 88) (v := ?_) (a' := ?_) #[true, true, true, true, true, true, true, true, true, true, true, true, true, true, true, true, true, true, true, true, true, true, true, true, true, true, true, true, true, true, true, false, false, false, false, false, false, false] rfl rfl (take_ofW HT_.out HW_.out (by kernel_rfl)) (fun _ _ _ h => h) (Or.inl ⟨by rfl, ?_⟩) hHeld ?_ ?_
             rotate_left
             ·rintro w' ⟨s0, s1, s2, s3⟩
              go_simp
              with_reducible rfl
             rotate_left
             ·simp only [Act.put, List.setIfInBounds_toArray, List.set_cons_zero, List.set_cons_succ, i64_w, i32_w]
              rfl
             refine one_ (i := 31) (N := some 89) #[true, true, true, true, true, true, true, true, true, true, true, true, true, true, true, true, true, true, true, true, true, true, true, true, true, true, true, true, true, true, true, true, false, false, false, false, false, false] rfl rfl (one_of HT_.out (by kernel_rfl)) (by decide) (fun K hK => ?_)
             refine goes_ Tryd.func23 (by kernel_rfl) rfl #[.agg #[.string t388, .slice Ao17 t389.length co17], .string (⟨#[]⟩ : ByteArray)] (by rfl) rfl rfl (by (try simp only [List.map_toArray, List.map_cons, List.map_nil]); first | done | rfl | (simp only [List.length_drop, List.length_take]; rfl)) ?_
             with_reducible refine (priceofficeref06_Children.calls k1 t388 _ _ t389 (⟨#[]⟩ : ByteArray) t425 _ ?side1 ?side2 A49.out).mono ?_
             (case side1 => repeat (first | exact (Kd.R_reads' HO_394001.out).2.2 | (with_reducible refine Kd.C_alloc ?_ _) | (with_reducible refine Kd.C_drewN ?_ _) | (with_reducible refine Kd.C_drew ?_)))
             (case side2 => exact (Kd.R_reads' HO_394001.out).2.1)
             rintro e w70 ⟨v426, rfl, ho0, hb⟩
             refine ⟨_, rfl, ?_⟩
             have n0_ := mk0 (Kd.R_elder' (by (with_reducible repeat (first | apply r_a | apply r_n | apply r_d)); exact HO_12.out) (Kd.R_base ho0) hb)
             have n1_ := mk0 (Kd.R_elder' (by (with_reducible repeat (first | apply r_a | apply r_n | apply r_d)); exact HO_33.out) (Kd.R_base ho0) hb)
             have n2_ := mk0 (Kd.R_elder' (by (with_reducible repeat (first | apply r_a | apply r_n | apply r_d)); exact HO_394001.out) (Kd.R_base ho0) hb)
             have n3_ := mk0 (Kd.R_elder' (by (with_reducible repeat (first | apply r_a | apply r_n | apply r_d)); exact HO412.out) (Kd.R_base ho0) hb)
             have n4_ := mk0 (Kd.R_elder' (by (with_reducible repeat (first | apply r_a | apply r_n | apply r_d)); exact HO416.out) (Kd.R_base ho0) hb)
             have n5_ := mk0 (Kd.R_elder' (by (with_reducible repeat (first | apply r_a | apply r_n | apply r_d)); exact HO423.out) (Kd.R_base ho0) hb)
             have n6_ := mk0 (Kd.R_lower (Kd.R_new' (Kd.R_new' (Kd.R_new' (Kd.R_new' (Kd.R_new' (Kd.R_new' ho0 (Kd.R_lt (by (with_reducible repeat (first | apply r_a | apply r_n | apply r_d)); exact HO_12.out))) (Kd.R_lt (by (with_reducible repeat (first | apply r_a | apply r_n | apply r_d)); exact HO_33.out))) (Kd.R_lt (by (with_reducible repeat (first | apply r_a | apply r_n | apply r_d)); exact HO_394001.out))) (Kd.R_lt (by (with_reducible repeat (first | apply r_a | apply r_n | apply r_d)); exact HO412.out))) (Kd.R_lt (by (with_reducible repeat (first | apply r_a | apply r_n | apply r_d)); exact HO416.out))) (Kd.R_lt (by (with_reducible repeat (first | apply r_a | apply r_n | apply r_d)); exact HO423.out))) (below_size (by repeat (first | (with_reducible first | exact HB.out | apply b_a | apply b_n | apply b_d | refine below_set ?_ (IsS25.ge HI387.out) | refine below_set ?_ GE386.out | refine below_set ?_ GE393.out) | exact HB.out))))
             have n7_ := mk0 (blk_below (g := gb386) (o := .cells #[.string t409, .slice Ao58 t410.length co58] 28 (0, 0)) (by (with_reducible repeat (first | refine blk_drewN ?_ _ | refine blk_drew ?_ | refine blk_alloc ?_ _)); exact BK386.out) hb)
             have n8_ := mk0 (blk_below (g := gb393) (o := .cells #[.string t388, .slice Ao17 t389.length co17] 28 (0, 0)) (by (with_reducible repeat (first | refine blk_drewN ?_ _ | refine blk_drew ?_ | refine blk_alloc ?_ _)); exact BK393.out) hb)
             have n9_ := mk0 (IsS25.below (by repeat (first | (with_reducible first | exact HI387.out | apply IsS25.alloc | apply IsS25.drewN | apply IsS25.drew | apply IsS25.set_1 | refine IsS25.far ?_ NB387_386.out _ | refine IsS25.far ?_ NB387_393.out _) | exact HI387.out)) hb)
             have n10_ := mk0 (below_step (by repeat (first | (with_reducible first | exact HB.out | apply b_a | apply b_n | apply b_d | refine below_set ?_ (IsS25.ge HI387.out) | refine below_set ?_ GE386.out | refine below_set ?_ GE393.out) | exact HB.out)) hb)
             clear HO_12
             clear HO_33
             clear HO_394001
             clear HO412
             clear HO416
             clear HO423
             clear BK386
             clear BK393
             clear HI387
             clear HB
             have HO_12 := n0_
             have HO_33 := n1_
             have HO_394001 := n2_
             have HO412 := n3_
             have HO416 := n4_
             have HO423 := n5_
             have HO427 := n6_
             have BK386 := n7_
             have BK393 := n8_
             have HI387 := n9_
             have HB := n10_
             clear n0_ n1_ n2_ n3_ n4_ n5_ n6_ n7_ n8_ n9_ n10_
             (try clear hb)
             (try clear hb2)
             (try clear hk)
             (try clear hi)
             (try clear ho0)
             obtain ⟨Ao71, co71, eo71⟩ := Kd.R_slice HO427.out
             (first | subst eo71 | (injection eo71 with f1_ f2_ f3_; have f4_ := f1_.symm; have f5_ := f3_.symm; clear f1_ f2_ f3_; subst f4_; subst f5_))
             refine hK.out _ _ ⟨(blk_cell BK386.out 0).trans rfl, (blk_cell BK386.out 1).trans rfl, (blk_cell BK393.out 0).trans rfl, (blk_cell BK393.out 1).trans rfl⟩ (fun hHeld => ?_)
             clear hK K
             refine norm_ (a' := ?_) ?_ ?_
             rotate_left
             ·show Act.put _ (some 89) _ = _
              simp only [Act.put, List.setIfInBounds_toArray, List.set_cons_zero, List.set_cons_succ, i64_w, i32_w]
              rfl
             refine one_ (i := 32) (N := some 90) #[true, true, true, true, true, true, true, true, true, true, true, true, true, true, true, true, true, true, true, true, true, true, true, true, true, true, true, true, true, true, true, true, true, false, false, false, false, false] rfl rfl (one_of HT_.out (by kernel_rfl)) (by decide) (fun K hK => ?_)
             refine goes_ Tryd.func20 (by kernel_rfl) rfl #[.agg #[.string t388, .slice Ao17 t389.length co17], .string (⟨#[]⟩ : ByteArray), .slice Ao71 t425.length co71] (by rfl) rfl rfl (by (try simp only [List.map_toArray, List.map_cons, List.map_nil]); first | done | rfl | (simp only [List.length_drop, List.length_take]; rfl)) ?_
             with_reducible refine (classification_Cover.calls k1 t388 _ _ t389 (⟨#[]⟩ : ByteArray) _ _ t425 true _ ?side1 ?side2 ?side3 ?side4 ?side5 A50.out).mono ?_
             (case side1 => repeat (first | exact (Kd.R_reads' HO_394001.out).2.2 | (with_reducible refine Kd.C_alloc ?_ _) | (with_reducible refine Kd.C_drewN ?_ _) | (with_reducible refine Kd.C_drew ?_)))
             (case side2 => exact (Kd.R_reads' HO_394001.out).2.1)
             (case side3 => repeat (first | exact (Kd.R_reads' HO427.out).2.2 | (with_reducible refine Kd.C_alloc ?_ _) | (with_reducible refine Kd.C_drewN ?_ _) | (with_reducible refine Kd.C_drew ?_)))
             (case side4 => exact (Kd.R_reads' HO427.out).2.1)
             (case side5 => first | exact HG.out | exact GL.below HG.out (by repeat (first | (with_reducible first | exact HB.out | apply b_a | apply b_n | apply b_d | refine below_set ?_ (IsS25.ge HI387.out) | refine below_set ?_ GE386.out | refine below_set ?_ GE393.out) | exact HB.out)))
             rintro e w72 ⟨rfl, hb⟩
             refine ⟨_, rfl, ?_⟩
             have n0_ := mk0 (Kd.R_below (by (with_reducible repeat (first | apply r_a | apply r_n | apply r_d)); exact HO_12.out) hb)
             have n1_ := mk0 (Kd.R_below (by (with_reducible repeat (first | apply r_a | apply r_n | apply r_d)); exact HO_33.out) hb)
             have n2_ := mk0 (Kd.R_below (by (with_reducible repeat (first | apply r_a | apply r_n | apply r_d)); exact HO_394001.out) hb)
             have n3_ := mk0 (Kd.R_below (by (with_reducible repeat (first | apply r_a | apply r_n | apply r_d)); exact HO412.out) hb)
             have n4_ := mk0 (Kd.R_below (by (with_reducible repeat (first | apply r_a | apply r_n | apply r_d)); exact HO416.out) hb)
             have n5_ := mk0 (Kd.R_below (by (with_reducible repeat (first | apply r_a | apply r_n | apply r_d)); exact HO423.out) hb)
             have n6_ := mk0 (Kd.R_below (by (with_reducible repeat (first | apply r_a | apply r_n | apply r_d)); exact HO427.out) hb)
             have n7_ := mk0 (blk_below (g := gb386) (o := .cells #[.string t409, .slice Ao58 t410.length co58] 28 (0, 0)) (by (with_reducible repeat (first | refine blk_drewN ?_ _ | refine blk_drew ?_ | refine blk_alloc ?_ _)); exact BK386.out) hb)
             have n8_ := mk0 (blk_below (g := gb393) (o := .cells #[.string t388, .slice Ao17 t389.length co17] 28 (0, 0)) (by (with_reducible repeat (first | refine blk_drewN ?_ _ | refine blk_drew ?_ | refine blk_alloc ?_ _)); exact BK393.out) hb)
             have n9_ := mk0 (IsS25.below (by repeat (first | (with_reducible first | exact HI387.out | apply IsS25.alloc | apply IsS25.drewN | apply IsS25.drew | apply IsS25.set_1 | refine IsS25.far ?_ NB387_386.out _ | refine IsS25.far ?_ NB387_393.out _) | exact HI387.out)) hb)
             have n10_ := mk0 (below_step (by repeat (first | (with_reducible first | exact HB.out | apply b_a | apply b_n | apply b_d | refine below_set ?_ (IsS25.ge HI387.out) | refine below_set ?_ GE386.out | refine below_set ?_ GE393.out) | exact HB.out)) hb)
             clear HO_12
             clear HO_33
             clear HO_394001
             clear HO412
             clear HO416
             clear HO423
             clear HO427
             clear BK386
             clear BK393
             clear HI387
             clear HB
             have HO_12 := n0_
             have HO_33 := n1_
             have HO_394001 := n2_
             have HO412 := n3_
             have HO416 := n4_
             have HO423 := n5_
             have HO427 := n6_
             have BK386 := n7_
             have BK393 := n8_
             have HI387 := n9_
             have HB := n10_
             clear n0_ n1_ n2_ n3_ n4_ n5_ n6_ n7_ n8_ n9_ n10_
             (try clear hb)
             (try clear hb2)
             (try clear hk)
             (try clear hi)
             refine hK.out _ _ ⟨(blk_cell BK386.out 0).trans rfl, (blk_cell BK386.out 1).trans rfl, (blk_cell BK393.out 0).trans rfl, (blk_cell BK393.out 1).trans rfl⟩ (fun hHeld => ?_)
             clear hK K
             refine norm_ (a' := ?_) ?_ ?_
             rotate_left
             ·show Act.put _ (some 90) _ = _
              simp only [Act.put, List.setIfInBounds_toArray, List.set_cons_zero, List.set_cons_succ, i64_w, i32_w]
              rfl
             refine pure_ (i := 33) (N := some 91) (v := ?_) (a' := ?_) #[true, true, true, true, true, true, true, true, true, true, true, true, true, true, true, true, true, true, true, true, true, true, true, true, true, true, true, true, true, true, true, true, true, true, false, false, false, false] rfl rfl (any_of HT_.out (by kernel_rfl)) (fun _ _ _ h => h) (Or.inl ⟨by rfl, ?_⟩) ?_ ?_
             rotate_left
             ·intro w'
              go_simp
              with_reducible rfl
             rotate_left
             ·simp only [Act.put, List.setIfInBounds_toArray, List.set_cons_zero, List.set_cons_succ, i64_w, i32_w]
              rfl
             refine pure_ (i := 34) (N := some 92) (v := ?_) (a' := ?_) #[true, true, true, true, true, true, true, true, true, true, true, true, true, true, true, true, true, true, true, true, true, true, true, true, true, true, true, true, true, true, true, true, true, true, true, false, false, false] rfl rfl (any_of HT_.out (by kernel_rfl)) (fun _ _ _ h => h) (Or.inl ⟨by rfl, ?_⟩) ?_ ?_
             rotate_left
             ·intro w'
              go_simp
              with_reducible rfl
             rotate_left
             ·simp only [Act.put, List.setIfInBounds_toArray, List.set_cons_zero, List.set_cons_succ, i64_w, i32_w]
              rfl
             refine one_ (i := 35) (N := some 93) #[true, true, true, true, true, true, true, true, true, true, true, true, true, true, true, true, true, true, true, true, true, true, true, true, true, true, true, true, true, true, true, true, true, true, true, true, false, false] rfl rfl (one_of HT_.out (by kernel_rfl)) (by decide) (fun K hK => ?_)
             refine goes_ Tryd.func17 (by kernel_rfl) rfl #[] (by rfl) rfl rfl (by (try simp only [List.map_toArray, List.map_cons, List.map_nil]); first | done | rfl | (simp only [List.length_drop, List.length_take]; rfl)) ?_
             with_reducible refine (priceofficelaw06_awake.calls k1  t429 _ ?side1 A52.out).mono ?_
             (case side1 => first | exact HG.out | exact GL.below HG.out (by repeat (first | (with_reducible first | exact HB.out | apply b_a | apply b_n | apply b_d | refine below_set ?_ (IsS25.ge HI387.out) | refine below_set ?_ GE386.out | refine below_set ?_ GE393.out) | exact HB.out)))
             rintro e w73 ⟨rfl, hb⟩
             refine ⟨_, rfl, ?_⟩
             have n0_ := mk0 (Kd.R_below (by (with_reducible repeat (first | apply r_a | apply r_n | apply r_d)); exact HO_12.out) hb)
             have n1_ := mk0 (Kd.R_below (by (with_reducible repeat (first | apply r_a | apply r_n | apply r_d)); exact HO_33.out) hb)
             have n2_ := mk0 (Kd.R_below (by (with_reducible repeat (first | apply r_a | apply r_n | apply r_d)); exact HO_394001.out) hb)
             have n3_ := mk0 (Kd.R_below (by (with_reducible repeat (first | apply r_a | apply r_n | apply r_d)); exact HO412.out) hb)
             have n4_ := mk0 (Kd.R_below (by (with_reducible repeat (first | apply r_a | apply r_n | apply r_d)); exact HO416.out) hb)
             have n5_ := mk0 (Kd.R_below (by (with_reducible repeat (first | apply r_a | apply r_n | apply r_d)); exact HO423.out) hb)
             have n6_ := mk0 (Kd.R_below (by (with_reducible repeat (first | apply r_a | apply r_n | apply r_d)); exact HO427.out) hb)
             have n7_ := mk0 (blk_below (g := gb386) (o := .cells #[.string t409, .slice Ao58 t410.length co58] 28 (0, 0)) (by (with_reducible repeat (first | refine blk_drewN ?_ _ | refine blk_drew ?_ | refine blk_alloc ?_ _)); exact BK386.out) hb)
             have n8_ := mk0 (blk_below (g := gb393) (o := .cells #[.string t388, .slice Ao17 t389.length co17] 28 (0, 0)) (by (with_reducible repeat (first | refine blk_drewN ?_ _ | refine blk_drew ?_ | refine blk_alloc ?_ _)); exact BK393.out) hb)
             have n9_ := mk0 (IsS25.below (by repeat (first | (with_reducible first | exact HI387.out | apply IsS25.alloc | apply IsS25.drewN | apply IsS25.drew | apply IsS25.set_1 | refine IsS25.far ?_ NB387_386.out _ | refine IsS25.far ?_ NB387_393.out _) | exact HI387.out)) hb)
             have n10_ := mk0 (below_step (by repeat (first | (with_reducible first | exact HB.out | apply b_a | apply b_n | apply b_d | refine below_set ?_ (IsS25.ge HI387.out) | refine below_set ?_ GE386.out | refine below_set ?_ GE393.out) | exact HB.out)) hb)
             clear HO_12
             clear HO_33
             clear HO_394001
             clear HO412
             clear HO416
             clear HO423
             clear HO427
             clear BK386
             clear BK393
             clear HI387
             clear HB
             have HO_12 := n0_
             have HO_33 := n1_
             have HO_394001 := n2_
             have HO412 := n3_
             have HO416 := n4_
             have HO423 := n5_
             have HO427 := n6_
             have BK386 := n7_
             have BK393 := n8_
             have HI387 := n9_
             have HB := n10_
             clear n0_ n1_ n2_ n3_ n4_ n5_ n6_ n7_ n8_ n9_ n10_
             (try clear hb)
             (try clear hb2)
             (try clear hk)
             (try clear hi)
             refine hK.out _ _ ⟨(blk_cell BK386.out 0).trans rfl, (blk_cell BK386.out 1).trans rfl, (blk_cell BK393.out 0).trans rfl, (blk_cell BK393.out 1).trans rfl⟩ (fun hHeld => ?_)
             clear hK K
             refine norm_ (a' := ?_) ?_ ?_
             rotate_left
             ·show Act.put _ (some 93) _ = _
              simp only [Act.put, List.setIfInBounds_toArray, List.set_cons_zero, List.set_cons_succ, i64_w, i32_w]
              rfl
             refine pure_ (i := 36) (N := some 94) (v := ?_) (a' := ?_) #[true, true, true, true, true, true, true, true, true, true, true, true, true, true, true, true, true, true, true, true, true, true, true, true, true, true, true, true, true, true, true, true, true, true, true, true, true, false] rfl rfl (any_of HT_.out (by kernel_rfl)) (fun _ _ _ h => h) (Or.inl ⟨by rfl, ?_⟩) ?_ ?_
             rotate_left
             ·intro w'
              go_simp
              with_reducible rfl
             rotate_left
             ·simp only [Act.put, List.setIfInBounds_toArray, List.set_cons_zero, List.set_cons_succ, i64_w, i32_w]
              rfl
             refine pure_ (i := 37) (N := some 8) (v := ?_) (a' := ?_) #[true, true, true, true, true, true, true, true, true, true, true, true, true, true, true, true, true, true, true, true, true, true, true, true, true, true, true, true, true, true, true, true, true, true, true, true, true, true] rfl rfl (any_of HT_.out (by kernel_rfl)) (fun _ _ _ h => h) (Or.inl ⟨by rfl, ?_⟩) ?_ ?_
             rotate_left
             ·intro w'
              go_simp
              with_reducible rfl
             rotate_left
             ·simp only [Act.put, List.setIfInBounds_toArray, List.set_cons_zero, List.set_cons_succ, i64_w, i32_w]
              rfl
             refine done_ (done_of HT_.out (by kernel_rfl)) ?_
             try go_wp2
             go_ret
             exact ⟨by first | rfl | (simp [errW_none, errW_some] <;> rfl) | (simp only [← hji37]; first | rfl | (simp [errW_none, errW_some] <;> rfl)) | (simp [*, errW_none, errW_some] <;> rfl), by repeat (first | (with_reducible first | exact HB.out | apply b_a | apply b_n | apply b_d | refine below_set ?_ (IsS25.ge HI387.out) | refine below_set ?_ GE386.out | refine below_set ?_ GE393.out) | exact HB.out)⟩
            ·replace c51 := Bool.eq_false_iff.mpr c51
             subst c51
             first | (exact absurd H (by simp)) | (rw [if_neg (by decide)] at H; cases H)
           ·replace c48 := Bool.eq_false_iff.mpr c48
            subst c48
            first | (exact absurd H (by simp)) | (rw [if_neg (by decide)] at H; cases H)
          ·rw [if_neg c45] at H
           cases H
         ·rw [if_neg c42] at H
          cases H
        ·rw [if_neg c39] at H
         exact absurd H (by simp)
       ·rw [if_neg c38] at H
        exact absurd H (by simp)
   ·rw [if_neg c9] at H
    exact absurd H (by simp)
  ·rw [if_neg c8] at H
   exact absurd H (by simp)
 ·rw [if_neg c6] at H
  exact absurd H (by simp)
end Go.Proofs.YtpnoliognpmkmaaDoor.P
