/- Lean functions with the same answers as the program's Go functions, and for each the proof that the call comes to these answers; written by a program of mine out of the translation, the functions marked 'by hand' by me. -/
import Derived.Test.YtpnoliognpmkmaaDoorP0
import Derived.Test.YtpnoliognpmkmaaDoorP17
import Derived.Test.YtpnoliognpmkmaaDoorP22
import Derived.Test.YtpnoliognpmkmaaDoorP31
namespace Go.Proofs.YtpnoliognpmkmaaDoor.P
open Go.RowKit Go.Proofs.YtpnoliognpmkmaaDoorW.PrintWords Go.Proofs.YtpnoliognpmkmaaDoorW.PrintLast Go.Proofs.YtpnoliognpmkmaaDoorW.PrintMore
attribute [local go_sem] max2_int min2_int max_two min_two max_three min_three max_four min_four   -- for this text's walks alone
set_option linter.unusedVariables false
set_option linter.unusedSimpArgs false

/-! ### priceofficeref06_Leaves: function 22 -/
def priceofficeref06_Leaves.l0 : Nat → ByteArray → List ByteArray → List ByteArray → Int → Int → ByteArray → List ByteArray → Option (List ByteArray)
 | 0, _, _, _, _, _, _, _ => none
 | k + 1, x1, x5, x14, x15, x16, x621000, x621001 => if x16 < x15 then (if 0 ≤ x16 then (if x16 < (x14.length : Int) then (if (wrap64 (x16 + 1)) = (x621001.length : Int) then ((priceofficeref06_Within.f k (rdOf ByteArray.empty x14 x16) x1).bind fun t623 => (if t623 = true then (if x5.length < 8796093022208 then (priceofficeref06_Leaves.l0 k x1 (x5 ++ [rdOf ByteArray.empty x14 x16]) x14 x15 (wrap64 (x16 + 1)) x621000 x621001) else (none)) else (priceofficeref06_Leaves.l0 k x1 x5 x14 x15 (wrap64 (x16 + 1)) x621000 x621001))) else (if 0 ≤ (wrap64 (x16 + 1)) then (if (wrap64 (x16 + 1)) < (x621001.length : Int) then ((priceofficeref06_Within.f k (rdOf ByteArray.empty x621001 (wrap64 (x16 + 1))) (rdOf ByteArray.empty x14 x16)).bind fun t628 => (if t628 = true then (priceofficeref06_Leaves.l0 k x1 x5 x14 x15 (wrap64 (x16 + 1)) x621000 x621001) else ((priceofficeref06_Within.f k (rdOf ByteArray.empty x14 x16) x1).bind fun t629 => (if t629 = true then (if x5.length < 8796093022208 then (priceofficeref06_Leaves.l0 k x1 (x5 ++ [rdOf ByteArray.empty x14 x16]) x14 x15 (wrap64 (x16 + 1)) x621000 x621001) else (none)) else (priceofficeref06_Leaves.l0 k x1 x5 x14 x15 (wrap64 (x16 + 1)) x621000 x621001))))) else (none)) else (none))) else (none)) else (none)) else (some x5)
def priceofficeref06_Leaves.f (k : Nat) (a0_0 : ByteArray) (l0_1 : List ByteArray) (a1 : ByteArray) : Option (List ByteArray) := (priceofficeref06_known.f k a0_0 l0_1 a1).bind fun t621 => (if t621 = true then (priceofficeref06_Leaves.l0 k a1 ([] : List ByteArray) l0_1 (l0_1.length : Int) 0 a0_0 l0_1) else (some ([] : List ByteArray)))
theorem priceofficeref06_Leaves.mono_l : ∀ k, (∀ y0 y1 y2 y3 y4 y5 y6, LeO (priceofficeref06_Leaves.l0 k y0 y1 y2 y3 y4 y5 y6) (priceofficeref06_Leaves.l0 (k + 1) y0 y1 y2 y3 y4 y5 y6))
 | 0 => fun _ _ _ _ _ _ _ r h => by simp [priceofficeref06_Leaves.l0] at h
 | k + 1 => by
  have ih0 := priceofficeref06_Leaves.mono_l k
  ·intro y0 y1 y2 y3 y4 y5 y6
   unfold priceofficeref06_Leaves.l0
   repeat' first
   | (with_reducible exact ih0 _ _ _ _ _ _ _)
   | (with_reducible exact priceofficeref06_Within.mono _ _ _)
   | (with_reducible exact priceofficeref06_known.mono _ _ _ _)
   | (with_reducible exact LeO.refl _)
   | (with_reducible exact LeO.none _)
   | (with_reducible refine LeO.ite ?_ ?_)
   | (with_reducible refine LeO.bind ?_ (fun _ => ?_))
   | exact ih0 _ _ _ _ _ _ _
   | exact priceofficeref06_Within.mono _ _ _
   | exact priceofficeref06_known.mono _ _ _ _
   | exact LeO.none _
   | refine LeO.ite ?_ ?_
   | refine LeO.bind ?_ (fun _ => ?_)
theorem priceofficeref06_Leaves.mono : ∀ a0 a1 a2 k, LeO (priceofficeref06_Leaves.f k a0 a1 a2) (priceofficeref06_Leaves.f (k + 1) a0 a1 a2) := by
 intro a0 a1 a2 k
 have ih0 := priceofficeref06_Leaves.mono_l k
 unfold priceofficeref06_Leaves.f
 repeat' first
   | (with_reducible exact ih0 _ _ _ _ _ _ _)
   | (with_reducible exact priceofficeref06_Within.mono _ _ _)
   | (with_reducible exact priceofficeref06_known.mono _ _ _ _)
   | (with_reducible exact LeO.refl _)
   | (with_reducible exact LeO.none _)
   | (with_reducible refine LeO.ite ?_ ?_)
   | (with_reducible refine LeO.bind ?_ (fun _ => ?_))
   | exact ih0 _ _ _ _ _ _ _
   | exact priceofficeref06_Within.mono _ _ _
   | exact priceofficeref06_known.mono _ _ _ _
   | exact LeO.none _
   | refine LeO.ite ?_ ?_
   | refine LeO.bind ?_ (fun _ => ?_)
set_option maxHeartbeats 8000000 in
set_option maxRecDepth 100000 in
theorem priceofficeref06_Leaves.calls (k : Nat) (a0_0 : ByteArray) (A0_1 : Option Addr) (c0_1 : Nat) (l0_1 : List ByteArray) (a1 : ByteArray) (r : List ByteArray) (w : World) (hr0_1 : Kd.C Kd.string w A0_1 l0_1.length l0_1) (hc0_1 : l0_1.length ≤ c0_1) (h : priceofficeref06_Leaves.f k a0_0 l0_1 a1 = some r) :
  Calls Tryd.prog 22 #[.agg #[.string a0_0, .slice A0_1 l0_1.length c0_1], .string a1] w fun e w' => ∃ v0_ : Value, e = .returned (v0_) ∧ Kd.R Kd.string 9 w' w.heap.size (fun _ => True) v0_ r ∧ Below w.heap.size w w' := by
 have hu28 := Tryd.underlying28
 have HR0_1 := mk0 hr0_1
 have HC0_1 := mk0 hc0_1
 clear hr0_1 hc0_1
 have HB := mk0 (Below.refl w.heap.size w)
 have H : ((priceofficeref06_known.f k a0_0 l0_1 a1).bind fun t621 => (if t621 = true then (priceofficeref06_Leaves.l0 k a1 ([] : List ByteArray) l0_1 (l0_1.length : Int) 0 a0_0 l0_1) else (some ([] : List ByteArray)))) = some r := h
 clear h
 replace H := Option.bind_eq_some_iff.mp H
 obtain ⟨t621, A30, H⟩ := H
 replace H : (if t621 = true then (priceofficeref06_Leaves.l0 k a1 ([] : List ByteArray) l0_1 (l0_1.length : Int) 0 a0_0 l0_1) else (some ([] : List ByteArray))) = some r := H
 have A3 := mk0 A30
 clear A30
 by_cases c4 : t621 = true
 ·subst c4
  have H1 : (priceofficeref06_Leaves.l0 k a1 ([] : List ByteArray) l0_1 (l0_1.length : Int) 0 a0_0 l0_1) = some r := by rw [if_pos rfl] at H; exact H
  clear H
  have H := H1
  clear H1
  have H' := mk0 H
  clear H
  go_enter Tryd.func22, Tryd.ntmps22
  go_wp2_with (first | ((with_reducible refine gate_dst (N := 2) rfl ?_); refine box_event ?hg (N := 2) ?hd (cs := #[.string a0_0, .slice A0_1 l0_1.length c0_1]) (t := 28) ?hr ?_; (case hd => rfl); (case hg => rfl); (case hr => first | (go_simp; done) | (go_simp; rfl)); intro gb620 hg w5 hbox hb; have n0_ := mk0 (below_step (by repeat (first | (with_reducible first | exact HB.out | apply b_a | apply b_n | apply b_d) | exact HB.out)) hb); have n1_ := mk0 (hbox); have n2_ := mk0 ((by rw [hg]; exact (below_size (by repeat (first | (with_reducible first | exact HB.out | apply b_a | apply b_n | apply b_d) | exact HB.out))) : w.heap.size ≤ gb620)); have n3_ := mk0 ((by rw [hg]; exact (below_size (by repeat (first | (with_reducible first | exact HB.out | apply b_a | apply b_n | apply b_d) | exact HB.out))) : w.heap.size ≤ gb620)); clear HB; have HB := n0_; have BK620 := n1_; have GW620 := n2_; have GE620 := n3_; clear n0_ n1_ n2_ n3_; clear hb hbox hg; have hcz6_0 : w5.cell? ⟨gb620, 0, none⟩ = some (.string a0_0) := (blk_cell BK620.out 0).trans rfl; have hcz6_1 : w5.cell? ⟨gb620, 1, none⟩ = some (.slice A0_1 l0_1.length c0_1) := (blk_cell BK620.out 1).trans rfl; have hfz6_0 := blk_frozen BK620.out 0; have hfz6_1 := blk_frozen BK620.out 1) | ((with_reducible refine gate_callee (f := 51) rfl ?_); refine goesL_ (some 11) rfl rfl Tryd.func51 (by kernel_rfl) rfl #[.agg #[.string a0_0, .slice A0_1 l0_1.length c0_1], .string a1] rfl (by (try simp only [List.map_toArray, List.map_cons, List.map_nil]); first | done | rfl | (simp only [List.length_drop, List.length_take]; rfl)) ?_; (with_reducible refine (priceofficeref06_known.calls k a0_0 _ _ l0_1 a1 true _ ?side1 ?side2 A3.out).mono ?_); (case side1 => repeat (first | exact (Kd.C_below HR0_1.out HB.out) | (with_reducible refine Kd.C_alloc ?_ _) | (with_reducible refine Kd.C_drewN ?_ _) | (with_reducible refine Kd.C_drew ?_))); (case side2 => exact HC0_1.out); rintro e w7 ⟨rfl, hb⟩; refine ⟨_, rfl, ?_⟩; have n0_ := mk0 (blk_below (g := gb620) (o := .cells #[.string a0_0, .slice A0_1 l0_1.length c0_1] 28 (0, 0)) (by (with_reducible repeat (first | refine blk_drewN ?_ _ | refine blk_drew ?_ | refine blk_alloc ?_ _)); exact BK620.out) hb); have n1_ := mk0 (below_step (by repeat (first | (with_reducible first | exact HB.out | apply b_a | apply b_n | apply b_d | refine below_set ?_ GE620.out) | exact HB.out)) hb); clear BK620; clear HB; have BK620 := n0_; have HB := n1_; clear n0_ n1_; (try clear hb); (try clear hb2); (try clear hk); (try clear hi); have hcz8_0 : w7.cell? ⟨gb620, 0, none⟩ = some (.string a0_0) := (blk_cell BK620.out 0).trans rfl; have hcz8_1 : w7.cell? ⟨gb620, 1, none⟩ = some (.slice A0_1 l0_1.length c0_1) := (blk_cell BK620.out 1).trans rfl; have hfz8_0 := blk_frozen BK620.out 0; have hfz8_1 := blk_frozen BK620.out 1))
  go_loopg [5, 16] k (fun kq v5 v16 w' => ∃ (x5_1 : List ByteArray) (x16_1 : Int), v16 = .int .i64 x16_1 ∧ Aside0 (priceofficeref06_Leaves.l0 kq a1 x5_1 l0_1 (l0_1.length : Int) x16_1 a0_0 l0_1 = some r) ∧ Aside0 (kq ≤ k) ∧ Aside0 (Kd.R Kd.string 9 w' w.heap.size (fun _ => True) v5 x5_1) ∧ Aside0 (w'.heap[gb620]? = some (.cells #[.string a0_0, (.slice A0_1 l0_1.length c0_1)] 28 (0, 0))) ∧ Aside0 (Below w.heap.size w w'))
  case atStart => exact ⟨(([] : List ByteArray)), (0), (by first | rfl | (simp; done) | (simp [*]; done)), H', ⟨Nat.le_refl _⟩, ⟨by first | exact Kd.R_nil _ _ _ _ _ | exact Kd.N_nil _ _ _ _ _ | exact Kd.V_nil _ _ _ _ _ | exact Kd.Q_nil _ _ _ _ _ | exact Kd.S_nil _ _ _ _ _⟩, ⟨by (with_reducible repeat (first | refine blk_drewN ?_ _ | refine blk_drew ?_ | refine blk_alloc ?_ _)); exact BK620.out⟩, ⟨by repeat (first | (with_reducible first | exact HB.out | apply b_a | apply b_n | apply b_d | refine below_set ?_ GE620.out) | exact HB.out)⟩⟩
  case round =>
   clear H'
   try clear c2
   try clear p2
   try clear c4
   try clear c5
   try clear hcz6_0
   try clear hcz6_1
   try clear hcz8_0
   try clear hcz8_1
   try clear hfz6_0
   try clear hfz6_1
   try clear hfz8_0
   try clear hfz8_1
   obtain ⟨x5_1, x16_1, rfl, HA, HK1, HO_5, BK620, HB⟩ := hrel
   cases gk with
   | zero => exact absurd HA.out (by simp [priceofficeref06_Leaves.l0])
   | succ k1 =>
    have H := HA.out
    clear HA
    simp only [priceofficeref06_Leaves.l0] at H
    by_cases c9 : x16_1 < (l0_1.length : Int)
    ·rw [if_pos c9] at H
     have c9b0 : decide (x16_1 < (l0_1.length : Int)) = true := decide_eq_true c9
     clear c9
     by_cases c10 : 0 ≤ x16_1
     ·rw [if_pos c10] at H
      have c10b0 : decide (0 ≤ x16_1) = true := decide_eq_true c10
      clear c10
      by_cases c11 : x16_1 < (l0_1.length : Int)
      ·rw [if_pos c11] at H
       have c11b0 : decide (x16_1 < (l0_1.length : Int)) = true := decide_eq_true c11
       clear c11
       by_cases c12 : (wrap64 (x16_1 + 1)) = (l0_1.length : Int)
       ·rw [if_pos c12] at H
        have c12b0 : ((wrap64 (x16_1 + 1)) == (l0_1.length : Int)) = true := beq_iff_eq.mpr c12
        have c12b1 : ((wrap64 (x16_1 + 1)) != (l0_1.length : Int)) = false := bne_eq_false_iff_eq.mpr c12
        clear c12
        replace H := Option.bind_eq_some_iff.mp H
        obtain ⟨t623, A130, H⟩ := H
        replace H : (if t623 = true then (if x5_1.length < 8796093022208 then (priceofficeref06_Leaves.l0 k1 a1 (x5_1 ++ [rdOf ByteArray.empty l0_1 x16_1]) l0_1 (l0_1.length : Int) (wrap64 (x16_1 + 1)) a0_0 l0_1) else (none)) else (priceofficeref06_Leaves.l0 k1 a1 x5_1 l0_1 (l0_1.length : Int) (wrap64 (x16_1 + 1)) a0_0 l0_1)) = some r := H
        have A13 := mk0 A130
        clear A130
        by_cases c14 : t623 = true
        ·subst c14
         have H1 : (if x5_1.length < 8796093022208 then (priceofficeref06_Leaves.l0 k1 a1 (x5_1 ++ [rdOf ByteArray.empty l0_1 x16_1]) l0_1 (l0_1.length : Int) (wrap64 (x16_1 + 1)) a0_0 l0_1) else (none)) = some r := by rw [if_pos rfl] at H; exact H
         clear H
         have H := H1
         clear H1
         by_cases c15 : x5_1.length < 8796093022208
         ·rw [if_pos c15] at H
          have LMc15 := mk0 c15
          clear c15
          obtain ⟨y624, hy624⟩ : ∃ y_ : List ByteArray, y_ = (x5_1 ++ [rdOf ByteArray.empty l0_1 x16_1]) := ⟨_, rfl⟩
          replace H : (priceofficeref06_Leaves.l0 k1 a1 y624 l0_1 (l0_1.length : Int) (wrap64 (x16_1 + 1)) a0_0 l0_1) = some r := by first | (rw [hy624]; with_reducible exact H) | (have H2_ := (Option.bind_some _ _).symm.trans H; rw [hy624]; with_reducible exact H2_) | (have H2_ := (Option.bind_some _ _).symm.trans H; with_reducible exact H2_) | with_reducible exact H | (rw [hy624]; exact H) | exact H
          have Ny624 := mk0 hy624
          clear hy624
          have H' := mk0 H
          clear H
          have p622 : 0 ≤ (x16_1 : Int) := of_decide_eq_true (by first | (with_reducible assumption) | assumption)
          have q622 : x16_1 < (l0_1.length : Int) := of_decide_eq_true (by first | (with_reducible assumption) | assumption)
          obtain ⟨ad622, e622, hx622_0⟩ := Kd.at_string HR0_1.out x16_1 p622 q622
          cases e622
          replace hx622_0 := (HB.out.cell (World.block_lt_of_cell? w _ hx622_0)).trans hx622_0
          replace p622 := eq_true p622
          replace q622 := eq_true q622
          have hcz16_0 : wr.cell? ⟨gb620, 0, none⟩ = some (.string a0_0) := (blk_cell BK620.out 0).trans rfl
          have hcz16_1 : wr.cell? ⟨gb620, 1, none⟩ = some (.slice (some ad622) l0_1.length c0_1) := (blk_cell BK620.out 1).trans rfl
          have hfz16_0 := blk_frozen BK620.out 0
          have hfz16_1 := blk_frozen BK620.out 1
          go_wp2_with (first | (go_at_call 43; (with_reducible refine (priceofficeref06_Within.calls k1 (rdOf ByteArray.empty l0_1 x16_1) a1 true _ A13.out).mono ?_); rintro e w17 ⟨rfl, hb⟩; have n0_ := mk0 (Kd.R_below (by (with_reducible repeat (first | apply r_a | apply r_n | apply r_d)); exact HO_5.out) hb); have n1_ := mk0 (blk_below (g := gb620) (o := .cells #[.string a0_0, .slice (some ad622) l0_1.length c0_1] 28 (0, 0)) (by (with_reducible repeat (first | refine blk_drewN ?_ _ | refine blk_drew ?_ | refine blk_alloc ?_ _)); exact BK620.out) hb); have n2_ := mk0 (below_step (by repeat (first | (with_reducible first | exact HB.out | apply b_a | apply b_n | apply b_d | refine below_set ?_ GE620.out) | exact HB.out)) hb); clear HO_5; clear BK620; clear HB; have HO_5 := n0_; have BK620 := n1_; have HB := n2_; clear n0_ n1_ n2_; (try clear hb); (try clear hb2); (try clear hk); (try clear hi)) | ((with_reducible refine gate_builtin (b := .append) (xs := #[.tmp 44, .tmp 46]) rfl ?_); at_builtin; refine Kd.R_append Kd.string (w0 := w) w.heap.size rfl (.tmp 44) (.tmp 46) 26 9 (.string ⟨#[]⟩) 16 rfl Tryd.underlying26 info9 rfl (by decide) (by omega) u5 x5_1 (rdOf ByteArray.empty l0_1 x16_1) [.string (rdOf ByteArray.empty l0_1 x16_1)] (fun _ => True) (fun _ => False) rfl rfl ?aP (fun _ hk => hk.elim) ?aF ?aO ?aB ?aS ?aL ?_; (case aP => exact rfl); (case aB => exact (by repeat (first | (with_reducible first | exact HB.out | apply b_a | apply b_n | apply b_d | refine below_set ?_ GE620.out) | exact HB.out))); (case aF => exact (fun _ _ => trivial)); (case aO => exact (by (with_reducible repeat (first | apply r_a | apply r_n | apply r_d)); exact HO_5.out)); (case aS => exact (below_size (by repeat (first | (with_reducible first | exact HB.out | apply b_a | apply b_n | apply b_d | refine below_set ?_ GE620.out) | exact HB.out)))); (case aL => have := LMc15.out; omega); intro v625 w18 ho hb hg hat; rw [← Ny624.out] at ho; have n0_ := mk0 (blk_grown (g := gb620) (o := .cells #[.string a0_0, .slice (some ad622) l0_1.length c0_1] 28 (0, 0)) (by (with_reducible repeat (first | refine blk_drewN ?_ _ | refine blk_drew ?_ | refine blk_alloc ?_ _)); exact BK620.out) hg (Kd.R_ne HO_5.out BK620.out (by decide))); have n1_ := mk0 (hb); have n2_ := mk0 (ho); clear BK620; clear HB; clear HO_5; have BK620 := n0_; have HB := n1_; have HO626 := n2_; clear n0_ n1_ n2_; clear ho hb hg hat))
          go_roundg k1
          case measure => have := HK1.out; omega
          case rel => exact ⟨(y624), (wrap64 (x16_1 + 1)), (by first | rfl | (simp; done) | (simp [*]; done)), H', ⟨by have := HK1.out; omega⟩, ⟨by (with_reducible repeat (first | apply r_a | apply r_n | apply r_d)); exact HO626.out⟩, ⟨by (with_reducible repeat (first | refine blk_drewN ?_ _ | refine blk_drew ?_ | refine blk_alloc ?_ _)); exact BK620.out⟩, ⟨by repeat (first | (with_reducible first | exact HB.out | apply b_a | apply b_n | apply b_d | refine below_set ?_ GE620.out) | exact HB.out)⟩⟩
         ·rw [if_neg c15] at H
          exact absurd H (by simp)
        ·replace c14 := Bool.eq_false_iff.mpr c14
         subst c14
         have H1 : (priceofficeref06_Leaves.l0 k1 a1 x5_1 l0_1 (l0_1.length : Int) (wrap64 (x16_1 + 1)) a0_0 l0_1) = some r := by rw [if_neg (show ¬ (false = true) by decide)] at H; exact H
         clear H
         have H := H1
         clear H1
         have H' := mk0 H
         clear H
         have p622 : 0 ≤ (x16_1 : Int) := of_decide_eq_true (by first | (with_reducible assumption) | assumption)
         have q622 : x16_1 < (l0_1.length : Int) := of_decide_eq_true (by first | (with_reducible assumption) | assumption)
         obtain ⟨ad622, e622, hx622_0⟩ := Kd.at_string HR0_1.out x16_1 p622 q622
         cases e622
         replace hx622_0 := (HB.out.cell (World.block_lt_of_cell? w _ hx622_0)).trans hx622_0
         replace p622 := eq_true p622
         replace q622 := eq_true q622
         have hcz19_0 : wr.cell? ⟨gb620, 0, none⟩ = some (.string a0_0) := (blk_cell BK620.out 0).trans rfl
         have hcz19_1 : wr.cell? ⟨gb620, 1, none⟩ = some (.slice (some ad622) l0_1.length c0_1) := (blk_cell BK620.out 1).trans rfl
         have hfz19_0 := blk_frozen BK620.out 0
         have hfz19_1 := blk_frozen BK620.out 1
         go_wp2_with (first | (go_at_call 43; (with_reducible refine (priceofficeref06_Within.calls k1 (rdOf ByteArray.empty l0_1 x16_1) a1 false _ A13.out).mono ?_); rintro e w20 ⟨rfl, hb⟩; have n0_ := mk0 (Kd.R_below (by (with_reducible repeat (first | apply r_a | apply r_n | apply r_d)); exact HO_5.out) hb); have n1_ := mk0 (blk_below (g := gb620) (o := .cells #[.string a0_0, .slice (some ad622) l0_1.length c0_1] 28 (0, 0)) (by (with_reducible repeat (first | refine blk_drewN ?_ _ | refine blk_drew ?_ | refine blk_alloc ?_ _)); exact BK620.out) hb); have n2_ := mk0 (below_step (by repeat (first | (with_reducible first | exact HB.out | apply b_a | apply b_n | apply b_d | refine below_set ?_ GE620.out) | exact HB.out)) hb); clear HO_5; clear BK620; clear HB; have HO_5 := n0_; have BK620 := n1_; have HB := n2_; clear n0_ n1_ n2_; (try clear hb); (try clear hb2); (try clear hk); (try clear hi)))
         go_roundg k1
         case measure => have := HK1.out; omega
         case rel => exact ⟨(x5_1), (wrap64 (x16_1 + 1)), (by first | rfl | (simp; done) | (simp [*]; done)), H', ⟨by have := HK1.out; omega⟩, ⟨by (with_reducible repeat (first | apply r_a | apply r_n | apply r_d)); exact HO_5.out⟩, ⟨by (with_reducible repeat (first | refine blk_drewN ?_ _ | refine blk_drew ?_ | refine blk_alloc ?_ _)); exact BK620.out⟩, ⟨by repeat (first | (with_reducible first | exact HB.out | apply b_a | apply b_n | apply b_d | refine below_set ?_ GE620.out) | exact HB.out)⟩⟩
       ·rw [if_neg c12] at H
        have c12b0 : ((wrap64 (x16_1 + 1)) == (l0_1.length : Int)) = false := beq_eq_false_iff_ne.mpr c12
        have c12b1 : ((wrap64 (x16_1 + 1)) != (l0_1.length : Int)) = true := bne_iff_ne.mpr c12
        obtain ⟨ji21, hji21⟩ : ∃ j_ : Int, (wrap64 (x16_1 + 1)) = j_ := ⟨_, rfl⟩
        replace H : (if 0 ≤ (ji21) then (if (ji21) < (l0_1.length : Int) then ((priceofficeref06_Within.f k1 (rdOf ByteArray.empty l0_1 (ji21)) (rdOf ByteArray.empty l0_1 x16_1)).bind fun t628 => (if t628 = true then (priceofficeref06_Leaves.l0 k1 a1 x5_1 l0_1 (l0_1.length : Int) ji21 a0_0 l0_1) else ((priceofficeref06_Within.f k1 (rdOf ByteArray.empty l0_1 x16_1) a1).bind fun t629 => (if t629 = true then (if x5_1.length < 8796093022208 then (priceofficeref06_Leaves.l0 k1 a1 (x5_1 ++ [rdOf ByteArray.empty l0_1 x16_1]) l0_1 (l0_1.length : Int) ji21 a0_0 l0_1) else (none)) else (priceofficeref06_Leaves.l0 k1 a1 x5_1 l0_1 (l0_1.length : Int) ji21 a0_0 l0_1))))) else (none)) else (none)) = some r := by first | (rw [hji21] at H; exact H) | (simp only [hji21] at H ⊢; exact H)
        (try rw [hji21] at c12b0)
        (try rw [hji21] at c12b1)
        have hji21w : (IntKind.i64.wrap (x16_1 + 1)) = ji21 := (i64_w _).trans hji21
        by_cases c22 : 0 ≤ (ji21)
        ·rw [if_pos c22] at H
         have c22b0 : decide (0 ≤ (ji21)) = true := decide_eq_true c22
         clear c22
         by_cases c23 : (ji21) < (l0_1.length : Int)
         ·rw [if_pos c23] at H
          have c23b0 : decide ((ji21) < (l0_1.length : Int)) = true := decide_eq_true c23
          clear c23
          replace H := Option.bind_eq_some_iff.mp H
          obtain ⟨t628, A240, H⟩ := H
          replace H : (if t628 = true then (priceofficeref06_Leaves.l0 k1 a1 x5_1 l0_1 (l0_1.length : Int) ji21 a0_0 l0_1) else ((priceofficeref06_Within.f k1 (rdOf ByteArray.empty l0_1 x16_1) a1).bind fun t629 => (if t629 = true then (if x5_1.length < 8796093022208 then (priceofficeref06_Leaves.l0 k1 a1 (x5_1 ++ [rdOf ByteArray.empty l0_1 x16_1]) l0_1 (l0_1.length : Int) ji21 a0_0 l0_1) else (none)) else (priceofficeref06_Leaves.l0 k1 a1 x5_1 l0_1 (l0_1.length : Int) ji21 a0_0 l0_1)))) = some r := H
          have A24 := mk0 A240
          clear A240
          by_cases c25 : t628 = true
          ·subst c25
           have H1 : (priceofficeref06_Leaves.l0 k1 a1 x5_1 l0_1 (l0_1.length : Int) ji21 a0_0 l0_1) = some r := by rw [if_pos rfl] at H; exact H
           clear H
           have H := H1
           clear H1
           have H' := mk0 H
           clear H
           have p622 : 0 ≤ (x16_1 : Int) := of_decide_eq_true (by first | (with_reducible assumption) | assumption)
           have q622 : x16_1 < (l0_1.length : Int) := of_decide_eq_true (by first | (with_reducible assumption) | assumption)
           obtain ⟨ad622, e622, hx622_0⟩ := Kd.at_string HR0_1.out x16_1 p622 q622
           cases e622
           replace hx622_0 := (HB.out.cell (World.block_lt_of_cell? w _ hx622_0)).trans hx622_0
           replace p622 := eq_true p622
           replace q622 := eq_true q622
           have hcz26_0 : wr.cell? ⟨gb620, 0, none⟩ = some (.string a0_0) := (blk_cell BK620.out 0).trans rfl
           have hcz26_1 : wr.cell? ⟨gb620, 1, none⟩ = some (.slice (some ad622) l0_1.length c0_1) := (blk_cell BK620.out 1).trans rfl
           have hfz26_0 := blk_frozen BK620.out 0
           have hfz26_1 := blk_frozen BK620.out 1
           have p627 : 0 ≤ ((ji21) : Int) := of_decide_eq_true (by first | (with_reducible assumption) | assumption)
           have q627 : (ji21) < (l0_1.length : Int) := of_decide_eq_true (by first | (with_reducible assumption) | assumption)
           obtain ⟨ad627, e627, hx627_0⟩ := Kd.at_string HR0_1.out (ji21) p627 q627
           obtain rfl : ad622 = ad627 := (by injection e627)
           replace hx627_0 := (HB.out.cell (World.block_lt_of_cell? w _ hx627_0)).trans hx627_0
           replace p627 := eq_true p627
           replace q627 := eq_true q627
           go_wp2_with (first | (go_at_call 43; (with_reducible refine (priceofficeref06_Within.calls k1 (rdOf ByteArray.empty l0_1 (ji21)) (rdOf ByteArray.empty l0_1 x16_1) true _ A24.out).mono ?_); rintro e w27 ⟨rfl, hb⟩; have n0_ := mk0 (Kd.R_below (by (with_reducible repeat (first | apply r_a | apply r_n | apply r_d)); exact HO_5.out) hb); have n1_ := mk0 (blk_below (g := gb620) (o := .cells #[.string a0_0, .slice (some ad622) l0_1.length c0_1] 28 (0, 0)) (by (with_reducible repeat (first | refine blk_drewN ?_ _ | refine blk_drew ?_ | refine blk_alloc ?_ _)); exact BK620.out) hb); have n2_ := mk0 (below_step (by repeat (first | (with_reducible first | exact HB.out | apply b_a | apply b_n | apply b_d | refine below_set ?_ GE620.out) | exact HB.out)) hb); clear HO_5; clear BK620; clear HB; have HO_5 := n0_; have BK620 := n1_; have HB := n2_; clear n0_ n1_ n2_; (try clear hb); (try clear hb2); (try clear hk); (try clear hi)))
           go_roundg k1
           case measure => have := HK1.out; omega
           case rel => exact ⟨(x5_1), (ji21), (by first | rfl | (simp; done) | (simp only [← hji21] <;> (first | rfl | simp)) | (simp [*]; done)), H', ⟨by have := HK1.out; omega⟩, ⟨by (with_reducible repeat (first | apply r_a | apply r_n | apply r_d)); exact HO_5.out⟩, ⟨by (with_reducible repeat (first | refine blk_drewN ?_ _ | refine blk_drew ?_ | refine blk_alloc ?_ _)); exact BK620.out⟩, ⟨by repeat (first | (with_reducible first | exact HB.out | apply b_a | apply b_n | apply b_d | refine below_set ?_ GE620.out) | exact HB.out)⟩⟩
          ·replace c25 := Bool.eq_false_iff.mpr c25
           subst c25
           have H1 : ((priceofficeref06_Within.f k1 (rdOf ByteArray.empty l0_1 x16_1) a1).bind fun t629 => (if t629 = true then (if x5_1.length < 8796093022208 then (priceofficeref06_Leaves.l0 k1 a1 (x5_1 ++ [rdOf ByteArray.empty l0_1 x16_1]) l0_1 (l0_1.length : Int) ji21 a0_0 l0_1) else (none)) else (priceofficeref06_Leaves.l0 k1 a1 x5_1 l0_1 (l0_1.length : Int) ji21 a0_0 l0_1))) = some r := by rw [if_neg (show ¬ (false = true) by decide)] at H; exact H
           clear H
           have H := H1
           clear H1
           replace H := Option.bind_eq_some_iff.mp H
           obtain ⟨t629, A280, H⟩ := H
           replace H : (if t629 = true then (if x5_1.length < 8796093022208 then (priceofficeref06_Leaves.l0 k1 a1 (x5_1 ++ [rdOf ByteArray.empty l0_1 x16_1]) l0_1 (l0_1.length : Int) ji21 a0_0 l0_1) else (none)) else (priceofficeref06_Leaves.l0 k1 a1 x5_1 l0_1 (l0_1.length : Int) ji21 a0_0 l0_1)) = some r := H
           have A28 := mk0 A280
           clear A280
           by_cases c29 : t629 = true
           ·subst c29
            have H1 : (if x5_1.length < 8796093022208 then (priceofficeref06_Leaves.l0 k1 a1 (x5_1 ++ [rdOf ByteArray.empty l0_1 x16_1]) l0_1 (l0_1.length : Int) ji21 a0_0 l0_1) else (none)) = some r := by rw [if_pos rfl] at H; exact H
            clear H
            have H := H1
            clear H1
            by_cases c30 : x5_1.length < 8796093022208
            ·rw [if_pos c30] at H
             have LMc30 := mk0 c30
             clear c30
             obtain ⟨y630, hy630⟩ : ∃ y_ : List ByteArray, y_ = (x5_1 ++ [rdOf ByteArray.empty l0_1 x16_1]) := ⟨_, rfl⟩
             replace H : (priceofficeref06_Leaves.l0 k1 a1 y630 l0_1 (l0_1.length : Int) ji21 a0_0 l0_1) = some r := by first | (rw [hy630]; with_reducible exact H) | (have H2_ := (Option.bind_some _ _).symm.trans H; rw [hy630]; with_reducible exact H2_) | (have H2_ := (Option.bind_some _ _).symm.trans H; with_reducible exact H2_) | with_reducible exact H | (rw [hy630]; exact H) | exact H
             have Ny630 := mk0 hy630
             clear hy630
             have H' := mk0 H
             clear H
             have p622 : 0 ≤ (x16_1 : Int) := of_decide_eq_true (by first | (with_reducible assumption) | assumption)
             have q622 : x16_1 < (l0_1.length : Int) := of_decide_eq_true (by first | (with_reducible assumption) | assumption)
             obtain ⟨ad622, e622, hx622_0⟩ := Kd.at_string HR0_1.out x16_1 p622 q622
             cases e622
             replace hx622_0 := (HB.out.cell (World.block_lt_of_cell? w _ hx622_0)).trans hx622_0
             replace p622 := eq_true p622
             replace q622 := eq_true q622
             have hcz31_0 : wr.cell? ⟨gb620, 0, none⟩ = some (.string a0_0) := (blk_cell BK620.out 0).trans rfl
             have hcz31_1 : wr.cell? ⟨gb620, 1, none⟩ = some (.slice (some ad622) l0_1.length c0_1) := (blk_cell BK620.out 1).trans rfl
             have hfz31_0 := blk_frozen BK620.out 0
             have hfz31_1 := blk_frozen BK620.out 1
             have p627 : 0 ≤ ((ji21) : Int) := of_decide_eq_true (by first | (with_reducible assumption) | assumption)
             have q627 : (ji21) < (l0_1.length : Int) := of_decide_eq_true (by first | (with_reducible assumption) | assumption)
             obtain ⟨ad627, e627, hx627_0⟩ := Kd.at_string HR0_1.out (ji21) p627 q627
             obtain rfl : ad622 = ad627 := (by injection e627)
             replace hx627_0 := (HB.out.cell (World.block_lt_of_cell? w _ hx627_0)).trans hx627_0
             replace p627 := eq_true p627
             replace q627 := eq_true q627
             go_wp2_with (first | (go_at_call 43; (with_reducible refine (priceofficeref06_Within.calls k1 (rdOf ByteArray.empty l0_1 (ji21)) (rdOf ByteArray.empty l0_1 x16_1) false _ A24.out).mono ?_); rintro e w32 ⟨rfl, hb⟩; have n0_ := mk0 (Kd.R_below (by (with_reducible repeat (first | apply r_a | apply r_n | apply r_d)); exact HO_5.out) hb); have n1_ := mk0 (blk_below (g := gb620) (o := .cells #[.string a0_0, .slice (some ad622) l0_1.length c0_1] 28 (0, 0)) (by (with_reducible repeat (first | refine blk_drewN ?_ _ | refine blk_drew ?_ | refine blk_alloc ?_ _)); exact BK620.out) hb); have n2_ := mk0 (below_step (by repeat (first | (with_reducible first | exact HB.out | apply b_a | apply b_n | apply b_d | refine below_set ?_ GE620.out) | exact HB.out)) hb); clear HO_5; clear BK620; clear HB; have HO_5 := n0_; have BK620 := n1_; have HB := n2_; clear n0_ n1_ n2_; (try clear hb); (try clear hb2); (try clear hk); (try clear hi)) | (go_at_call 43; (with_reducible refine (priceofficeref06_Within.calls k1 (rdOf ByteArray.empty l0_1 x16_1) a1 true _ A28.out).mono ?_); rintro e w33 ⟨rfl, hb⟩; have n0_ := mk0 (Kd.R_below (by (with_reducible repeat (first | apply r_a | apply r_n | apply r_d)); exact HO_5.out) hb); have n1_ := mk0 (blk_below (g := gb620) (o := .cells #[.string a0_0, .slice (some ad622) l0_1.length c0_1] 28 (0, 0)) (by (with_reducible repeat (first | refine blk_drewN ?_ _ | refine blk_drew ?_ | refine blk_alloc ?_ _)); exact BK620.out) hb); have n2_ := mk0 (below_step (by repeat (first | (with_reducible first | exact HB.out | apply b_a | apply b_n | apply b_d | refine below_set ?_ GE620.out) | exact HB.out)) hb); clear HO_5; clear BK620; clear HB; have HO_5 := n0_; have BK620 := n1_; have HB := n2_; clear n0_ n1_ n2_; (try clear hb); (try clear hb2); (try clear hk); (try clear hi)) | ((with_reducible refine gate_builtin (b := .append) (xs := #[.tmp 44, .tmp 46]) rfl ?_); at_builtin; refine Kd.R_append Kd.string (w0 := w) w.heap.size rfl (.tmp 44) (.tmp 46) 26 9 (.string ⟨#[]⟩) 16 rfl Tryd.underlying26 info9 rfl (by decide) (by omega) u5 x5_1 (rdOf ByteArray.empty l0_1 x16_1) [.string (rdOf ByteArray.empty l0_1 x16_1)] (fun _ => True) (fun _ => False) rfl rfl ?aP (fun _ hk => hk.elim) ?aF ?aO ?aB ?aS ?aL ?_; (case aP => exact rfl); (case aB => exact (by repeat (first | (with_reducible first | exact HB.out | apply b_a | apply b_n | apply b_d | refine below_set ?_ GE620.out) | exact HB.out))); (case aF => exact (fun _ _ => trivial)); (case aO => exact (by (with_reducible repeat (first | apply r_a | apply r_n | apply r_d)); exact HO_5.out)); (case aS => exact (below_size (by repeat (first | (with_reducible first | exact HB.out | apply b_a | apply b_n | apply b_d | refine below_set ?_ GE620.out) | exact HB.out)))); (case aL => have := LMc30.out; omega); intro v631 w34 ho hb hg hat; rw [← Ny630.out] at ho; have n0_ := mk0 (blk_grown (g := gb620) (o := .cells #[.string a0_0, .slice (some ad622) l0_1.length c0_1] 28 (0, 0)) (by (with_reducible repeat (first | refine blk_drewN ?_ _ | refine blk_drew ?_ | refine blk_alloc ?_ _)); exact BK620.out) hg (Kd.R_ne HO_5.out BK620.out (by decide))); have n1_ := mk0 (hb); have n2_ := mk0 (ho); clear BK620; clear HB; clear HO_5; have BK620 := n0_; have HB := n1_; have HO632 := n2_; clear n0_ n1_ n2_; clear ho hb hg hat))
             go_roundg k1
             case measure => have := HK1.out; omega
             case rel => exact ⟨(y630), (ji21), (by first | rfl | (simp; done) | (simp only [← hji21] <;> (first | rfl | simp)) | (simp [*]; done)), H', ⟨by have := HK1.out; omega⟩, ⟨by (with_reducible repeat (first | apply r_a | apply r_n | apply r_d)); exact HO632.out⟩, ⟨by (with_reducible repeat (first | refine blk_drewN ?_ _ | refine blk_drew ?_ | refine blk_alloc ?_ _)); exact BK620.out⟩, ⟨by repeat (first | (with_reducible first | exact HB.out | apply b_a | apply b_n | apply b_d | refine below_set ?_ GE620.out) | exact HB.out)⟩⟩
            ·rw [if_neg c30] at H
             exact absurd H (by simp)
           ·replace c29 := Bool.eq_false_iff.mpr c29
            subst c29
            have H1 : (priceofficeref06_Leaves.l0 k1 a1 x5_1 l0_1 (l0_1.length : Int) ji21 a0_0 l0_1) = some r := by rw [if_neg (show ¬ (false = true) by decide)] at H; exact H
            clear H
            have H := H1
            clear H1
            have H' := mk0 H
            clear H
            have p622 : 0 ≤ (x16_1 : Int) := of_decide_eq_true (by first | (with_reducible assumption) | assumption)
            have q622 : x16_1 < (l0_1.length : Int) := of_decide_eq_true (by first | (with_reducible assumption) | assumption)
            obtain ⟨ad622, e622, hx622_0⟩ := Kd.at_string HR0_1.out x16_1 p622 q622
            cases e622
            replace hx622_0 := (HB.out.cell (World.block_lt_of_cell? w _ hx622_0)).trans hx622_0
            replace p622 := eq_true p622
            replace q622 := eq_true q622
            have hcz35_0 : wr.cell? ⟨gb620, 0, none⟩ = some (.string a0_0) := (blk_cell BK620.out 0).trans rfl
            have hcz35_1 : wr.cell? ⟨gb620, 1, none⟩ = some (.slice (some ad622) l0_1.length c0_1) := (blk_cell BK620.out 1).trans rfl
            have hfz35_0 := blk_frozen BK620.out 0
            have hfz35_1 := blk_frozen BK620.out 1
            have p627 : 0 ≤ ((ji21) : Int) := of_decide_eq_true (by first | (with_reducible assumption) | assumption)
            have q627 : (ji21) < (l0_1.length : Int) := of_decide_eq_true (by first | (with_reducible assumption) | assumption)
            obtain ⟨ad627, e627, hx627_0⟩ := Kd.at_string HR0_1.out (ji21) p627 q627
            obtain rfl : ad622 = ad627 := (by injection e627)
            replace hx627_0 := (HB.out.cell (World.block_lt_of_cell? w _ hx627_0)).trans hx627_0
            replace p627 := eq_true p627
            replace q627 := eq_true q627
            go_wp2_with (first | (go_at_call 43; (with_reducible refine (priceofficeref06_Within.calls k1 (rdOf ByteArray.empty l0_1 (ji21)) (rdOf ByteArray.empty l0_1 x16_1) false _ A24.out).mono ?_); rintro e w36 ⟨rfl, hb⟩; have n0_ := mk0 (Kd.R_below (by (with_reducible repeat (first | apply r_a | apply r_n | apply r_d)); exact HO_5.out) hb); have n1_ := mk0 (blk_below (g := gb620) (o := .cells #[.string a0_0, .slice (some ad622) l0_1.length c0_1] 28 (0, 0)) (by (with_reducible repeat (first | refine blk_drewN ?_ _ | refine blk_drew ?_ | refine blk_alloc ?_ _)); exact BK620.out) hb); have n2_ := mk0 (below_step (by repeat (first | (with_reducible first | exact HB.out | apply b_a | apply b_n | apply b_d | refine below_set ?_ GE620.out) | exact HB.out)) hb); clear HO_5; clear BK620; clear HB; have HO_5 := n0_; have BK620 := n1_; have HB := n2_; clear n0_ n1_ n2_; (try clear hb); (try clear hb2); (try clear hk); (try clear hi)) | (go_at_call 43; (with_reducible refine (priceofficeref06_Within.calls k1 (rdOf ByteArray.empty l0_1 x16_1) a1 false _ A28.out).mono ?_); rintro e w37 ⟨rfl, hb⟩; have n0_ := mk0 (Kd.R_below (by (with_reducible repeat (first | apply r_a | apply r_n | apply r_d)); exact HO_5.out) hb); have n1_ := mk0 (blk_below (g := gb620) (o := .cells #[.string a0_0, .slice (some ad622) l0_1.length c0_1] 28 (0, 0)) (by (with_reducible repeat (first | refine blk_drewN ?_ _ | refine blk_drew ?_ | refine blk_alloc ?_ _)); exact BK620.out) hb); have n2_ := mk0 (below_step (by repeat (first | (with_reducible first | exact HB.out | apply b_a | apply b_n | apply b_d | refine below_set ?_ GE620.out) | exact HB.out)) hb); clear HO_5; clear BK620; clear HB; have HO_5 := n0_; have BK620 := n1_; have HB := n2_; clear n0_ n1_ n2_; (try clear hb); (try clear hb2); (try clear hk); (try clear hi)))
            go_roundg k1
            case measure => have := HK1.out; omega
            case rel => exact ⟨(x5_1), (ji21), (by first | rfl | (simp; done) | (simp only [← hji21] <;> (first | rfl | simp)) | (simp [*]; done)), H', ⟨by have := HK1.out; omega⟩, ⟨by (with_reducible repeat (first | apply r_a | apply r_n | apply r_d)); exact HO_5.out⟩, ⟨by (with_reducible repeat (first | refine blk_drewN ?_ _ | refine blk_drew ?_ | refine blk_alloc ?_ _)); exact BK620.out⟩, ⟨by repeat (first | (with_reducible first | exact HB.out | apply b_a | apply b_n | apply b_d | refine below_set ?_ GE620.out) | exact HB.out)⟩⟩
         ·rw [if_neg c23] at H
          exact absurd H (by simp)
        ·rw [if_neg c22] at H
         exact absurd H (by simp)
      ·rw [if_neg c11] at H
       exact absurd H (by simp)
     ·rw [if_neg c10] at H
      exact absurd H (by simp)
    ·rw [if_neg c9] at H
     have c9b0 : decide (x16_1 < (l0_1.length : Int)) = false := decide_eq_false c9
     clear c9
     obtain rfl := Option.some.inj H
     go_wp2
     go_ret
     exact ⟨_, by first | rfl | (simp [errW_none, errW_some] <;> rfl) | (simp [*, errW_none, errW_some] <;> rfl), by (with_reducible repeat (first | apply r_a | apply r_n | apply r_d)); exact HO_5.out, by repeat (first | (with_reducible first | exact HB.out | apply b_a | apply b_n | apply b_d | refine below_set ?_ GE620.out) | exact HB.out)⟩
 ·replace c4 := Bool.eq_false_iff.mpr c4
  subst c4
  have H1 : (some ([] : List ByteArray)) = some r := by rw [if_neg (show ¬ (false = true) by decide)] at H; exact H
  clear H
  have H := H1
  clear H1
  obtain rfl := Option.some.inj H
  go_enter Tryd.func22, Tryd.ntmps22
  go_wp2_with (first | ((with_reducible refine gate_dst (N := 2) rfl ?_); refine box_event ?hg (N := 2) ?hd (cs := #[.string a0_0, .slice A0_1 l0_1.length c0_1]) (t := 28) ?hr ?_; (case hd => rfl); (case hg => rfl); (case hr => first | (go_simp; done) | (go_simp; rfl)); intro gb620 hg w38 hbox hb; have n0_ := mk0 (below_step (by repeat (first | (with_reducible first | exact HB.out | apply b_a | apply b_n | apply b_d) | exact HB.out)) hb); have n1_ := mk0 (hbox); have n2_ := mk0 ((by rw [hg]; exact (below_size (by repeat (first | (with_reducible first | exact HB.out | apply b_a | apply b_n | apply b_d) | exact HB.out))) : w.heap.size ≤ gb620)); have n3_ := mk0 ((by rw [hg]; exact (below_size (by repeat (first | (with_reducible first | exact HB.out | apply b_a | apply b_n | apply b_d) | exact HB.out))) : w.heap.size ≤ gb620)); clear HB; have HB := n0_; have BK620 := n1_; have GW620 := n2_; have GE620 := n3_; clear n0_ n1_ n2_ n3_; clear hb hbox hg; have hcz39_0 : w38.cell? ⟨gb620, 0, none⟩ = some (.string a0_0) := (blk_cell BK620.out 0).trans rfl; have hcz39_1 : w38.cell? ⟨gb620, 1, none⟩ = some (.slice A0_1 l0_1.length c0_1) := (blk_cell BK620.out 1).trans rfl; have hfz39_0 := blk_frozen BK620.out 0; have hfz39_1 := blk_frozen BK620.out 1) | ((with_reducible refine gate_callee (f := 51) rfl ?_); refine goesL_ (some 11) rfl rfl Tryd.func51 (by kernel_rfl) rfl #[.agg #[.string a0_0, .slice A0_1 l0_1.length c0_1], .string a1] rfl (by (try simp only [List.map_toArray, List.map_cons, List.map_nil]); first | done | rfl | (simp only [List.length_drop, List.length_take]; rfl)) ?_; (with_reducible refine (priceofficeref06_known.calls k a0_0 _ _ l0_1 a1 false _ ?side1 ?side2 A3.out).mono ?_); (case side1 => repeat (first | exact (Kd.C_below HR0_1.out HB.out) | (with_reducible refine Kd.C_alloc ?_ _) | (with_reducible refine Kd.C_drewN ?_ _) | (with_reducible refine Kd.C_drew ?_))); (case side2 => exact HC0_1.out); rintro e w40 ⟨rfl, hb⟩; refine ⟨_, rfl, ?_⟩; have n0_ := mk0 (blk_below (g := gb620) (o := .cells #[.string a0_0, .slice A0_1 l0_1.length c0_1] 28 (0, 0)) (by (with_reducible repeat (first | refine blk_drewN ?_ _ | refine blk_drew ?_ | refine blk_alloc ?_ _)); exact BK620.out) hb); have n1_ := mk0 (below_step (by repeat (first | (with_reducible first | exact HB.out | apply b_a | apply b_n | apply b_d | refine below_set ?_ GE620.out) | exact HB.out)) hb); clear BK620; clear HB; have BK620 := n0_; have HB := n1_; clear n0_ n1_; (try clear hb); (try clear hb2); (try clear hk); (try clear hi)))
  go_ret
  exact ⟨_, by first | rfl | (simp [errW_none, errW_some] <;> rfl) | (simp [*, errW_none, errW_some] <;> rfl), by first | exact Kd.R_nil _ _ _ _ _ | exact Kd.N_nil _ _ _ _ _ | exact Kd.V_nil _ _ _ _ _ | exact Kd.Q_nil _ _ _ _ _ | exact Kd.S_nil _ _ _ _ _, by repeat (first | (with_reducible first | exact HB.out | apply b_a | apply b_n | apply b_d | refine below_set ?_ GE620.out) | exact HB.out)⟩

/-! ### priceofficeref06_Cover: function 21 -/
mutual
def priceofficeref06_Cover.l0 : Nat → ByteArray → List ByteArray → List ByteArray → Int → Int → ByteArray → List ByteArray → Option (Bool)
 | 0, _, _, _, _, _, _, _ => none
 | k + 1, x1, x2, x18, x19, x20, x634000, x634001 => if x20 < x19 then (if 0 ≤ x20 then (if x20 < (x18.length : Int) then ((priceofficeref06_has.f k x634001 (rdOf ByteArray.empty x18 x20)).bind fun t636 => (if t636 = true then ((priceofficeref06_Within.f k (rdOf ByteArray.empty x18 x20) x1).bind fun t637 => (if t637 = true then (priceofficeref06_Cover.l0 k x1 x2 x18 x19 (wrap64 (x20 + 1)) x634000 x634001) else (some false))) else (some false))) else (none)) else (none)) else ((priceofficeref06_Leaves.f k x634000 x634001 x1).bind fun t638 => (priceofficeref06_Cover.l1 k x2 t638 (t638.length : Int) 0))
def priceofficeref06_Cover.l1 : Nat → List ByteArray → List ByteArray → Int → Int → Option (Bool)
 | 0, _, _, _, _ => none
 | k + 1, x2, x38, x39, x40 => if x40 < x39 then (if 0 ≤ x40 then (if x40 < (x38.length : Int) then (priceofficeref06_Cover.l2 k x2 (rdOf ByteArray.empty x38 x40) 0 x38 x39 x40 x2 (x2.length : Int) 0) else (none)) else (none)) else (some true)
def priceofficeref06_Cover.l2 : Nat → List ByteArray → ByteArray → Int → List ByteArray → Int → Int → List ByteArray → Int → Int → Option (Bool)
 | 0, _, _, _, _, _, _, _, _, _ => none
 | k + 1, x2, x10, x11, x38, x39, x40, x44, x45, x46 => if x46 < x45 then (if 0 ≤ x46 then (if x46 < (x44.length : Int) then ((priceofficeref06_Within.f k x10 (rdOf ByteArray.empty x44 x46)).bind fun t643 => (if t643 = true then (priceofficeref06_Cover.l2 k x2 x10 (wrap64 (x11 + 1)) x38 x39 x40 x44 x45 (wrap64 (x46 + 1))) else (priceofficeref06_Cover.l2 k x2 x10 x11 x38 x39 x40 x44 x45 (wrap64 (x46 + 1))))) else (none)) else (none)) else (if x11 = 1 then (priceofficeref06_Cover.l1 k x2 x38 x39 (wrap64 (x40 + 1))) else (some false))
end
def priceofficeref06_Cover.f (k : Nat) (a0_0 : ByteArray) (l0_1 : List ByteArray) (a1 : ByteArray) (l2 : List ByteArray) : Option (Bool) := (priceofficeref06_known.f k a0_0 l0_1 a1).bind fun t634 => (if t634 = true then (priceofficeref06_Cover.l0 k a1 l2 l2 (l2.length : Int) 0 a0_0 l0_1) else (some false))
theorem priceofficeref06_Cover.mono_l : ∀ k, (∀ y0 y1 y2 y3 y4 y5 y6, LeO (priceofficeref06_Cover.l0 k y0 y1 y2 y3 y4 y5 y6) (priceofficeref06_Cover.l0 (k + 1) y0 y1 y2 y3 y4 y5 y6)) ∧ (∀ y0 y1 y2 y3, LeO (priceofficeref06_Cover.l1 k y0 y1 y2 y3) (priceofficeref06_Cover.l1 (k + 1) y0 y1 y2 y3)) ∧ (∀ y0 y1 y2 y3 y4 y5 y6 y7 y8, LeO (priceofficeref06_Cover.l2 k y0 y1 y2 y3 y4 y5 y6 y7 y8) (priceofficeref06_Cover.l2 (k + 1) y0 y1 y2 y3 y4 y5 y6 y7 y8))
 | 0 => ⟨fun _ _ _ _ _ _ _ r h => by simp [priceofficeref06_Cover.l0] at h, fun _ _ _ _ r h => by simp [priceofficeref06_Cover.l1] at h, fun _ _ _ _ _ _ _ _ _ r h => by simp [priceofficeref06_Cover.l2] at h⟩
 | k + 1 => by
  obtain ⟨ih0, ih1, ih2⟩ := priceofficeref06_Cover.mono_l k
  refine ⟨?_, ?_, ?_⟩
  ·intro y0 y1 y2 y3 y4 y5 y6
   unfold priceofficeref06_Cover.l0
   repeat' first
   | (with_reducible exact ih0 _ _ _ _ _ _ _)
   | (with_reducible exact ih1 _ _ _ _)
   | (with_reducible exact ih2 _ _ _ _ _ _ _ _ _)
   | (with_reducible exact priceofficeref06_Leaves.mono _ _ _ _)
   | (with_reducible exact priceofficeref06_Within.mono _ _ _)
   | (with_reducible exact priceofficeref06_has.mono _ _ _)
   | (with_reducible exact priceofficeref06_known.mono _ _ _ _)
   | (with_reducible exact LeO.refl _)
   | (with_reducible exact LeO.none _)
   | (with_reducible refine LeO.ite ?_ ?_)
   | (with_reducible refine LeO.bind ?_ (fun _ => ?_))
   | exact ih0 _ _ _ _ _ _ _
   | exact ih1 _ _ _ _
   | exact ih2 _ _ _ _ _ _ _ _ _
   | exact priceofficeref06_Leaves.mono _ _ _ _
   | exact priceofficeref06_Within.mono _ _ _
   | exact priceofficeref06_has.mono _ _ _
   | exact priceofficeref06_known.mono _ _ _ _
   | exact LeO.none _
   | refine LeO.ite ?_ ?_
   | refine LeO.bind ?_ (fun _ => ?_)
  ·intro y0 y1 y2 y3
   unfold priceofficeref06_Cover.l1
   repeat' first
   | (with_reducible exact ih0 _ _ _ _ _ _ _)
   | (with_reducible exact ih1 _ _ _ _)
   | (with_reducible exact ih2 _ _ _ _ _ _ _ _ _)
   | (with_reducible exact priceofficeref06_Leaves.mono _ _ _ _)
   | (with_reducible exact priceofficeref06_Within.mono _ _ _)
   | (with_reducible exact priceofficeref06_has.mono _ _ _)
   | (with_reducible exact priceofficeref06_known.mono _ _ _ _)
   | (with_reducible exact LeO.refl _)
   | (with_reducible exact LeO.none _)
   | (with_reducible refine LeO.ite ?_ ?_)
   | (with_reducible refine LeO.bind ?_ (fun _ => ?_))
   | exact ih0 _ _ _ _ _ _ _
   | exact ih1 _ _ _ _
   | exact ih2 _ _ _ _ _ _ _ _ _
   | exact priceofficeref06_Leaves.mono _ _ _ _
   | exact priceofficeref06_Within.mono _ _ _
   | exact priceofficeref06_has.mono _ _ _
   | exact priceofficeref06_known.mono _ _ _ _
   | exact LeO.none _
   | refine LeO.ite ?_ ?_
   | refine LeO.bind ?_ (fun _ => ?_)
  ·intro y0 y1 y2 y3 y4 y5 y6 y7 y8
   unfold priceofficeref06_Cover.l2
   repeat' first
   | (with_reducible exact ih0 _ _ _ _ _ _ _)
   | (with_reducible exact ih1 _ _ _ _)
   | (with_reducible exact ih2 _ _ _ _ _ _ _ _ _)
   | (with_reducible exact priceofficeref06_Leaves.mono _ _ _ _)
   | (with_reducible exact priceofficeref06_Within.mono _ _ _)
   | (with_reducible exact priceofficeref06_has.mono _ _ _)
   | (with_reducible exact priceofficeref06_known.mono _ _ _ _)
   | (with_reducible exact LeO.refl _)
   | (with_reducible exact LeO.none _)
   | (with_reducible refine LeO.ite ?_ ?_)
   | (with_reducible refine LeO.bind ?_ (fun _ => ?_))
   | exact ih0 _ _ _ _ _ _ _
   | exact ih1 _ _ _ _
   | exact ih2 _ _ _ _ _ _ _ _ _
   | exact priceofficeref06_Leaves.mono _ _ _ _
   | exact priceofficeref06_Within.mono _ _ _
   | exact priceofficeref06_has.mono _ _ _
   | exact priceofficeref06_known.mono _ _ _ _
   | exact LeO.none _
   | refine LeO.ite ?_ ?_
   | refine LeO.bind ?_ (fun _ => ?_)
theorem priceofficeref06_Cover.mono : ∀ a0 a1 a2 a3 k, LeO (priceofficeref06_Cover.f k a0 a1 a2 a3) (priceofficeref06_Cover.f (k + 1) a0 a1 a2 a3) := by
 intro a0 a1 a2 a3 k
 obtain ⟨ih0, ih1, ih2⟩ := priceofficeref06_Cover.mono_l k
 unfold priceofficeref06_Cover.f
 repeat' first
   | (with_reducible exact ih0 _ _ _ _ _ _ _)
   | (with_reducible exact ih1 _ _ _ _)
   | (with_reducible exact ih2 _ _ _ _ _ _ _ _ _)
   | (with_reducible exact priceofficeref06_Leaves.mono _ _ _ _)
   | (with_reducible exact priceofficeref06_Within.mono _ _ _)
   | (with_reducible exact priceofficeref06_has.mono _ _ _)
   | (with_reducible exact priceofficeref06_known.mono _ _ _ _)
   | (with_reducible exact LeO.refl _)
   | (with_reducible exact LeO.none _)
   | (with_reducible refine LeO.ite ?_ ?_)
   | (with_reducible refine LeO.bind ?_ (fun _ => ?_))
   | exact ih0 _ _ _ _ _ _ _
   | exact ih1 _ _ _ _
   | exact ih2 _ _ _ _ _ _ _ _ _
   | exact priceofficeref06_Leaves.mono _ _ _ _
   | exact priceofficeref06_Within.mono _ _ _
   | exact priceofficeref06_has.mono _ _ _
   | exact priceofficeref06_known.mono _ _ _ _
   | exact LeO.none _
   | refine LeO.ite ?_ ?_
   | refine LeO.bind ?_ (fun _ => ?_)
set_option maxHeartbeats 8000000 in
set_option maxRecDepth 100000 in
theorem priceofficeref06_Cover.calls (k : Nat) (a0_0 : ByteArray) (A0_1 : Option Addr) (c0_1 : Nat) (l0_1 : List ByteArray) (a1 : ByteArray) (A2 : Option Addr) (c2 : Nat) (l2 : List ByteArray) (r : Bool) (w : World) (hr0_1 : Kd.C Kd.string w A0_1 l0_1.length l0_1) (hc0_1 : l0_1.length ≤ c0_1) (hr2 : Kd.C Kd.string w A2 l2.length l2) (hc2 : l2.length ≤ c2) (h : priceofficeref06_Cover.f k a0_0 l0_1 a1 l2 = some r) :
  Calls Tryd.prog 21 #[.agg #[.string a0_0, .slice A0_1 l0_1.length c0_1], .string a1, .slice A2 l2.length c2] w fun e w' => e = .returned (.bool r) ∧ Below w.heap.size w w' := by
 have hu28 := Tryd.underlying28
 have HR0_1 := mk0 hr0_1
 have HC0_1 := mk0 hc0_1
 clear hr0_1 hc0_1
 have HR2 := mk0 hr2
 have HC2 := mk0 hc2
 clear hr2 hc2
 have HB := mk0 (Below.refl w.heap.size w)
 have H : ((priceofficeref06_known.f k a0_0 l0_1 a1).bind fun t634 => (if t634 = true then (priceofficeref06_Cover.l0 k a1 l2 l2 (l2.length : Int) 0 a0_0 l0_1) else (some false))) = some r := h
 clear h
 replace H := Option.bind_eq_some_iff.mp H
 obtain ⟨t634, A40, H⟩ := H
 replace H : (if t634 = true then (priceofficeref06_Cover.l0 k a1 l2 l2 (l2.length : Int) 0 a0_0 l0_1) else (some false)) = some r := H
 have A4 := mk0 A40
 clear A40
 by_cases c5 : t634 = true
 ·subst c5
  have H1 : (priceofficeref06_Cover.l0 k a1 l2 l2 (l2.length : Int) 0 a0_0 l0_1) = some r := by rw [if_pos rfl] at H; exact H
  clear H
  have H := H1
  clear H1
  have H' := mk0 H
  clear H
  go_enter Tryd.func21, Tryd.ntmps21
  go_wp2_with (first | ((with_reducible refine gate_dst (N := 3) rfl ?_); refine box_event ?hg (N := 3) ?hd (cs := #[.string a0_0, .slice A0_1 l0_1.length c0_1]) (t := 28) ?hr ?_; (case hd => rfl); (case hg => rfl); (case hr => first | (go_simp; done) | (go_simp; rfl)); intro gb633 hg w6 hbox hb; have n0_ := mk0 (below_step (by repeat (first | (with_reducible first | exact HB.out | apply b_a | apply b_n | apply b_d) | exact HB.out)) hb); have n1_ := mk0 (hbox); have n2_ := mk0 ((by rw [hg]; exact (below_size (by repeat (first | (with_reducible first | exact HB.out | apply b_a | apply b_n | apply b_d) | exact HB.out))) : w.heap.size ≤ gb633)); have n3_ := mk0 ((by rw [hg]; exact (below_size (by repeat (first | (with_reducible first | exact HB.out | apply b_a | apply b_n | apply b_d) | exact HB.out))) : w.heap.size ≤ gb633)); clear HB; have HB := n0_; have BK633 := n1_; have GW633 := n2_; have GE633 := n3_; clear n0_ n1_ n2_ n3_; clear hb hbox hg; have hcz7_0 : w6.cell? ⟨gb633, 0, none⟩ = some (.string a0_0) := (blk_cell BK633.out 0).trans rfl; have hcz7_1 : w6.cell? ⟨gb633, 1, none⟩ = some (.slice A0_1 l0_1.length c0_1) := (blk_cell BK633.out 1).trans rfl; have hfz7_0 := blk_frozen BK633.out 0; have hfz7_1 := blk_frozen BK633.out 1) | ((with_reducible refine gate_callee (f := 51) rfl ?_); refine goesL_ (some 16) rfl rfl Tryd.func51 (by kernel_rfl) rfl #[.agg #[.string a0_0, .slice A0_1 l0_1.length c0_1], .string a1] rfl (by (try simp only [List.map_toArray, List.map_cons, List.map_nil]); first | done | rfl | (simp only [List.length_drop, List.length_take]; rfl)) ?_; (with_reducible refine (priceofficeref06_known.calls k a0_0 _ _ l0_1 a1 true _ ?side1 ?side2 A4.out).mono ?_); (case side1 => repeat (first | exact (Kd.C_below HR0_1.out HB.out) | (with_reducible refine Kd.C_alloc ?_ _) | (with_reducible refine Kd.C_drewN ?_ _) | (with_reducible refine Kd.C_drew ?_))); (case side2 => exact HC0_1.out); rintro e w8 ⟨rfl, hb⟩; refine ⟨_, rfl, ?_⟩; have n0_ := mk0 (blk_below (g := gb633) (o := .cells #[.string a0_0, .slice A0_1 l0_1.length c0_1] 28 (0, 0)) (by (with_reducible repeat (first | refine blk_drewN ?_ _ | refine blk_drew ?_ | refine blk_alloc ?_ _)); exact BK633.out) hb); have n1_ := mk0 (below_step (by repeat (first | (with_reducible first | exact HB.out | apply b_a | apply b_n | apply b_d | refine below_set ?_ GE633.out) | exact HB.out)) hb); clear BK633; clear HB; have BK633 := n0_; have HB := n1_; clear n0_ n1_; (try clear hb); (try clear hb2); (try clear hk); (try clear hi)))
  go_loopg [20] k (fun kq v20 w' => ∃ (x20_1 : Int), v20 = .int .i64 x20_1 ∧ Aside0 (priceofficeref06_Cover.l0 kq a1 l2 l2 (l2.length : Int) x20_1 a0_0 l0_1 = some r) ∧ Aside0 (kq ≤ k) ∧ Aside0 (w'.heap[gb633]? = some (.cells #[.string a0_0, (.slice A0_1 l0_1.length c0_1)] 28 (0, 0))) ∧ Aside0 (Below w.heap.size w w'))
  case atStart => exact ⟨(0), (by first | rfl | (simp; done) | (simp [*]; done)), H', ⟨Nat.le_refl _⟩, ⟨by (with_reducible repeat (first | refine blk_drewN ?_ _ | refine blk_drew ?_ | refine blk_alloc ?_ _)); exact BK633.out⟩, ⟨by repeat (first | (with_reducible first | exact HB.out | apply b_a | apply b_n | apply b_d | refine below_set ?_ GE633.out) | exact HB.out)⟩⟩
  case round =>
   clear H'
   try clear c2
   try clear p2
   try clear c5
   try clear hcz7_0
   try clear hcz7_1
   try clear hfz7_0
   try clear hfz7_1
   obtain ⟨x20_1, rfl, HA, HK1, BK633, HB⟩ := hrel
   cases gk with
   | zero => exact absurd HA.out (by simp [priceofficeref06_Cover.l0])
   | succ k1 =>
    have H := HA.out
    clear HA
    simp only [priceofficeref06_Cover.l0] at H
    by_cases c9 : x20_1 < (l2.length : Int)
    ·rw [if_pos c9] at H
     have c9b0 : decide (x20_1 < (l2.length : Int)) = true := decide_eq_true c9
     clear c9
     by_cases c10 : 0 ≤ x20_1
     ·rw [if_pos c10] at H
      have c10b0 : decide (0 ≤ x20_1) = true := decide_eq_true c10
      clear c10
      by_cases c11 : x20_1 < (l2.length : Int)
      ·rw [if_pos c11] at H
       have c11b0 : decide (x20_1 < (l2.length : Int)) = true := decide_eq_true c11
       clear c11
       replace H := Option.bind_eq_some_iff.mp H
       obtain ⟨t636, A120, H⟩ := H
       replace H : (if t636 = true then ((priceofficeref06_Within.f k1 (rdOf ByteArray.empty l2 x20_1) a1).bind fun t637 => (if t637 = true then (priceofficeref06_Cover.l0 k1 a1 l2 l2 (l2.length : Int) (wrap64 (x20_1 + 1)) a0_0 l0_1) else (some false))) else (some false)) = some r := H
       have A12 := mk0 A120
       clear A120
       by_cases c13 : t636 = true
       ·subst c13
        have H1 : ((priceofficeref06_Within.f k1 (rdOf ByteArray.empty l2 x20_1) a1).bind fun t637 => (if t637 = true then (priceofficeref06_Cover.l0 k1 a1 l2 l2 (l2.length : Int) (wrap64 (x20_1 + 1)) a0_0 l0_1) else (some false))) = some r := by rw [if_pos rfl] at H; exact H
        clear H
        have H := H1
        clear H1
        replace H := Option.bind_eq_some_iff.mp H
        obtain ⟨t637, A140, H⟩ := H
        replace H : (if t637 = true then (priceofficeref06_Cover.l0 k1 a1 l2 l2 (l2.length : Int) (wrap64 (x20_1 + 1)) a0_0 l0_1) else (some false)) = some r := H
        have A14 := mk0 A140
        clear A140
        by_cases c15 : t637 = true
        ·subst c15
         have H1 : (priceofficeref06_Cover.l0 k1 a1 l2 l2 (l2.length : Int) (wrap64 (x20_1 + 1)) a0_0 l0_1) = some r := by rw [if_pos rfl] at H; exact H
         clear H
         have H := H1
         clear H1
         have H' := mk0 H
         clear H
         have p635 : 0 ≤ (x20_1 : Int) := of_decide_eq_true (by first | (with_reducible assumption) | assumption)
         have q635 : x20_1 < (l2.length : Int) := of_decide_eq_true (by first | (with_reducible assumption) | assumption)
         obtain ⟨ad635, e635, hx635_0⟩ := Kd.at_string HR2.out x20_1 p635 q635
         cases e635
         replace hx635_0 := (HB.out.cell (World.block_lt_of_cell? w _ hx635_0)).trans hx635_0
         replace p635 := eq_true p635
         replace q635 := eq_true q635
         have hcz16_0 : wr.cell? ⟨gb633, 0, none⟩ = some (.string a0_0) := (blk_cell BK633.out 0).trans rfl
         have hcz16_1 : wr.cell? ⟨gb633, 1, none⟩ = some (.slice A0_1 l0_1.length c0_1) := (blk_cell BK633.out 1).trans rfl
         have hfz16_0 := blk_frozen BK633.out 0
         have hfz16_1 := blk_frozen BK633.out 1
         go_wp2_with (first | ((with_reducible refine gate_callee (f := 52) rfl ?_); refine goesL_ (some 27) rfl rfl Tryd.func52 (by kernel_rfl) rfl #[.slice A0_1 l0_1.length c0_1, .string (rdOf ByteArray.empty l2 x20_1)] rfl (by (try simp only [List.map_toArray, List.map_cons, List.map_nil]); first | done | rfl | (simp only [List.length_drop, List.length_take]; rfl)) ?_; (with_reducible refine (priceofficeref06_has.calls k1 _ _ l0_1 (rdOf ByteArray.empty l2 x20_1) true _ ?side1 ?side2 A12.out).mono ?_); (case side1 => repeat (first | exact (Kd.C_below HR0_1.out HB.out) | (with_reducible refine Kd.C_alloc ?_ _) | (with_reducible refine Kd.C_drewN ?_ _) | (with_reducible refine Kd.C_drew ?_))); (case side2 => exact HC0_1.out); rintro e w' ⟨rfl, ⟨nd, rfl⟩⟩; refine ⟨_, rfl, ?_⟩) | (go_at_call 43; (with_reducible refine (priceofficeref06_Within.calls k1 (rdOf ByteArray.empty l2 x20_1) a1 true _ A14.out).mono ?_); rintro e w17 ⟨rfl, hb⟩; have n0_ := mk0 (blk_below (g := gb633) (o := .cells #[.string a0_0, .slice A0_1 l0_1.length c0_1] 28 (0, 0)) (by (with_reducible repeat (first | refine blk_drewN ?_ _ | refine blk_drew ?_ | refine blk_alloc ?_ _)); exact BK633.out) hb); have n1_ := mk0 (below_step (by repeat (first | (with_reducible first | exact HB.out | apply b_a | apply b_n | apply b_d | refine below_set ?_ GE633.out) | exact HB.out)) hb); clear BK633; clear HB; have BK633 := n0_; have HB := n1_; clear n0_ n1_; (try clear hb); (try clear hb2); (try clear hk); (try clear hi)))
         go_roundg k1
         case measure => have := HK1.out; omega
         case rel => exact ⟨(wrap64 (x20_1 + 1)), (by first | rfl | (simp; done) | (simp [*]; done)), H', ⟨by have := HK1.out; omega⟩, ⟨by (with_reducible repeat (first | refine blk_drewN ?_ _ | refine blk_drew ?_ | refine blk_alloc ?_ _)); exact BK633.out⟩, ⟨by repeat (first | (with_reducible first | exact HB.out | apply b_a | apply b_n | apply b_d | refine below_set ?_ GE633.out) | exact HB.out)⟩⟩
        ·replace c15 := Bool.eq_false_iff.mpr c15
         subst c15
         have H1 : (some false) = some r := by rw [if_neg (show ¬ (false = true) by decide)] at H; exact H
         clear H
         have H := H1
         clear H1
         obtain rfl := Option.some.inj H
         have p635 : 0 ≤ (x20_1 : Int) := of_decide_eq_true (by first | (with_reducible assumption) | assumption)
         have q635 : x20_1 < (l2.length : Int) := of_decide_eq_true (by first | (with_reducible assumption) | assumption)
         obtain ⟨ad635, e635, hx635_0⟩ := Kd.at_string HR2.out x20_1 p635 q635
         cases e635
         replace hx635_0 := (HB.out.cell (World.block_lt_of_cell? w _ hx635_0)).trans hx635_0
         replace p635 := eq_true p635
         replace q635 := eq_true q635
         have hcz18_0 : wr.cell? ⟨gb633, 0, none⟩ = some (.string a0_0) := (blk_cell BK633.out 0).trans rfl
         have hcz18_1 : wr.cell? ⟨gb633, 1, none⟩ = some (.slice A0_1 l0_1.length c0_1) := (blk_cell BK633.out 1).trans rfl
         have hfz18_0 := blk_frozen BK633.out 0
         have hfz18_1 := blk_frozen BK633.out 1
         go_wp2_with (first | ((with_reducible refine gate_callee (f := 52) rfl ?_); refine goesL_ (some 27) rfl rfl Tryd.func52 (by kernel_rfl) rfl #[.slice A0_1 l0_1.length c0_1, .string (rdOf ByteArray.empty l2 x20_1)] rfl (by (try simp only [List.map_toArray, List.map_cons, List.map_nil]); first | done | rfl | (simp only [List.length_drop, List.length_take]; rfl)) ?_; (with_reducible refine (priceofficeref06_has.calls k1 _ _ l0_1 (rdOf ByteArray.empty l2 x20_1) true _ ?side1 ?side2 A12.out).mono ?_); (case side1 => repeat (first | exact (Kd.C_below HR0_1.out HB.out) | (with_reducible refine Kd.C_alloc ?_ _) | (with_reducible refine Kd.C_drewN ?_ _) | (with_reducible refine Kd.C_drew ?_))); (case side2 => exact HC0_1.out); rintro e w' ⟨rfl, ⟨nd, rfl⟩⟩; refine ⟨_, rfl, ?_⟩) | (go_at_call 43; (with_reducible refine (priceofficeref06_Within.calls k1 (rdOf ByteArray.empty l2 x20_1) a1 false _ A14.out).mono ?_); rintro e w19 ⟨rfl, hb⟩; have n0_ := mk0 (blk_below (g := gb633) (o := .cells #[.string a0_0, .slice A0_1 l0_1.length c0_1] 28 (0, 0)) (by (with_reducible repeat (first | refine blk_drewN ?_ _ | refine blk_drew ?_ | refine blk_alloc ?_ _)); exact BK633.out) hb); have n1_ := mk0 (below_step (by repeat (first | (with_reducible first | exact HB.out | apply b_a | apply b_n | apply b_d | refine below_set ?_ GE633.out) | exact HB.out)) hb); clear BK633; clear HB; have BK633 := n0_; have HB := n1_; clear n0_ n1_; (try clear hb); (try clear hb2); (try clear hk); (try clear hi)))
         go_ret
         exact ⟨by first | rfl | (simp [errW_none, errW_some] <;> rfl) | (simp [*, errW_none, errW_some] <;> rfl), by repeat (first | (with_reducible first | exact HB.out | apply b_a | apply b_n | apply b_d | refine below_set ?_ GE633.out) | exact HB.out)⟩
       ·replace c13 := Bool.eq_false_iff.mpr c13
        subst c13
        have H1 : (some false) = some r := by rw [if_neg (show ¬ (false = true) by decide)] at H; exact H
        clear H
        have H := H1
        clear H1
        obtain rfl := Option.some.inj H
        have p635 : 0 ≤ (x20_1 : Int) := of_decide_eq_true (by first | (with_reducible assumption) | assumption)
        have q635 : x20_1 < (l2.length : Int) := of_decide_eq_true (by first | (with_reducible assumption) | assumption)
        obtain ⟨ad635, e635, hx635_0⟩ := Kd.at_string HR2.out x20_1 p635 q635
        cases e635
        replace hx635_0 := (HB.out.cell (World.block_lt_of_cell? w _ hx635_0)).trans hx635_0
        replace p635 := eq_true p635
        replace q635 := eq_true q635
        have hcz20_0 : wr.cell? ⟨gb633, 0, none⟩ = some (.string a0_0) := (blk_cell BK633.out 0).trans rfl
        have hcz20_1 : wr.cell? ⟨gb633, 1, none⟩ = some (.slice A0_1 l0_1.length c0_1) := (blk_cell BK633.out 1).trans rfl
        have hfz20_0 := blk_frozen BK633.out 0
        have hfz20_1 := blk_frozen BK633.out 1
        go_wp2_with (first | ((with_reducible refine gate_callee (f := 52) rfl ?_); refine goesL_ (some 27) rfl rfl Tryd.func52 (by kernel_rfl) rfl #[.slice A0_1 l0_1.length c0_1, .string (rdOf ByteArray.empty l2 x20_1)] rfl (by (try simp only [List.map_toArray, List.map_cons, List.map_nil]); first | done | rfl | (simp only [List.length_drop, List.length_take]; rfl)) ?_; (with_reducible refine (priceofficeref06_has.calls k1 _ _ l0_1 (rdOf ByteArray.empty l2 x20_1) false _ ?side1 ?side2 A12.out).mono ?_); (case side1 => repeat (first | exact (Kd.C_below HR0_1.out HB.out) | (with_reducible refine Kd.C_alloc ?_ _) | (with_reducible refine Kd.C_drewN ?_ _) | (with_reducible refine Kd.C_drew ?_))); (case side2 => exact HC0_1.out); rintro e w' ⟨rfl, ⟨nd, rfl⟩⟩; refine ⟨_, rfl, ?_⟩))
        go_ret
        exact ⟨by first | rfl | (simp [errW_none, errW_some] <;> rfl) | (simp [*, errW_none, errW_some] <;> rfl), by repeat (first | (with_reducible first | exact HB.out | apply b_a | apply b_n | apply b_d | refine below_set ?_ GE633.out) | exact HB.out)⟩
      ·rw [if_neg c11] at H
       exact absurd H (by simp)
     ·rw [if_neg c10] at H
      exact absurd H (by simp)
    ·rw [if_neg c9] at H
     have c9b0 : decide (x20_1 < (l2.length : Int)) = false := decide_eq_false c9
     clear c9
     replace H := Option.bind_eq_some_iff.mp H
     obtain ⟨t638, A210, H⟩ := H
     replace H : (priceofficeref06_Cover.l1 k1 l2 t638 (t638.length : Int) 0) = some r := H
     have A21 := mk0 A210
     clear A210
     have H' := mk0 H
     clear H
     have hcz22_0 : wr.cell? ⟨gb633, 0, none⟩ = some (.string a0_0) := (blk_cell BK633.out 0).trans rfl
     have hcz22_1 : wr.cell? ⟨gb633, 1, none⟩ = some (.slice A0_1 l0_1.length c0_1) := (blk_cell BK633.out 1).trans rfl
     have hfz22_0 := blk_frozen BK633.out 0
     have hfz22_1 := blk_frozen BK633.out 1
     go_wp2_with (first | ((with_reducible refine gate_callee (f := 22) rfl ?_); refine goesL_ (some 38) rfl rfl Tryd.func22 (by kernel_rfl) rfl #[.agg #[.string a0_0, .slice A0_1 l0_1.length c0_1], .string a1] rfl (by (try simp only [List.map_toArray, List.map_cons, List.map_nil]); first | done | rfl | (simp only [List.length_drop, List.length_take]; rfl)) ?_; (with_reducible refine (priceofficeref06_Leaves.calls k1 a0_0 _ _ l0_1 a1 t638 _ ?side1 ?side2 A21.out).mono ?_); (case side1 => repeat (first | exact (Kd.C_below HR0_1.out HB.out) | (with_reducible refine Kd.C_alloc ?_ _) | (with_reducible refine Kd.C_drewN ?_ _) | (with_reducible refine Kd.C_drew ?_))); (case side2 => exact HC0_1.out); rintro e w23 ⟨v639, rfl, ho0, hb⟩; refine ⟨_, rfl, ?_⟩; have n0_ := mk0 (Kd.R_lower ho0 (below_size (by repeat (first | (with_reducible first | exact HB.out | apply b_a | apply b_n | apply b_d | refine below_set ?_ GE633.out) | exact HB.out)))); have n1_ := mk0 (blk_below (g := gb633) (o := .cells #[.string a0_0, .slice A0_1 l0_1.length c0_1] 28 (0, 0)) (by (with_reducible repeat (first | refine blk_drewN ?_ _ | refine blk_drew ?_ | refine blk_alloc ?_ _)); exact BK633.out) hb); have n2_ := mk0 (below_step (by repeat (first | (with_reducible first | exact HB.out | apply b_a | apply b_n | apply b_d | refine below_set ?_ GE633.out) | exact HB.out)) hb); clear BK633; clear HB; have HO640 := n0_; have BK633 := n1_; have HB := n2_; clear n0_ n1_ n2_; (try clear hb); (try clear hb2); (try clear hk); (try clear hi); (try clear ho0); obtain ⟨Ao24, co24, eo24⟩ := Kd.R_slice HO640.out; subst eo24))
     go_loopg [40] k1 (fun kq v40 w' => ∃ (x40_2 : Int), v40 = .int .i64 x40_2 ∧ Aside0 (priceofficeref06_Cover.l1 kq l2 t638 (t638.length : Int) x40_2 = some r) ∧ Aside0 (kq ≤ k1) ∧ Aside0 (Kd.R Kd.string 9 w' w.heap.size (fun _ => True) (.slice Ao24 t638.length co24) t638) ∧ Aside0 (w'.heap[gb633]? = some (.cells #[.string a0_0, (.slice A0_1 l0_1.length c0_1)] 28 (0, 0))) ∧ Aside0 (Below w.heap.size w w'))
     case atStart => exact ⟨(0), (by first | rfl | (simp; done) | (simp [*]; done)), H', ⟨Nat.le_refl _⟩, ⟨by (with_reducible repeat (first | apply r_a | apply r_n | apply r_d)); exact HO640.out⟩, ⟨by (with_reducible repeat (first | refine blk_drewN ?_ _ | refine blk_drew ?_ | refine blk_alloc ?_ _)); exact BK633.out⟩, ⟨by repeat (first | (with_reducible first | exact HB.out | apply b_a | apply b_n | apply b_d | refine below_set ?_ GE633.out) | exact HB.out)⟩⟩
     case round =>
      clear H'
      try clear c1
      try clear c2
      try clear p2
      try clear c5
      try clear p6
      try clear q6
      try clear hx6
      try clear c9
      try clear c9b0
      try clear c10
      try clear c10b0
      try clear c11
      try clear c11b0
      try clear c13
      try clear c15
      try clear c21
      try clear c22
      try clear hcz16_0
      try clear hcz16_1
      try clear hcz18_0
      try clear hcz18_1
      try clear hcz20_0
      try clear hcz20_1
      try clear hcz22_0
      try clear hcz22_1
      try clear hcz7_0
      try clear hcz7_1
      try clear hfz16_0
      try clear hfz16_1
      try clear hfz18_0
      try clear hfz18_1
      try clear hfz20_0
      try clear hfz20_1
      try clear hfz22_0
      try clear hfz22_1
      try clear hfz7_0
      try clear hfz7_1
      try clear hx635_0
      try clear p2
      try clear p635
      try clear q635
      obtain ⟨x40_2, rfl, HA, HK2, HO_38, BK633, HB⟩ := hrel
      cases gk with
      | zero => exact absurd HA.out (by simp [priceofficeref06_Cover.l1])
      | succ k2 =>
       have H := HA.out
       clear HA
       simp only [priceofficeref06_Cover.l1] at H
       by_cases c25 : x40_2 < (t638.length : Int)
       ·rw [if_pos c25] at H
        have c25b0 : decide (x40_2 < (t638.length : Int)) = true := decide_eq_true c25
        clear c25
        by_cases c26 : 0 ≤ x40_2
        ·rw [if_pos c26] at H
         have c26b0 : decide (0 ≤ x40_2) = true := decide_eq_true c26
         clear c26
         by_cases c27 : x40_2 < (t638.length : Int)
         ·rw [if_pos c27] at H
          have c27b0 : decide (x40_2 < (t638.length : Int)) = true := decide_eq_true c27
          clear c27
          have H' := mk0 H
          clear H
          have p641 : 0 ≤ (x40_2 : Int) := of_decide_eq_true (by first | (with_reducible assumption) | assumption)
          have q641 : x40_2 < (t638.length : Int) := of_decide_eq_true (by first | (with_reducible assumption) | assumption)
          obtain ⟨ad641, e641, hx641_0⟩ := Kd.at_string (Kd.R_reads' HO_38.out).2.2 x40_2 p641 q641
          cases e641
          replace p641 := eq_true p641
          replace q641 := eq_true q641
          go_wp2
          go_loopg [11, 46] k2 (fun kq v11 v46 w' => ∃ (x11_3 : Int) (x46_3 : Int), v11 = .int .i64 x11_3 ∧ v46 = .int .i64 x46_3 ∧ Aside0 (priceofficeref06_Cover.l2 kq l2 (rdOf ByteArray.empty t638 x40_2) x11_3 t638 (t638.length : Int) x40_2 l2 (l2.length : Int) x46_3 = some r) ∧ Aside0 (kq ≤ k2) ∧ Aside0 (Kd.R Kd.string 9 w' w.heap.size (fun _ => True) (.slice (some ad641) t638.length co24) t638) ∧ Aside0 (w'.heap[gb633]? = some (.cells #[.string a0_0, (.slice A0_1 l0_1.length c0_1)] 28 (0, 0))) ∧ Aside0 (Below w.heap.size w w'))
          case atStart => exact ⟨(0), (0), (by first | rfl | (simp; done) | (simp [*]; done)), (by first | rfl | (simp; done) | (simp [*]; done)), H', ⟨Nat.le_refl _⟩, ⟨by (with_reducible repeat (first | apply r_a | apply r_n | apply r_d)); exact HO_38.out⟩, ⟨by (with_reducible repeat (first | refine blk_drewN ?_ _ | refine blk_drew ?_ | refine blk_alloc ?_ _)); exact BK633.out⟩, ⟨by repeat (first | (with_reducible first | exact HB.out | apply b_a | apply b_n | apply b_d | refine below_set ?_ GE633.out) | exact HB.out)⟩⟩
          case round =>
           clear H'
           try clear c1
           try clear c2
           try clear p2
           try clear c5
           try clear p6
           try clear q6
           try clear hx6
           try clear c9
           try clear c9b0
           try clear c10
           try clear c10b0
           try clear c11
           try clear c11b0
           try clear c13
           try clear c15
           try clear c21
           try clear c22
           try clear c25
           try clear c25b0
           try clear c26
           try clear c26b0
           try clear c27
           try clear c27b0
           try clear hcz16_0
           try clear hcz16_1
           try clear hcz18_0
           try clear hcz18_1
           try clear hcz20_0
           try clear hcz20_1
           try clear hcz22_0
           try clear hcz22_1
           try clear hcz7_0
           try clear hcz7_1
           try clear hfz16_0
           try clear hfz16_1
           try clear hfz18_0
           try clear hfz18_1
           try clear hfz20_0
           try clear hfz20_1
           try clear hfz22_0
           try clear hfz22_1
           try clear hfz7_0
           try clear hfz7_1
           try clear hx635_0
           try clear hx641_0
           try clear p2
           try clear p6
           try clear p635
           try clear p641
           try clear q6
           try clear q635
           try clear q641
           obtain ⟨x11_3, x46_3, rfl, rfl, HA, HK3, HO_38, BK633, HB⟩ := hrel
           cases gk with
           | zero => exact absurd HA.out (by simp [priceofficeref06_Cover.l2])
           | succ k3 =>
            have H := HA.out
            clear HA
            simp only [priceofficeref06_Cover.l2] at H
            by_cases c28 : x46_3 < (l2.length : Int)
            ·rw [if_pos c28] at H
             have c28b0 : decide (x46_3 < (l2.length : Int)) = true := decide_eq_true c28
             clear c28
             by_cases c29 : 0 ≤ x46_3
             ·rw [if_pos c29] at H
              have c29b0 : decide (0 ≤ x46_3) = true := decide_eq_true c29
              clear c29
              by_cases c30 : x46_3 < (l2.length : Int)
              ·rw [if_pos c30] at H
               have c30b0 : decide (x46_3 < (l2.length : Int)) = true := decide_eq_true c30
               clear c30
               replace H := Option.bind_eq_some_iff.mp H
               obtain ⟨t643, A310, H⟩ := H
               replace H : (if t643 = true then (priceofficeref06_Cover.l2 k3 l2 (rdOf ByteArray.empty t638 x40_2) (wrap64 (x11_3 + 1)) t638 (t638.length : Int) x40_2 l2 (l2.length : Int) (wrap64 (x46_3 + 1))) else (priceofficeref06_Cover.l2 k3 l2 (rdOf ByteArray.empty t638 x40_2) x11_3 t638 (t638.length : Int) x40_2 l2 (l2.length : Int) (wrap64 (x46_3 + 1)))) = some r := H
               have A31 := mk0 A310
               clear A310
               by_cases c32 : t643 = true
               ·subst c32
                have H1 : (priceofficeref06_Cover.l2 k3 l2 (rdOf ByteArray.empty t638 x40_2) (wrap64 (x11_3 + 1)) t638 (t638.length : Int) x40_2 l2 (l2.length : Int) (wrap64 (x46_3 + 1))) = some r := by rw [if_pos rfl] at H; exact H
                clear H
                have H := H1
                clear H1
                have H' := mk0 H
                clear H
                have p642 : 0 ≤ (x46_3 : Int) := of_decide_eq_true (by first | (with_reducible assumption) | assumption)
                have q642 : x46_3 < (l2.length : Int) := of_decide_eq_true (by first | (with_reducible assumption) | assumption)
                obtain ⟨ad642, e642, hx642_0⟩ := Kd.at_string HR2.out x46_3 p642 q642
                cases e642
                replace hx642_0 := (HB.out.cell (World.block_lt_of_cell? w _ hx642_0)).trans hx642_0
                replace p642 := eq_true p642
                replace q642 := eq_true q642
                go_wp2_with (first | ((with_reducible refine gate_callee (f := 43) rfl ?_); refine goesL_ (some 52) rfl rfl Tryd.func43 (by kernel_rfl) rfl #[.string (rdOf ByteArray.empty t638 x40_2), .string (rdOf ByteArray.empty l2 x46_3)] rfl (by (try simp only [List.map_toArray, List.map_cons, List.map_nil]); first | done | rfl | (simp only [List.length_drop, List.length_take]; rfl)) ?_; (with_reducible refine (priceofficeref06_Within.calls k3 (rdOf ByteArray.empty t638 x40_2) (rdOf ByteArray.empty l2 x46_3) true _ A31.out).mono ?_); rintro e w33 ⟨rfl, hb⟩; refine ⟨_, rfl, ?_⟩; have n0_ := mk0 (Kd.R_below (by (with_reducible repeat (first | apply r_a | apply r_n | apply r_d)); exact HO_38.out) hb); have n1_ := mk0 (blk_below (g := gb633) (o := .cells #[.string a0_0, .slice A0_1 l0_1.length c0_1] 28 (0, 0)) (by (with_reducible repeat (first | refine blk_drewN ?_ _ | refine blk_drew ?_ | refine blk_alloc ?_ _)); exact BK633.out) hb); have n2_ := mk0 (below_step (by repeat (first | (with_reducible first | exact HB.out | apply b_a | apply b_n | apply b_d | refine below_set ?_ GE633.out) | exact HB.out)) hb); clear HO_38; clear BK633; clear HB; have HO_38 := n0_; have BK633 := n1_; have HB := n2_; clear n0_ n1_ n2_; (try clear hb); (try clear hb2); (try clear hk); (try clear hi)))
                go_roundg k3
                case measure => have := HK1.out; have := HK2.out; have := HK3.out; omega
                case rel => exact ⟨(wrap64 (x11_3 + 1)), (wrap64 (x46_3 + 1)), (by first | rfl | (simp; done) | (simp [*]; done)), (by first | rfl | (simp; done) | (simp [*]; done)), H', ⟨by have := HK1.out; have := HK2.out; have := HK3.out; omega⟩, ⟨by (with_reducible repeat (first | apply r_a | apply r_n | apply r_d)); exact HO_38.out⟩, ⟨by (with_reducible repeat (first | refine blk_drewN ?_ _ | refine blk_drew ?_ | refine blk_alloc ?_ _)); exact BK633.out⟩, ⟨by repeat (first | (with_reducible first | exact HB.out | apply b_a | apply b_n | apply b_d | refine below_set ?_ GE633.out) | exact HB.out)⟩⟩
               ·replace c32 := Bool.eq_false_iff.mpr c32
                subst c32
                have H1 : (priceofficeref06_Cover.l2 k3 l2 (rdOf ByteArray.empty t638 x40_2) x11_3 t638 (t638.length : Int) x40_2 l2 (l2.length : Int) (wrap64 (x46_3 + 1))) = some r := by rw [if_neg (show ¬ (false = true) by decide)] at H; exact H
                clear H
                have H := H1
                clear H1
                have H' := mk0 H
                clear H
                have p642 : 0 ≤ (x46_3 : Int) := of_decide_eq_true (by first | (with_reducible assumption) | assumption)
                have q642 : x46_3 < (l2.length : Int) := of_decide_eq_true (by first | (with_reducible assumption) | assumption)
                obtain ⟨ad642, e642, hx642_0⟩ := Kd.at_string HR2.out x46_3 p642 q642
                cases e642
                replace hx642_0 := (HB.out.cell (World.block_lt_of_cell? w _ hx642_0)).trans hx642_0
                replace p642 := eq_true p642
                replace q642 := eq_true q642
                go_wp2_with (first | ((with_reducible refine gate_callee (f := 43) rfl ?_); refine goesL_ (some 52) rfl rfl Tryd.func43 (by kernel_rfl) rfl #[.string (rdOf ByteArray.empty t638 x40_2), .string (rdOf ByteArray.empty l2 x46_3)] rfl (by (try simp only [List.map_toArray, List.map_cons, List.map_nil]); first | done | rfl | (simp only [List.length_drop, List.length_take]; rfl)) ?_; (with_reducible refine (priceofficeref06_Within.calls k3 (rdOf ByteArray.empty t638 x40_2) (rdOf ByteArray.empty l2 x46_3) false _ A31.out).mono ?_); rintro e w34 ⟨rfl, hb⟩; refine ⟨_, rfl, ?_⟩; have n0_ := mk0 (Kd.R_below (by (with_reducible repeat (first | apply r_a | apply r_n | apply r_d)); exact HO_38.out) hb); have n1_ := mk0 (blk_below (g := gb633) (o := .cells #[.string a0_0, .slice A0_1 l0_1.length c0_1] 28 (0, 0)) (by (with_reducible repeat (first | refine blk_drewN ?_ _ | refine blk_drew ?_ | refine blk_alloc ?_ _)); exact BK633.out) hb); have n2_ := mk0 (below_step (by repeat (first | (with_reducible first | exact HB.out | apply b_a | apply b_n | apply b_d | refine below_set ?_ GE633.out) | exact HB.out)) hb); clear HO_38; clear BK633; clear HB; have HO_38 := n0_; have BK633 := n1_; have HB := n2_; clear n0_ n1_ n2_; (try clear hb); (try clear hb2); (try clear hk); (try clear hi)))
                go_roundg k3
                case measure => have := HK1.out; have := HK2.out; have := HK3.out; omega
                case rel => exact ⟨(x11_3), (wrap64 (x46_3 + 1)), (by first | rfl | (simp; done) | (simp [*]; done)), (by first | rfl | (simp; done) | (simp [*]; done)), H', ⟨by have := HK1.out; have := HK2.out; have := HK3.out; omega⟩, ⟨by (with_reducible repeat (first | apply r_a | apply r_n | apply r_d)); exact HO_38.out⟩, ⟨by (with_reducible repeat (first | refine blk_drewN ?_ _ | refine blk_drew ?_ | refine blk_alloc ?_ _)); exact BK633.out⟩, ⟨by repeat (first | (with_reducible first | exact HB.out | apply b_a | apply b_n | apply b_d | refine below_set ?_ GE633.out) | exact HB.out)⟩⟩
              ·rw [if_neg c30] at H
               exact absurd H (by simp)
             ·rw [if_neg c29] at H
              exact absurd H (by simp)
            ·rw [if_neg c28] at H
             have c28b0 : decide (x46_3 < (l2.length : Int)) = false := decide_eq_false c28
             clear c28
             by_cases c35 : x11_3 = 1
             ·rw [if_pos c35] at H
              have c35b0 : (x11_3 == 1) = true := beq_iff_eq.mpr c35
              have c35b1 : (x11_3 != 1) = false := bne_eq_false_iff_eq.mpr c35
              clear c35
              have H' := mk0 H
              clear H
              go_wp2
              go_roundg k3
              case measure => have := HK1.out; have := HK2.out; have := HK3.out; omega
              case rel => exact ⟨(wrap64 (x40_2 + 1)), (by first | rfl | (simp; done) | (simp [*]; done)), H', ⟨by have := HK1.out; have := HK2.out; have := HK3.out; omega⟩, ⟨by (with_reducible repeat (first | apply r_a | apply r_n | apply r_d)); exact HO_38.out⟩, ⟨by (with_reducible repeat (first | refine blk_drewN ?_ _ | refine blk_drew ?_ | refine blk_alloc ?_ _)); exact BK633.out⟩, ⟨by repeat (first | (with_reducible first | exact HB.out | apply b_a | apply b_n | apply b_d | refine below_set ?_ GE633.out) | exact HB.out)⟩⟩
             ·rw [if_neg c35] at H
              have c35b0 : (x11_3 == 1) = false := beq_eq_false_iff_ne.mpr c35
              have c35b1 : (x11_3 != 1) = true := bne_iff_ne.mpr c35
              obtain rfl := Option.some.inj H
              go_wp2
              go_ret
              exact ⟨by first | rfl | (simp [errW_none, errW_some] <;> rfl) | (simp [*, errW_none, errW_some] <;> rfl), by repeat (first | (with_reducible first | exact HB.out | apply b_a | apply b_n | apply b_d | refine below_set ?_ GE633.out) | exact HB.out)⟩
         ·rw [if_neg c27] at H
          exact absurd H (by simp)
        ·rw [if_neg c26] at H
         exact absurd H (by simp)
       ·rw [if_neg c25] at H
        have c25b0 : decide (x40_2 < (t638.length : Int)) = false := decide_eq_false c25
        clear c25
        obtain rfl := Option.some.inj H
        go_wp2
        go_ret
        exact ⟨by first | rfl | (simp [errW_none, errW_some] <;> rfl) | (simp [*, errW_none, errW_some] <;> rfl), by repeat (first | (with_reducible first | exact HB.out | apply b_a | apply b_n | apply b_d | refine below_set ?_ GE633.out) | exact HB.out)⟩
 ·replace c5 := Bool.eq_false_iff.mpr c5
  subst c5
  have H1 : (some false) = some r := by rw [if_neg (show ¬ (false = true) by decide)] at H; exact H
  clear H
  have H := H1
  clear H1
  obtain rfl := Option.some.inj H
  go_enter Tryd.func21, Tryd.ntmps21
  go_wp2_with (first | ((with_reducible refine gate_dst (N := 3) rfl ?_); refine box_event ?hg (N := 3) ?hd (cs := #[.string a0_0, .slice A0_1 l0_1.length c0_1]) (t := 28) ?hr ?_; (case hd => rfl); (case hg => rfl); (case hr => first | (go_simp; done) | (go_simp; rfl)); intro gb633 hg w36 hbox hb; have n0_ := mk0 (below_step (by repeat (first | (with_reducible first | exact HB.out | apply b_a | apply b_n | apply b_d) | exact HB.out)) hb); have n1_ := mk0 (hbox); have n2_ := mk0 ((by rw [hg]; exact (below_size (by repeat (first | (with_reducible first | exact HB.out | apply b_a | apply b_n | apply b_d) | exact HB.out))) : w.heap.size ≤ gb633)); have n3_ := mk0 ((by rw [hg]; exact (below_size (by repeat (first | (with_reducible first | exact HB.out | apply b_a | apply b_n | apply b_d) | exact HB.out))) : w.heap.size ≤ gb633)); clear HB; have HB := n0_; have BK633 := n1_; have GW633 := n2_; have GE633 := n3_; clear n0_ n1_ n2_ n3_; clear hb hbox hg; have hcz37_0 : w36.cell? ⟨gb633, 0, none⟩ = some (.string a0_0) := (blk_cell BK633.out 0).trans rfl; have hcz37_1 : w36.cell? ⟨gb633, 1, none⟩ = some (.slice A0_1 l0_1.length c0_1) := (blk_cell BK633.out 1).trans rfl; have hfz37_0 := blk_frozen BK633.out 0; have hfz37_1 := blk_frozen BK633.out 1) | ((with_reducible refine gate_callee (f := 51) rfl ?_); refine goesL_ (some 16) rfl rfl Tryd.func51 (by kernel_rfl) rfl #[.agg #[.string a0_0, .slice A0_1 l0_1.length c0_1], .string a1] rfl (by (try simp only [List.map_toArray, List.map_cons, List.map_nil]); first | done | rfl | (simp only [List.length_drop, List.length_take]; rfl)) ?_; (with_reducible refine (priceofficeref06_known.calls k a0_0 _ _ l0_1 a1 false _ ?side1 ?side2 A4.out).mono ?_); (case side1 => repeat (first | exact (Kd.C_below HR0_1.out HB.out) | (with_reducible refine Kd.C_alloc ?_ _) | (with_reducible refine Kd.C_drewN ?_ _) | (with_reducible refine Kd.C_drew ?_))); (case side2 => exact HC0_1.out); rintro e w38 ⟨rfl, hb⟩; refine ⟨_, rfl, ?_⟩; have n0_ := mk0 (blk_below (g := gb633) (o := .cells #[.string a0_0, .slice A0_1 l0_1.length c0_1] 28 (0, 0)) (by (with_reducible repeat (first | refine blk_drewN ?_ _ | refine blk_drew ?_ | refine blk_alloc ?_ _)); exact BK633.out) hb); have n1_ := mk0 (below_step (by repeat (first | (with_reducible first | exact HB.out | apply b_a | apply b_n | apply b_d | refine below_set ?_ GE633.out) | exact HB.out)) hb); clear BK633; clear HB; have BK633 := n0_; have HB := n1_; clear n0_ n1_; (try clear hb); (try clear hb2); (try clear hk); (try clear hi)))
  go_ret
  exact ⟨by first | rfl | (simp [errW_none, errW_some] <;> rfl) | (simp [*, errW_none, errW_some] <;> rfl), by repeat (first | (with_reducible first | exact HB.out | apply b_a | apply b_n | apply b_d | refine below_set ?_ GE633.out) | exact HB.out)⟩

end Go.Proofs.YtpnoliognpmkmaaDoor.P
