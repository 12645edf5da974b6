/- Lean functions with the same answers as the program's Go functions, and for each the proof that the call comes to these answers; written by a program of mine out of the translation, the functions marked 'by hand' by me. -/
import Derived.Test.YtpnoliognpmkmaaDoorP0
import Derived.Test.YtpnoliognpmkmaaDoorP11
import Derived.Test.YtpnoliognpmkmaaDoorP31
namespace Go.Proofs.YtpnoliognpmkmaaDoor.P
open Go.RowKit Go.Proofs.YtpnoliognpmkmaaDoorW.PrintWords Go.Proofs.YtpnoliognpmkmaaDoorW.PrintLast Go.Proofs.YtpnoliognpmkmaaDoorW.PrintMore
attribute [local go_sem] max2_int min2_int max_two min_two max_three min_three max_four min_four   -- for this text's walks alone
set_option linter.unusedVariables false
set_option linter.unusedSimpArgs false

/-! ### priceofficeref06_Children: function 23 -/
def priceofficeref06_Children.l0 : Nat → ByteArray → List ByteArray → List ByteArray → Int → Int → ByteArray → List ByteArray → Option (List ByteArray)
 | 0, _, _, _, _, _, _, _ => none
 | k + 1, x1, x5, x11, x12, x13, x645000, x645001 => if x13 < x12 then (if 0 ≤ x13 then (if x13 < (x11.length : Int) then ((priceofficeref06_Parent.f k (rdOf ByteArray.empty x11 x13)).bind fun bt646 => ((priceofficeref06_known.f k x645000 x645001 x1).bind fun t648 => (if t648 = true then (if bt646.2 = true then (if bt646.1.toList = x1.toList then (if x5.length < 8796093022208 then (priceofficeref06_Children.l0 k x1 (x5 ++ [rdOf ByteArray.empty x11 x13]) x11 x12 (wrap64 (x13 + 1)) x645000 x645001) else (none)) else (priceofficeref06_Children.l0 k x1 x5 x11 x12 (wrap64 (x13 + 1)) x645000 x645001)) else (priceofficeref06_Children.l0 k x1 x5 x11 x12 (wrap64 (x13 + 1)) x645000 x645001)) else (priceofficeref06_Children.l0 k x1 x5 x11 x12 (wrap64 (x13 + 1)) x645000 x645001)))) else (none)) else (none)) else (some x5)
def priceofficeref06_Children.f (k : Nat) (a0_0 : ByteArray) (l0_1 : List ByteArray) (a1 : ByteArray) : Option (List ByteArray) := priceofficeref06_Children.l0 k a1 ([] : List ByteArray) l0_1 (l0_1.length : Int) 0 a0_0 l0_1
theorem priceofficeref06_Children.mono_l : ∀ k, (∀ y0 y1 y2 y3 y4 y5 y6, LeO (priceofficeref06_Children.l0 k y0 y1 y2 y3 y4 y5 y6) (priceofficeref06_Children.l0 (k + 1) y0 y1 y2 y3 y4 y5 y6))
 | 0 => fun _ _ _ _ _ _ _ r h => by simp [priceofficeref06_Children.l0] at h
 | k + 1 => by
  have ih0 := priceofficeref06_Children.mono_l k
  ·intro y0 y1 y2 y3 y4 y5 y6
   unfold priceofficeref06_Children.l0
   repeat' first
   | (with_reducible exact ih0 _ _ _ _ _ _ _)
   | (with_reducible exact priceofficeref06_Parent.mono _ _)
   | (with_reducible exact priceofficeref06_known.mono _ _ _ _)
   | (with_reducible exact LeO.refl _)
   | (with_reducible exact LeO.none _)
   | (with_reducible refine LeO.ite ?_ ?_)
   | (with_reducible refine LeO.bind ?_ (fun _ => ?_))
   | exact ih0 _ _ _ _ _ _ _
   | exact priceofficeref06_Parent.mono _ _
   | exact priceofficeref06_known.mono _ _ _ _
   | exact LeO.none _
   | refine LeO.ite ?_ ?_
   | refine LeO.bind ?_ (fun _ => ?_)
theorem priceofficeref06_Children.mono : ∀ a0 a1 a2 k, LeO (priceofficeref06_Children.f k a0 a1 a2) (priceofficeref06_Children.f (k + 1) a0 a1 a2) := by
 intro a0 a1 a2 k
 have ih0 := priceofficeref06_Children.mono_l k
 unfold priceofficeref06_Children.f
 repeat' first
   | (with_reducible exact ih0 _ _ _ _ _ _ _)
   | (with_reducible exact priceofficeref06_Parent.mono _ _)
   | (with_reducible exact priceofficeref06_known.mono _ _ _ _)
   | (with_reducible exact LeO.refl _)
   | (with_reducible exact LeO.none _)
   | (with_reducible refine LeO.ite ?_ ?_)
   | (with_reducible refine LeO.bind ?_ (fun _ => ?_))
   | exact ih0 _ _ _ _ _ _ _
   | exact priceofficeref06_Parent.mono _ _
   | exact priceofficeref06_known.mono _ _ _ _
   | exact LeO.none _
   | refine LeO.ite ?_ ?_
   | refine LeO.bind ?_ (fun _ => ?_)
set_option maxHeartbeats 8000000 in
set_option maxRecDepth 100000 in
theorem priceofficeref06_Children.calls (k : Nat) (a0_0 : ByteArray) (A0_1 : Option Addr) (c0_1 : Nat) (l0_1 : List ByteArray) (a1 : ByteArray) (r : List ByteArray) (w : World) (hr0_1 : Kd.C Kd.string w A0_1 l0_1.length l0_1) (hc0_1 : l0_1.length ≤ c0_1) (h : priceofficeref06_Children.f k a0_0 l0_1 a1 = some r) :
  Calls Tryd.prog 23 #[.agg #[.string a0_0, .slice A0_1 l0_1.length c0_1], .string a1] w fun e w' => ∃ v0_ : Value, e = .returned (v0_) ∧ Kd.R Kd.string 9 w' w.heap.size (fun _ => True) v0_ r ∧ Below w.heap.size w w' := by
 have hu28 := Tryd.underlying28
 have HR0_1 := mk0 hr0_1
 have HC0_1 := mk0 hc0_1
 clear hr0_1 hc0_1
 have HB := mk0 (Below.refl w.heap.size w)
 have H : (priceofficeref06_Children.l0 k a1 ([] : List ByteArray) l0_1 (l0_1.length : Int) 0 a0_0 l0_1) = some r := h
 clear h
 have H' := mk0 H
 clear H
 go_enter Tryd.func23, Tryd.ntmps23
 go_wp2_with (first | ((with_reducible refine gate_dst (N := 2) rfl ?_); refine box_event ?hg (N := 2) ?hd (cs := #[.string a0_0, .slice A0_1 l0_1.length c0_1]) (t := 28) ?hr ?_; (case hd => rfl); (case hg => rfl); (case hr => first | (go_simp; done) | (go_simp; rfl)); intro gb644 hg w3 hbox hb; have n0_ := mk0 (below_step (by repeat (first | (with_reducible first | exact HB.out | apply b_a | apply b_n | apply b_d) | exact HB.out)) hb); have n1_ := mk0 (hbox); have n2_ := mk0 ((by rw [hg]; exact (below_size (by repeat (first | (with_reducible first | exact HB.out | apply b_a | apply b_n | apply b_d) | exact HB.out))) : w.heap.size ≤ gb644)); have n3_ := mk0 ((by rw [hg]; exact (below_size (by repeat (first | (with_reducible first | exact HB.out | apply b_a | apply b_n | apply b_d) | exact HB.out))) : w.heap.size ≤ gb644)); clear HB; have HB := n0_; have BK644 := n1_; have GW644 := n2_; have GE644 := n3_; clear n0_ n1_ n2_ n3_; clear hb hbox hg; have hcz4_0 : w3.cell? ⟨gb644, 0, none⟩ = some (.string a0_0) := (blk_cell BK644.out 0).trans rfl; have hcz4_1 : w3.cell? ⟨gb644, 1, none⟩ = some (.slice A0_1 l0_1.length c0_1) := (blk_cell BK644.out 1).trans rfl; have hfz4_0 := blk_frozen BK644.out 0; have hfz4_1 := blk_frozen BK644.out 1))
 go_loopg [5, 13] k (fun kq v5 v13 w' => ∃ (x5_1 : List ByteArray) (x13_1 : Int), v13 = .int .i64 x13_1 ∧ Aside0 (priceofficeref06_Children.l0 kq a1 x5_1 l0_1 (l0_1.length : Int) x13_1 a0_0 l0_1 = some r) ∧ Aside0 (kq ≤ k) ∧ Aside0 (Kd.R Kd.string 9 w' w.heap.size (fun _ => True) v5 x5_1) ∧ Aside0 (w'.heap[gb644]? = some (.cells #[.string a0_0, (.slice A0_1 l0_1.length c0_1)] 28 (0, 0))) ∧ Aside0 (Below w.heap.size w w'))
 case atStart => exact ⟨(([] : List ByteArray)), (0), (by first | rfl | (simp; done) | (simp [*]; done)), H', ⟨Nat.le_refl _⟩, ⟨by first | exact Kd.R_nil _ _ _ _ _ | exact Kd.N_nil _ _ _ _ _ | exact Kd.V_nil _ _ _ _ _ | exact Kd.Q_nil _ _ _ _ _ | exact Kd.S_nil _ _ _ _ _⟩, ⟨by (with_reducible repeat (first | refine blk_drewN ?_ _ | refine blk_drew ?_ | refine blk_alloc ?_ _)); exact BK644.out⟩, ⟨by repeat (first | (with_reducible first | exact HB.out | apply b_a | apply b_n | apply b_d | refine below_set ?_ GE644.out) | exact HB.out)⟩⟩
 case round =>
  clear H'
  try clear c2
  try clear p2
  try clear hcz4_0
  try clear hcz4_1
  try clear hfz4_0
  try clear hfz4_1
  obtain ⟨x5_1, x13_1, rfl, HA, HK1, HO_5, BK644, HB⟩ := hrel
  cases gk with
  | zero => exact absurd HA.out (by simp [priceofficeref06_Children.l0])
  | succ k1 =>
   have H := HA.out
   clear HA
   simp only [priceofficeref06_Children.l0] at H
   by_cases c5 : x13_1 < (l0_1.length : Int)
   ·rw [if_pos c5] at H
    have c5b0 : decide (x13_1 < (l0_1.length : Int)) = true := decide_eq_true c5
    clear c5
    by_cases c6 : 0 ≤ x13_1
    ·rw [if_pos c6] at H
     have c6b0 : decide (0 ≤ x13_1) = true := decide_eq_true c6
     clear c6
     by_cases c7 : x13_1 < (l0_1.length : Int)
     ·rw [if_pos c7] at H
      have c7b0 : decide (x13_1 < (l0_1.length : Int)) = true := decide_eq_true c7
      clear c7
      replace H := Option.bind_eq_some_iff.mp H
      obtain ⟨⟨t646, t647⟩, A80, H⟩ := H
      replace H : ((priceofficeref06_known.f k1 a0_0 l0_1 a1).bind fun t648 => (if t648 = true then (if t647 = true then (if t646.toList = a1.toList then (if x5_1.length < 8796093022208 then (priceofficeref06_Children.l0 k1 a1 (x5_1 ++ [rdOf ByteArray.empty l0_1 x13_1]) l0_1 (l0_1.length : Int) (wrap64 (x13_1 + 1)) a0_0 l0_1) else (none)) else (priceofficeref06_Children.l0 k1 a1 x5_1 l0_1 (l0_1.length : Int) (wrap64 (x13_1 + 1)) a0_0 l0_1)) else (priceofficeref06_Children.l0 k1 a1 x5_1 l0_1 (l0_1.length : Int) (wrap64 (x13_1 + 1)) a0_0 l0_1)) else (priceofficeref06_Children.l0 k1 a1 x5_1 l0_1 (l0_1.length : Int) (wrap64 (x13_1 + 1)) a0_0 l0_1))) = some r := H
      have A8 := mk0 A80
      clear A80
      replace H := Option.bind_eq_some_iff.mp H
      obtain ⟨t648, A90, H⟩ := H
      replace H : (if t648 = true then (if t647 = true then (if t646.toList = a1.toList then (if x5_1.length < 8796093022208 then (priceofficeref06_Children.l0 k1 a1 (x5_1 ++ [rdOf ByteArray.empty l0_1 x13_1]) l0_1 (l0_1.length : Int) (wrap64 (x13_1 + 1)) a0_0 l0_1) else (none)) else (priceofficeref06_Children.l0 k1 a1 x5_1 l0_1 (l0_1.length : Int) (wrap64 (x13_1 + 1)) a0_0 l0_1)) else (priceofficeref06_Children.l0 k1 a1 x5_1 l0_1 (l0_1.length : Int) (wrap64 (x13_1 + 1)) a0_0 l0_1)) else (priceofficeref06_Children.l0 k1 a1 x5_1 l0_1 (l0_1.length : Int) (wrap64 (x13_1 + 1)) a0_0 l0_1)) = some r := H
      have A9 := mk0 A90
      clear A90
      by_cases c10 : t648 = true
      ·subst c10
       have H1 : (if t647 = true then (if t646.toList = a1.toList then (if x5_1.length < 8796093022208 then (priceofficeref06_Children.l0 k1 a1 (x5_1 ++ [rdOf ByteArray.empty l0_1 x13_1]) l0_1 (l0_1.length : Int) (wrap64 (x13_1 + 1)) a0_0 l0_1) else (none)) else (priceofficeref06_Children.l0 k1 a1 x5_1 l0_1 (l0_1.length : Int) (wrap64 (x13_1 + 1)) a0_0 l0_1)) else (priceofficeref06_Children.l0 k1 a1 x5_1 l0_1 (l0_1.length : Int) (wrap64 (x13_1 + 1)) a0_0 l0_1)) = some r := by rw [if_pos rfl] at H; exact H
       clear H
       have H := H1
       clear H1
       by_cases c11 : t647 = true
       ·subst c11
        have H1 : (if t646.toList = a1.toList then (if x5_1.length < 8796093022208 then (priceofficeref06_Children.l0 k1 a1 (x5_1 ++ [rdOf ByteArray.empty l0_1 x13_1]) l0_1 (l0_1.length : Int) (wrap64 (x13_1 + 1)) a0_0 l0_1) else (none)) else (priceofficeref06_Children.l0 k1 a1 x5_1 l0_1 (l0_1.length : Int) (wrap64 (x13_1 + 1)) a0_0 l0_1)) = some r := by rw [if_pos rfl] at H; exact H
        clear H
        have H := H1
        clear H1
        by_cases c12 : t646.toList = a1.toList
        ·rw [if_pos c12] at H
         have c12b0 : (t646.toList == a1.toList) = true := beq_iff_eq.mpr c12
         have c12b1 : (t646.toList != a1.toList) = false := bne_eq_false_iff_eq.mpr c12
         clear c12
         by_cases c13 : x5_1.length < 8796093022208
         ·rw [if_pos c13] at H
          have LMc13 := mk0 c13
          clear c13
          obtain ⟨y649, hy649⟩ : ∃ y_ : List ByteArray, y_ = (x5_1 ++ [rdOf ByteArray.empty l0_1 x13_1]) := ⟨_, rfl⟩
          replace H : (priceofficeref06_Children.l0 k1 a1 y649 l0_1 (l0_1.length : Int) (wrap64 (x13_1 + 1)) a0_0 l0_1) = some r := by first | (rw [hy649]; with_reducible exact H) | (have H2_ := (Option.bind_some _ _).symm.trans H; rw [hy649]; with_reducible exact H2_) | (have H2_ := (Option.bind_some _ _).symm.trans H; with_reducible exact H2_) | with_reducible exact H | (rw [hy649]; exact H) | exact H
          have Ny649 := mk0 hy649
          clear hy649
          have H' := mk0 H
          clear H
          have p645 : 0 ≤ (x13_1 : Int) := of_decide_eq_true (by first | (with_reducible assumption) | assumption)
          have q645 : x13_1 < (l0_1.length : Int) := of_decide_eq_true (by first | (with_reducible assumption) | assumption)
          obtain ⟨ad645, e645, hx645_0⟩ := Kd.at_string HR0_1.out x13_1 p645 q645
          cases e645
          replace hx645_0 := (HB.out.cell (World.block_lt_of_cell? w _ hx645_0)).trans hx645_0
          replace p645 := eq_true p645
          replace q645 := eq_true q645
          go_wp2_with (first | ((with_reducible refine gate_callee (f := 34) rfl ?_); refine goesL_ (some 19) rfl rfl Tryd.func34 (by kernel_rfl) rfl #[.string (rdOf ByteArray.empty l0_1 x13_1)] rfl (by (try simp only [List.map_toArray, List.map_cons, List.map_nil]); first | done | rfl | (simp only [List.length_drop, List.length_take]; rfl)) ?_; (with_reducible refine (priceofficeref06_Parent.calls k1 (rdOf ByteArray.empty l0_1 x13_1) t646 true _ A8.out).mono ?_); rintro e w14 ⟨rfl, hb⟩; refine ⟨_, rfl, ?_⟩; have n0_ := mk0 (Kd.R_below (by (with_reducible repeat (first | apply r_a | apply r_n | apply r_d)); exact HO_5.out) hb); have n1_ := mk0 (blk_below (g := gb644) (o := .cells #[.string a0_0, .slice (some ad645) l0_1.length c0_1] 28 (0, 0)) (by (with_reducible repeat (first | refine blk_drewN ?_ _ | refine blk_drew ?_ | refine blk_alloc ?_ _)); exact BK644.out) hb); have n2_ := mk0 (below_step (by repeat (first | (with_reducible first | exact HB.out | apply b_a | apply b_n | apply b_d | refine below_set ?_ GE644.out) | exact HB.out)) hb); clear HO_5; clear BK644; clear HB; have HO_5 := n0_; have BK644 := n1_; have HB := n2_; clear n0_ n1_ n2_; (try clear hb); (try clear hb2); (try clear hk); (try clear hi); have hcz15_0 : w14.cell? ⟨gb644, 0, none⟩ = some (.string a0_0) := (blk_cell BK644.out 0).trans rfl; have hcz15_1 : w14.cell? ⟨gb644, 1, none⟩ = some (.slice (some ad645) l0_1.length c0_1) := (blk_cell BK644.out 1).trans rfl; have hfz15_0 := blk_frozen BK644.out 0; have hfz15_1 := blk_frozen BK644.out 1) | ((with_reducible refine gate_callee (f := 51) rfl ?_); refine goesL_ (some 24) rfl rfl Tryd.func51 (by kernel_rfl) rfl #[.agg #[.string a0_0, .slice (some ad645) l0_1.length c0_1], .string a1] rfl (by (try simp only [List.map_toArray, List.map_cons, List.map_nil]); first | done | rfl | (simp only [List.length_drop, List.length_take]; rfl)) ?_; (with_reducible refine (priceofficeref06_known.calls k1 a0_0 _ _ l0_1 a1 true _ ?side1 ?side2 A9.out).mono ?_); (case side1 => repeat (first | exact (Kd.C_below HR0_1.out HB.out) | (with_reducible refine Kd.C_alloc ?_ _) | (with_reducible refine Kd.C_drewN ?_ _) | (with_reducible refine Kd.C_drew ?_))); (case side2 => exact HC0_1.out); rintro e w16 ⟨rfl, hb⟩; refine ⟨_, rfl, ?_⟩; have n0_ := mk0 (Kd.R_below (by (with_reducible repeat (first | apply r_a | apply r_n | apply r_d)); exact HO_5.out) hb); have n1_ := mk0 (blk_below (g := gb644) (o := .cells #[.string a0_0, .slice (some ad645) l0_1.length c0_1] 28 (0, 0)) (by (with_reducible repeat (first | refine blk_drewN ?_ _ | refine blk_drew ?_ | refine blk_alloc ?_ _)); exact BK644.out) hb); have n2_ := mk0 (below_step (by repeat (first | (with_reducible first | exact HB.out | apply b_a | apply b_n | apply b_d | refine below_set ?_ GE644.out) | exact HB.out)) hb); clear HO_5; clear BK644; clear HB; have HO_5 := n0_; have BK644 := n1_; have HB := n2_; clear n0_ n1_ n2_; (try clear hb); (try clear hb2); (try clear hk); (try clear hi)) | ((with_reducible refine gate_builtin (b := .append) (xs := #[.tmp 33, .tmp 35]) rfl ?_); at_builtin; refine Kd.R_append Kd.string (w0 := w) w.heap.size rfl (.tmp 33) (.tmp 35) 26 9 (.string ⟨#[]⟩) 16 rfl Tryd.underlying26 info9 rfl (by decide) (by omega) u5 x5_1 (rdOf ByteArray.empty l0_1 x13_1) [.string (rdOf ByteArray.empty l0_1 x13_1)] (fun _ => True) (fun _ => False) rfl rfl ?aP (fun _ hk => hk.elim) ?aF ?aO ?aB ?aS ?aL ?_; (case aP => exact rfl); (case aB => exact (by repeat (first | (with_reducible first | exact HB.out | apply b_a | apply b_n | apply b_d | refine below_set ?_ GE644.out) | exact HB.out))); (case aF => exact (fun _ _ => trivial)); (case aO => exact (by (with_reducible repeat (first | apply r_a | apply r_n | apply r_d)); exact HO_5.out)); (case aS => exact (below_size (by repeat (first | (with_reducible first | exact HB.out | apply b_a | apply b_n | apply b_d | refine below_set ?_ GE644.out) | exact HB.out)))); (case aL => have := LMc13.out; omega); intro v650 w17 ho hb hg hat; rw [← Ny649.out] at ho; have n0_ := mk0 (blk_grown (g := gb644) (o := .cells #[.string a0_0, .slice (some ad645) l0_1.length c0_1] 28 (0, 0)) (by (with_reducible repeat (first | refine blk_drewN ?_ _ | refine blk_drew ?_ | refine blk_alloc ?_ _)); exact BK644.out) hg (Kd.R_ne HO_5.out BK644.out (by decide))); have n1_ := mk0 (hb); have n2_ := mk0 (ho); clear BK644; clear HB; clear HO_5; have BK644 := n0_; have HB := n1_; have HO651 := n2_; clear n0_ n1_ n2_; clear ho hb hg hat))
          go_roundg k1
          case measure => have := HK1.out; omega
          case rel => exact ⟨(y649), (wrap64 (x13_1 + 1)), (by first | rfl | (simp; done) | (simp [*]; done)), H', ⟨by have := HK1.out; omega⟩, ⟨by (with_reducible repeat (first | apply r_a | apply r_n | apply r_d)); exact HO651.out⟩, ⟨by (with_reducible repeat (first | refine blk_drewN ?_ _ | refine blk_drew ?_ | refine blk_alloc ?_ _)); exact BK644.out⟩, ⟨by repeat (first | (with_reducible first | exact HB.out | apply b_a | apply b_n | apply b_d | refine below_set ?_ GE644.out) | exact HB.out)⟩⟩
         ·rw [if_neg c13] at H
          exact absurd H (by simp)
        ·rw [if_neg c12] at H
         have c12b0 : (t646.toList == a1.toList) = false := beq_eq_false_iff_ne.mpr c12
         have c12b1 : (t646.toList != a1.toList) = true := bne_iff_ne.mpr c12
         have H' := mk0 H
         clear H
         have p645 : 0 ≤ (x13_1 : Int) := of_decide_eq_true (by first | (with_reducible assumption) | assumption)
         have q645 : x13_1 < (l0_1.length : Int) := of_decide_eq_true (by first | (with_reducible assumption) | assumption)
         obtain ⟨ad645, e645, hx645_0⟩ := Kd.at_string HR0_1.out x13_1 p645 q645
         cases e645
         replace hx645_0 := (HB.out.cell (World.block_lt_of_cell? w _ hx645_0)).trans hx645_0
         replace p645 := eq_true p645
         replace q645 := eq_true q645
         go_wp2_with (first | ((with_reducible refine gate_callee (f := 34) rfl ?_); refine goesL_ (some 19) rfl rfl Tryd.func34 (by kernel_rfl) rfl #[.string (rdOf ByteArray.empty l0_1 x13_1)] rfl (by (try simp only [List.map_toArray, List.map_cons, List.map_nil]); first | done | rfl | (simp only [List.length_drop, List.length_take]; rfl)) ?_; (with_reducible refine (priceofficeref06_Parent.calls k1 (rdOf ByteArray.empty l0_1 x13_1) t646 true _ A8.out).mono ?_); rintro e w18 ⟨rfl, hb⟩; refine ⟨_, rfl, ?_⟩; have n0_ := mk0 (Kd.R_below (by (with_reducible repeat (first | apply r_a | apply r_n | apply r_d)); exact HO_5.out) hb); have n1_ := mk0 (blk_below (g := gb644) (o := .cells #[.string a0_0, .slice (some ad645) l0_1.length c0_1] 28 (0, 0)) (by (with_reducible repeat (first | refine blk_drewN ?_ _ | refine blk_drew ?_ | refine blk_alloc ?_ _)); exact BK644.out) hb); have n2_ := mk0 (below_step (by repeat (first | (with_reducible first | exact HB.out | apply b_a | apply b_n | apply b_d | refine below_set ?_ GE644.out) | exact HB.out)) hb); clear HO_5; clear BK644; clear HB; have HO_5 := n0_; have BK644 := n1_; have HB := n2_; clear n0_ n1_ n2_; (try clear hb); (try clear hb2); (try clear hk); (try clear hi); have hcz19_0 : w18.cell? ⟨gb644, 0, none⟩ = some (.string a0_0) := (blk_cell BK644.out 0).trans rfl; have hcz19_1 : w18.cell? ⟨gb644, 1, none⟩ = some (.slice (some ad645) l0_1.length c0_1) := (blk_cell BK644.out 1).trans rfl; have hfz19_0 := blk_frozen BK644.out 0; have hfz19_1 := blk_frozen BK644.out 1) | ((with_reducible refine gate_callee (f := 51) rfl ?_); refine goesL_ (some 24) rfl rfl Tryd.func51 (by kernel_rfl) rfl #[.agg #[.string a0_0, .slice (some ad645) l0_1.length c0_1], .string a1] rfl (by (try simp only [List.map_toArray, List.map_cons, List.map_nil]); first | done | rfl | (simp only [List.length_drop, List.length_take]; rfl)) ?_; (with_reducible refine (priceofficeref06_known.calls k1 a0_0 _ _ l0_1 a1 true _ ?side1 ?side2 A9.out).mono ?_); (case side1 => repeat (first | exact (Kd.C_below HR0_1.out HB.out) | (with_reducible refine Kd.C_alloc ?_ _) | (with_reducible refine Kd.C_drewN ?_ _) | (with_reducible refine Kd.C_drew ?_))); (case side2 => exact HC0_1.out); rintro e w20 ⟨rfl, hb⟩; refine ⟨_, rfl, ?_⟩; have n0_ := mk0 (Kd.R_below (by (with_reducible repeat (first | apply r_a | apply r_n | apply r_d)); exact HO_5.out) hb); have n1_ := mk0 (blk_below (g := gb644) (o := .cells #[.string a0_0, .slice (some ad645) l0_1.length c0_1] 28 (0, 0)) (by (with_reducible repeat (first | refine blk_drewN ?_ _ | refine blk_drew ?_ | refine blk_alloc ?_ _)); exact BK644.out) hb); have n2_ := mk0 (below_step (by repeat (first | (with_reducible first | exact HB.out | apply b_a | apply b_n | apply b_d | refine below_set ?_ GE644.out) | exact HB.out)) hb); clear HO_5; clear BK644; clear HB; have HO_5 := n0_; have BK644 := n1_; have HB := n2_; clear n0_ n1_ n2_; (try clear hb); (try clear hb2); (try clear hk); (try clear hi)))
         go_roundg k1
         case measure => have := HK1.out; omega
         case rel => exact ⟨(x5_1), (wrap64 (x13_1 + 1)), (by first | rfl | (simp; done) | (simp [*]; done)), H', ⟨by have := HK1.out; omega⟩, ⟨by (with_reducible repeat (first | apply r_a | apply r_n | apply r_d)); exact HO_5.out⟩, ⟨by (with_reducible repeat (first | refine blk_drewN ?_ _ | refine blk_drew ?_ | refine blk_alloc ?_ _)); exact BK644.out⟩, ⟨by repeat (first | (with_reducible first | exact HB.out | apply b_a | apply b_n | apply b_d | refine below_set ?_ GE644.out) | exact HB.out)⟩⟩
       ·replace c11 := Bool.eq_false_iff.mpr c11
        subst c11
        have H1 : (priceofficeref06_Children.l0 k1 a1 x5_1 l0_1 (l0_1.length : Int) (wrap64 (x13_1 + 1)) a0_0 l0_1) = some r := by rw [if_neg (show ¬ (false = true) by decide)] at H; exact H
        clear H
        have H := H1
        clear H1
        have H' := mk0 H
        clear H
        have p645 : 0 ≤ (x13_1 : Int) := of_decide_eq_true (by first | (with_reducible assumption) | assumption)
        have q645 : x13_1 < (l0_1.length : Int) := of_decide_eq_true (by first | (with_reducible assumption) | assumption)
        obtain ⟨ad645, e645, hx645_0⟩ := Kd.at_string HR0_1.out x13_1 p645 q645
        cases e645
        replace hx645_0 := (HB.out.cell (World.block_lt_of_cell? w _ hx645_0)).trans hx645_0
        replace p645 := eq_true p645
        replace q645 := eq_true q645
        go_wp2_with (first | ((with_reducible refine gate_callee (f := 34) rfl ?_); refine goesL_ (some 19) rfl rfl Tryd.func34 (by kernel_rfl) rfl #[.string (rdOf ByteArray.empty l0_1 x13_1)] rfl (by (try simp only [List.map_toArray, List.map_cons, List.map_nil]); first | done | rfl | (simp only [List.length_drop, List.length_take]; rfl)) ?_; (with_reducible refine (priceofficeref06_Parent.calls k1 (rdOf ByteArray.empty l0_1 x13_1) t646 false _ A8.out).mono ?_); rintro e w21 ⟨rfl, hb⟩; refine ⟨_, rfl, ?_⟩; have n0_ := mk0 (Kd.R_below (by (with_reducible repeat (first | apply r_a | apply r_n | apply r_d)); exact HO_5.out) hb); have n1_ := mk0 (blk_below (g := gb644) (o := .cells #[.string a0_0, .slice (some ad645) l0_1.length c0_1] 28 (0, 0)) (by (with_reducible repeat (first | refine blk_drewN ?_ _ | refine blk_drew ?_ | refine blk_alloc ?_ _)); exact BK644.out) hb); have n2_ := mk0 (below_step (by repeat (first | (with_reducible first | exact HB.out | apply b_a | apply b_n | apply b_d | refine below_set ?_ GE644.out) | exact HB.out)) hb); clear HO_5; clear BK644; clear HB; have HO_5 := n0_; have BK644 := n1_; have HB := n2_; clear n0_ n1_ n2_; (try clear hb); (try clear hb2); (try clear hk); (try clear hi); have hcz22_0 : w21.cell? ⟨gb644, 0, none⟩ = some (.string a0_0) := (blk_cell BK644.out 0).trans rfl; have hcz22_1 : w21.cell? ⟨gb644, 1, none⟩ = some (.slice (some ad645) l0_1.length c0_1) := (blk_cell BK644.out 1).trans rfl; have hfz22_0 := blk_frozen BK644.out 0; have hfz22_1 := blk_frozen BK644.out 1) | ((with_reducible refine gate_callee (f := 51) rfl ?_); refine goesL_ (some 24) rfl rfl Tryd.func51 (by kernel_rfl) rfl #[.agg #[.string a0_0, .slice (some ad645) l0_1.length c0_1], .string a1] rfl (by (try simp only [List.map_toArray, List.map_cons, List.map_nil]); first | done | rfl | (simp only [List.length_drop, List.length_take]; rfl)) ?_; (with_reducible refine (priceofficeref06_known.calls k1 a0_0 _ _ l0_1 a1 true _ ?side1 ?side2 A9.out).mono ?_); (case side1 => repeat (first | exact (Kd.C_below HR0_1.out HB.out) | (with_reducible refine Kd.C_alloc ?_ _) | (with_reducible refine Kd.C_drewN ?_ _) | (with_reducible refine Kd.C_drew ?_))); (case side2 => exact HC0_1.out); rintro e w23 ⟨rfl, hb⟩; refine ⟨_, rfl, ?_⟩; have n0_ := mk0 (Kd.R_below (by (with_reducible repeat (first | apply r_a | apply r_n | apply r_d)); exact HO_5.out) hb); have n1_ := mk0 (blk_below (g := gb644) (o := .cells #[.string a0_0, .slice (some ad645) l0_1.length c0_1] 28 (0, 0)) (by (with_reducible repeat (first | refine blk_drewN ?_ _ | refine blk_drew ?_ | refine blk_alloc ?_ _)); exact BK644.out) hb); have n2_ := mk0 (below_step (by repeat (first | (with_reducible first | exact HB.out | apply b_a | apply b_n | apply b_d | refine below_set ?_ GE644.out) | exact HB.out)) hb); clear HO_5; clear BK644; clear HB; have HO_5 := n0_; have BK644 := n1_; have HB := n2_; clear n0_ n1_ n2_; (try clear hb); (try clear hb2); (try clear hk); (try clear hi)))
        go_roundg k1
        case measure => have := HK1.out; omega
        case rel => exact ⟨(x5_1), (wrap64 (x13_1 + 1)), (by first | rfl | (simp; done) | (simp [*]; done)), H', ⟨by have := HK1.out; omega⟩, ⟨by (with_reducible repeat (first | apply r_a | apply r_n | apply r_d)); exact HO_5.out⟩, ⟨by (with_reducible repeat (first | refine blk_drewN ?_ _ | refine blk_drew ?_ | refine blk_alloc ?_ _)); exact BK644.out⟩, ⟨by repeat (first | (with_reducible first | exact HB.out | apply b_a | apply b_n | apply b_d | refine below_set ?_ GE644.out) | exact HB.out)⟩⟩
      ·replace c10 := Bool.eq_false_iff.mpr c10
       subst c10
       have H1 : (priceofficeref06_Children.l0 k1 a1 x5_1 l0_1 (l0_1.length : Int) (wrap64 (x13_1 + 1)) a0_0 l0_1) = some r := by rw [if_neg (show ¬ (false = true) by decide)] at H; exact H
       clear H
       have H := H1
       clear H1
       have H' := mk0 H
       clear H
       have p645 : 0 ≤ (x13_1 : Int) := of_decide_eq_true (by first | (with_reducible assumption) | assumption)
       have q645 : x13_1 < (l0_1.length : Int) := of_decide_eq_true (by first | (with_reducible assumption) | assumption)
       obtain ⟨ad645, e645, hx645_0⟩ := Kd.at_string HR0_1.out x13_1 p645 q645
       cases e645
       replace hx645_0 := (HB.out.cell (World.block_lt_of_cell? w _ hx645_0)).trans hx645_0
       replace p645 := eq_true p645
       replace q645 := eq_true q645
       go_wp2_with (first | ((with_reducible refine gate_callee (f := 34) rfl ?_); refine goesL_ (some 19) rfl rfl Tryd.func34 (by kernel_rfl) rfl #[.string (rdOf ByteArray.empty l0_1 x13_1)] rfl (by (try simp only [List.map_toArray, List.map_cons, List.map_nil]); first | done | rfl | (simp only [List.length_drop, List.length_take]; rfl)) ?_; (with_reducible refine (priceofficeref06_Parent.calls k1 (rdOf ByteArray.empty l0_1 x13_1) t646 t647 _ A8.out).mono ?_); rintro e w24 ⟨rfl, hb⟩; refine ⟨_, rfl, ?_⟩; have n0_ := mk0 (Kd.R_below (by (with_reducible repeat (first | apply r_a | apply r_n | apply r_d)); exact HO_5.out) hb); have n1_ := mk0 (blk_below (g := gb644) (o := .cells #[.string a0_0, .slice (some ad645) l0_1.length c0_1] 28 (0, 0)) (by (with_reducible repeat (first | refine blk_drewN ?_ _ | refine blk_drew ?_ | refine blk_alloc ?_ _)); exact BK644.out) hb); have n2_ := mk0 (below_step (by repeat (first | (with_reducible first | exact HB.out | apply b_a | apply b_n | apply b_d | refine below_set ?_ GE644.out) | exact HB.out)) hb); clear HO_5; clear BK644; clear HB; have HO_5 := n0_; have BK644 := n1_; have HB := n2_; clear n0_ n1_ n2_; (try clear hb); (try clear hb2); (try clear hk); (try clear hi); have hcz25_0 : w24.cell? ⟨gb644, 0, none⟩ = some (.string a0_0) := (blk_cell BK644.out 0).trans rfl; have hcz25_1 : w24.cell? ⟨gb644, 1, none⟩ = some (.slice (some ad645) l0_1.length c0_1) := (blk_cell BK644.out 1).trans rfl; have hfz25_0 := blk_frozen BK644.out 0; have hfz25_1 := blk_frozen BK644.out 1) | ((with_reducible refine gate_callee (f := 51) rfl ?_); refine goesL_ (some 24) rfl rfl Tryd.func51 (by kernel_rfl) rfl #[.agg #[.string a0_0, .slice (some ad645) l0_1.length c0_1], .string a1] rfl (by (try simp only [List.map_toArray, List.map_cons, List.map_nil]); first | done | rfl | (simp only [List.length_drop, List.length_take]; rfl)) ?_; (with_reducible refine (priceofficeref06_known.calls k1 a0_0 _ _ l0_1 a1 false _ ?side1 ?side2 A9.out).mono ?_); (case side1 => repeat (first | exact (Kd.C_below HR0_1.out HB.out) | (with_reducible refine Kd.C_alloc ?_ _) | (with_reducible refine Kd.C_drewN ?_ _) | (with_reducible refine Kd.C_drew ?_))); (case side2 => exact HC0_1.out); rintro e w26 ⟨rfl, hb⟩; refine ⟨_, rfl, ?_⟩; have n0_ := mk0 (Kd.R_below (by (with_reducible repeat (first | apply r_a | apply r_n | apply r_d)); exact HO_5.out) hb); have n1_ := mk0 (blk_below (g := gb644) (o := .cells #[.string a0_0, .slice (some ad645) l0_1.length c0_1] 28 (0, 0)) (by (with_reducible repeat (first | refine blk_drewN ?_ _ | refine blk_drew ?_ | refine blk_alloc ?_ _)); exact BK644.out) hb); have n2_ := mk0 (below_step (by repeat (first | (with_reducible first | exact HB.out | apply b_a | apply b_n | apply b_d | refine below_set ?_ GE644.out) | exact HB.out)) hb); clear HO_5; clear BK644; clear HB; have HO_5 := n0_; have BK644 := n1_; have HB := n2_; clear n0_ n1_ n2_; (try clear hb); (try clear hb2); (try clear hk); (try clear hi)))
       go_roundg k1
       case measure => have := HK1.out; omega
       case rel => exact ⟨(x5_1), (wrap64 (x13_1 + 1)), (by first | rfl | (simp; done) | (simp [*]; done)), H', ⟨by have := HK1.out; omega⟩, ⟨by (with_reducible repeat (first | apply r_a | apply r_n | apply r_d)); exact HO_5.out⟩, ⟨by (with_reducible repeat (first | refine blk_drewN ?_ _ | refine blk_drew ?_ | refine blk_alloc ?_ _)); exact BK644.out⟩, ⟨by repeat (first | (with_reducible first | exact HB.out | apply b_a | apply b_n | apply b_d | refine below_set ?_ GE644.out) | exact HB.out)⟩⟩
     ·rw [if_neg c7] at H
      exact absurd H (by simp)
    ·rw [if_neg c6] at H
     exact absurd H (by simp)
   ·rw [if_neg c5] at H
    have c5b0 : decide (x13_1 < (l0_1.length : Int)) = false := decide_eq_false c5
    clear c5
    obtain rfl := Option.some.inj H
    go_wp2
    go_ret
    exact ⟨_, by first | rfl | (simp [errW_none, errW_some] <;> rfl) | (simp [*, errW_none, errW_some] <;> rfl), by (with_reducible repeat (first | apply r_a | apply r_n | apply r_d)); exact HO_5.out, by repeat (first | (with_reducible first | exact HB.out | apply b_a | apply b_n | apply b_d | refine below_set ?_ GE644.out) | exact HB.out)⟩

-- NOT PRINTED: function 4 (priceofficelaw06_ClassificationCovers)

end Go.Proofs.YtpnoliognpmkmaaDoor.P
