/- Lean functions with the same answers as the program's Go functions, and for each the proof that the call comes to these answers; written by a program of mine out of the translation, the functions marked 'by hand' by me. -/
import Derived.Test.YtpnoliognpmkmaaDoorP0
import Derived.Test.YtpnoliognpmkmaaDoorP11
import Derived.Test.YtpnoliognpmkmaaDoorP14
import Derived.Test.YtpnoliognpmkmaaDoorP17
namespace Go.Proofs.YtpnoliognpmkmaaDoor.P
open Go.RowKit Go.Proofs.YtpnoliognpmkmaaDoorW.PrintWords Go.Proofs.YtpnoliognpmkmaaDoorW.PrintLast Go.Proofs.YtpnoliognpmkmaaDoorW.PrintMore
attribute [local go_sem] max2_int min2_int max_two min_two max_three min_three max_four min_four   -- for this text's walks alone
set_option linter.unusedVariables false
set_option linter.unusedSimpArgs false

/-! ### priceofficeref06_Validate: function 39 -/
mutual
def priceofficeref06_Validate.j0 : Nat → Bool → ByteArray → List ByteArray → Option (Int)
 | 0, _, _, _ => none
 | k + 1, x16, x462000, x462001 => if x16 = true then (some 61) else (priceofficeref06_Validate.l0 k x462001 (x462001.length : Int) 0 x462000 x462001)
def priceofficeref06_Validate.l0 : Nat → List ByteArray → Int → Int → ByteArray → List ByteArray → Option (Int)
 | 0, _, _, _, _, _ => none
 | k + 1, x18, x19, x20, x462000, x462001 => if x20 < x19 then (if 0 ≤ x20 then (if x20 < (x18.length : Int) then ((priceofficeref06_Is.f k (rdOf ByteArray.empty x18 x20)).bind fun t463 => (if t463 = true then (if x20 > 0 then (if 0 ≤ (wrap64 (x20 - 1)) then (if (wrap64 (x20 - 1)) < (x462001.length : Int) then ((priceofficeref06_Compare.f k (rdOf ByteArray.empty x462001 (wrap64 (x20 - 1))) (rdOf ByteArray.empty x18 x20)).bind fun t465 => (priceofficeref06_Validate.j2 k x20 (rdOf ByteArray.empty x18 x20) x18 x19 x20 (decide (t465 ≥ 0)) x462000 x462001)) else (none)) else (none)) else (priceofficeref06_Validate.j2 k x20 (rdOf ByteArray.empty x18 x20) x18 x19 x20 false x462000 x462001)) else (some 60))) else (none)) else (none)) else (some 0)
def priceofficeref06_Validate.j2 : Nat → Int → ByteArray → List ByteArray → Int → Int → Bool → ByteArray → List ByteArray → Option (Int)
 | 0, _, _, _, _, _, _, _, _ => none
 | k + 1, x3, x4, x18, x19, x20, x40, x462000, x462001 => if x40 = true then (some 62) else ((priceofficeref06_Parent.f k x4).bind fun bt466 => (if bt466.1.toList = ([] : List UInt8) then (priceofficeref06_Validate.l0 k x18 x19 (wrap64 (x20 + 1)) x462000 x462001) else (if 0 ≤ x3 then (if x3 ≤ (x462001.length : Int) then ((priceofficeref06_has.f k (x462001.take (x3 : Int).toNat) bt466.1).bind fun t469 => (if t469 = true then (priceofficeref06_Validate.l0 k x18 x19 (wrap64 (x20 + 1)) x462000 x462001) else (some 63))) else (none)) else (none))))
end
def priceofficeref06_Validate.f (k : Nat) (a0_0 : ByteArray) (l0_1 : List ByteArray) : Option (Int) := if (l0_1.length : Int) < 1 then (priceofficeref06_Validate.j0 k true a0_0 l0_1) else (priceofficeref06_Validate.j0 k (decide ((l0_1.length : Int) > 200)) a0_0 l0_1)
theorem priceofficeref06_Validate.mono_l : ∀ k, (∀ y0 y1 y2, LeO (priceofficeref06_Validate.j0 k y0 y1 y2) (priceofficeref06_Validate.j0 (k + 1) y0 y1 y2)) ∧ (∀ y0 y1 y2 y3 y4, LeO (priceofficeref06_Validate.l0 k y0 y1 y2 y3 y4) (priceofficeref06_Validate.l0 (k + 1) y0 y1 y2 y3 y4)) ∧ (∀ y0 y1 y2 y3 y4 y5 y6 y7, LeO (priceofficeref06_Validate.j2 k y0 y1 y2 y3 y4 y5 y6 y7) (priceofficeref06_Validate.j2 (k + 1) y0 y1 y2 y3 y4 y5 y6 y7))
 | 0 => ⟨fun _ _ _ r h => by simp [priceofficeref06_Validate.j0] at h, fun _ _ _ _ _ r h => by simp [priceofficeref06_Validate.l0] at h, fun _ _ _ _ _ _ _ _ r h => by simp [priceofficeref06_Validate.j2] at h⟩
 | k + 1 => by
  obtain ⟨ih0, ih1, ih2⟩ := priceofficeref06_Validate.mono_l k
  refine ⟨?_, ?_, ?_⟩
  ·intro y0 y1 y2
   unfold priceofficeref06_Validate.j0
   repeat' first
   | (with_reducible exact ih0 _ _ _)
   | (with_reducible exact ih1 _ _ _ _ _)
   | (with_reducible exact ih2 _ _ _ _ _ _ _ _)
   | (with_reducible exact priceofficeref06_Compare.mono _ _ _)
   | (with_reducible exact priceofficeref06_Is.mono _ _)
   | (with_reducible exact priceofficeref06_Parent.mono _ _)
   | (with_reducible exact priceofficeref06_has.mono _ _ _)
   | (with_reducible exact LeO.refl _)
   | (with_reducible exact LeO.none _)
   | (with_reducible refine LeO.ite ?_ ?_)
   | (with_reducible refine LeO.bind ?_ (fun _ => ?_))
   | exact ih0 _ _ _
   | exact ih1 _ _ _ _ _
   | exact ih2 _ _ _ _ _ _ _ _
   | exact priceofficeref06_Compare.mono _ _ _
   | exact priceofficeref06_Is.mono _ _
   | exact priceofficeref06_Parent.mono _ _
   | exact priceofficeref06_has.mono _ _ _
   | exact LeO.none _
   | refine LeO.ite ?_ ?_
   | refine LeO.bind ?_ (fun _ => ?_)
  ·intro y0 y1 y2 y3 y4
   unfold priceofficeref06_Validate.l0
   repeat' first
   | (with_reducible exact ih0 _ _ _)
   | (with_reducible exact ih1 _ _ _ _ _)
   | (with_reducible exact ih2 _ _ _ _ _ _ _ _)
   | (with_reducible exact priceofficeref06_Compare.mono _ _ _)
   | (with_reducible exact priceofficeref06_Is.mono _ _)
   | (with_reducible exact priceofficeref06_Parent.mono _ _)
   | (with_reducible exact priceofficeref06_has.mono _ _ _)
   | (with_reducible exact LeO.refl _)
   | (with_reducible exact LeO.none _)
   | (with_reducible refine LeO.ite ?_ ?_)
   | (with_reducible refine LeO.bind ?_ (fun _ => ?_))
   | exact ih0 _ _ _
   | exact ih1 _ _ _ _ _
   | exact ih2 _ _ _ _ _ _ _ _
   | exact priceofficeref06_Compare.mono _ _ _
   | exact priceofficeref06_Is.mono _ _
   | exact priceofficeref06_Parent.mono _ _
   | exact priceofficeref06_has.mono _ _ _
   | exact LeO.none _
   | refine LeO.ite ?_ ?_
   | refine LeO.bind ?_ (fun _ => ?_)
  ·intro y0 y1 y2 y3 y4 y5 y6 y7
   unfold priceofficeref06_Validate.j2
   repeat' first
   | (with_reducible exact ih0 _ _ _)
   | (with_reducible exact ih1 _ _ _ _ _)
   | (with_reducible exact ih2 _ _ _ _ _ _ _ _)
   | (with_reducible exact priceofficeref06_Compare.mono _ _ _)
   | (with_reducible exact priceofficeref06_Is.mono _ _)
   | (with_reducible exact priceofficeref06_Parent.mono _ _)
   | (with_reducible exact priceofficeref06_has.mono _ _ _)
   | (with_reducible exact LeO.refl _)
   | (with_reducible exact LeO.none _)
   | (with_reducible refine LeO.ite ?_ ?_)
   | (with_reducible refine LeO.bind ?_ (fun _ => ?_))
   | exact ih0 _ _ _
   | exact ih1 _ _ _ _ _
   | exact ih2 _ _ _ _ _ _ _ _
   | exact priceofficeref06_Compare.mono _ _ _
   | exact priceofficeref06_Is.mono _ _
   | exact priceofficeref06_Parent.mono _ _
   | exact priceofficeref06_has.mono _ _ _
   | exact LeO.none _
   | refine LeO.ite ?_ ?_
   | refine LeO.bind ?_ (fun _ => ?_)
theorem priceofficeref06_Validate.mono : ∀ a0 a1 k, LeO (priceofficeref06_Validate.f k a0 a1) (priceofficeref06_Validate.f (k + 1) a0 a1) := by
 intro a0 a1 k
 obtain ⟨ih0, ih1, ih2⟩ := priceofficeref06_Validate.mono_l k
 unfold priceofficeref06_Validate.f
 repeat' first
   | (with_reducible exact ih0 _ _ _)
   | (with_reducible exact ih1 _ _ _ _ _)
   | (with_reducible exact ih2 _ _ _ _ _ _ _ _)
   | (with_reducible exact priceofficeref06_Compare.mono _ _ _)
   | (with_reducible exact priceofficeref06_Is.mono _ _)
   | (with_reducible exact priceofficeref06_Parent.mono _ _)
   | (with_reducible exact priceofficeref06_has.mono _ _ _)
   | (with_reducible exact LeO.refl _)
   | (with_reducible exact LeO.none _)
   | (with_reducible refine LeO.ite ?_ ?_)
   | (with_reducible refine LeO.bind ?_ (fun _ => ?_))
   | exact ih0 _ _ _
   | exact ih1 _ _ _ _ _
   | exact ih2 _ _ _ _ _ _ _ _
   | exact priceofficeref06_Compare.mono _ _ _
   | exact priceofficeref06_Is.mono _ _
   | exact priceofficeref06_Parent.mono _ _
   | exact priceofficeref06_has.mono _ _ _
   | exact LeO.none _
   | refine LeO.ite ?_ ?_
   | refine LeO.bind ?_ (fun _ => ?_)
set_option maxHeartbeats 8000000 in
set_option maxRecDepth 100000 in
theorem priceofficeref06_Validate.calls (k : Nat) (a0_0 : ByteArray) (A0_1 : Option Addr) (c0_1 : Nat) (l0_1 : List ByteArray) (r : Int) (w : World) (hr0_1 : Kd.C Kd.string w A0_1 l0_1.length l0_1) (hc0_1 : l0_1.length ≤ c0_1) (h : priceofficeref06_Validate.f k a0_0 l0_1 = some r) :
  Calls Tryd.prog 39 #[.agg #[.string a0_0, .slice A0_1 l0_1.length c0_1]] w fun e w' => e = .returned (.int .i64 r) ∧ Below w.heap.size w w' := by
 have hu28 := Tryd.underlying28
 have HR0_1 := mk0 hr0_1
 have HC0_1 := mk0 hc0_1
 clear hr0_1 hc0_1
 have HB := mk0 (Below.refl w.heap.size w)
 have H : (if (l0_1.length : Int) < 1 then (priceofficeref06_Validate.j0 k true a0_0 l0_1) else (priceofficeref06_Validate.j0 k (decide ((l0_1.length : Int) > 200)) a0_0 l0_1)) = some r := h
 clear h
 have HC2 := mk0 H
 clear H
 go_enter Tryd.func39, Tryd.ntmps39
 go_upto_region 1 with (first | ((with_reducible refine gate_dst (N := 1) rfl ?_); refine box_event ?hg (N := 1) ?hd (cs := #[.string a0_0, .slice A0_1 l0_1.length c0_1]) (t := 28) ?hr ?_; (case hd => rfl); (case hg => rfl); (case hr => first | (go_simp; done) | (go_simp; rfl)); intro gb461 hg w3 hbox hb; have n0_ := mk0 (below_step (by repeat (first | (with_reducible first | exact HB.out | apply b_a | apply b_n | apply b_d) | exact HB.out)) hb); have n1_ := mk0 (hbox); have n2_ := mk0 ((by rw [hg]; exact (below_size (by repeat (first | (with_reducible first | exact HB.out | apply b_a | apply b_n | apply b_d) | exact HB.out))) : w.heap.size ≤ gb461)); have n3_ := mk0 ((by rw [hg]; exact (below_size (by repeat (first | (with_reducible first | exact HB.out | apply b_a | apply b_n | apply b_d) | exact HB.out))) : w.heap.size ≤ gb461)); clear HB; have HB := n0_; have BK461 := n1_; have GW461 := n2_; have GE461 := n3_; clear n0_ n1_ n2_ n3_; clear hb hbox hg))
 (try simp only [Act.put, List.setIfInBounds_toArray, List.set_cons_zero, List.set_cons_succ])
 go_cut [16] (fun v16 wc => ∃ (kq : Nat) (x16_41 : Bool), v16 = .bool x16_41 ∧ Aside0 (priceofficeref06_Validate.j0 kq x16_41 a0_0 l0_1 = some r) ∧ Aside0 (kq ≤ k) ∧ Aside0 (wc.heap[gb461]? = some (.cells #[.string a0_0, (.slice A0_1 l0_1.length c0_1)] 28 (0, 0))) ∧ Aside0 (Below w.heap.size w wc))
 case first =>
  have H := HC2.out
  clear HC2
  by_cases c4 : (l0_1.length : Int) < 1
  ·rw [if_pos c4] at H
   have c4b0 : decide ((l0_1.length : Int) < 1) = true := decide_eq_true c4
   have c4b1 : decide (l0_1.length < 1) = true := decide_eq_true (by omega)
   clear c4
   (first | rw [c4b0] | (simp only [i64_w, i32_w]; rw [c4b0]) | skip)
   have H' := mk0 H
   clear H
   have hcz5_0 : w3.cell? ⟨gb461, 0, none⟩ = some (.string a0_0) := (blk_cell BK461.out 0).trans rfl
   have hcz5_1 : w3.cell? ⟨gb461, 1, none⟩ = some (.slice A0_1 l0_1.length c0_1) := (blk_cell BK461.out 1).trans rfl
   have hfz5_0 := blk_frozen BK461.out 0
   have hfz5_1 := blk_frozen BK461.out 1
   go_wp2
   go_meet
   case rel => exact ⟨_, (true), (by first | rfl | (simp; done) | (simp [*]; done)), H', ⟨by first | omega | exact Nat.le_refl _⟩, ⟨by (with_reducible repeat (first | refine blk_drewN ?_ _ | refine blk_drew ?_ | refine blk_alloc ?_ _)); exact BK461.out⟩, ⟨by repeat (first | (with_reducible first | exact HB.out | apply b_a | apply b_n | apply b_d | refine below_set ?_ GE461.out) | exact HB.out)⟩⟩
  ·rw [if_neg c4] at H
   have c4b0 : decide ((l0_1.length : Int) < 1) = false := decide_eq_false c4
   have c4b1 : decide (l0_1.length < 1) = false := decide_eq_false (by omega)
   clear c4
   (first | rw [c4b0] | (simp only [i64_w, i32_w]; rw [c4b0]) | skip)
   have H' := mk0 H
   clear H
   have hcz6_0 : w3.cell? ⟨gb461, 0, none⟩ = some (.string a0_0) := (blk_cell BK461.out 0).trans rfl
   have hcz6_1 : w3.cell? ⟨gb461, 1, none⟩ = some (.slice A0_1 l0_1.length c0_1) := (blk_cell BK461.out 1).trans rfl
   have hfz6_0 := blk_frozen BK461.out 0
   have hfz6_1 := blk_frozen BK461.out 1
   go_wp2
   go_meet
   case rel => exact ⟨_, (decide ((l0_1.length : Int) > 200)), (by first | rfl | (simp; done) | (simp [*]; done)), H', ⟨by first | omega | exact Nat.le_refl _⟩, ⟨by (with_reducible repeat (first | refine blk_drewN ?_ _ | refine blk_drew ?_ | refine blk_alloc ?_ _)); exact BK461.out⟩, ⟨by repeat (first | (with_reducible first | exact HB.out | apply b_a | apply b_n | apply b_d | refine below_set ?_ GE461.out) | exact HB.out)⟩⟩
 case rest =>
  clear HC2
  try clear p2
  try clear c3
  try clear c4
  try clear c4b0
  try clear c4b1
  try clear hcz5_0
  try clear hcz5_1
  try clear hcz6_0
  try clear hcz6_1
  try clear hfz5_0
  try clear hfz5_1
  try clear hfz6_0
  try clear hfz6_1
  obtain ⟨kq, x16_41, rfl, HA, HJ41, BK461, HB⟩ := hcut
  cases kq with
  | zero => exact absurd HA.out (by simp [priceofficeref06_Validate.j0])
  | succ kj41 =>
   have H := HA.out
   clear HA
   simp only [priceofficeref06_Validate.j0] at H
   by_cases c7 : x16_41 = true
   ·subst c7
    have H1 : (some 61) = some r := by rw [if_pos rfl] at H; exact H
    clear H
    have H := H1
    clear H1
    obtain rfl := Option.some.inj H
    go_wp2
    go_ret
    exact ⟨by first | rfl | (simp [errW_none, errW_some] <;> rfl) | (simp [*, errW_none, errW_some] <;> rfl), by repeat (first | (with_reducible first | exact HB.out | apply b_a | apply b_n | apply b_d | refine below_set ?_ GE461.out) | exact HB.out)⟩
   ·replace c7 := Bool.eq_false_iff.mpr c7
    subst c7
    have H1 : (priceofficeref06_Validate.l0 kj41 l0_1 (l0_1.length : Int) 0 a0_0 l0_1) = some r := by rw [if_neg (show ¬ (false = true) by decide)] at H; exact H
    clear H
    have H := H1
    clear H1
    have H' := mk0 H
    clear H
    have hcz8_0 : wc.cell? ⟨gb461, 0, none⟩ = some (.string a0_0) := (blk_cell BK461.out 0).trans rfl
    have hcz8_1 : wc.cell? ⟨gb461, 1, none⟩ = some (.slice A0_1 l0_1.length c0_1) := (blk_cell BK461.out 1).trans rfl
    have hfz8_0 := blk_frozen BK461.out 0
    have hfz8_1 := blk_frozen BK461.out 1
    go_wp2
    go_loopg [20] kj41 (fun kq v20 w' => ∃ (x20_2 : Int), v20 = .int .i64 x20_2 ∧ Aside0 (priceofficeref06_Validate.l0 kq l0_1 (l0_1.length : Int) x20_2 a0_0 l0_1 = some r) ∧ Aside0 (kq ≤ kj41) ∧ Aside0 (w'.heap[gb461]? = some (.cells #[.string a0_0, (.slice A0_1 l0_1.length c0_1)] 28 (0, 0))) ∧ Aside0 (Below w.heap.size w w'))
    case atStart => exact ⟨(0), (by first | rfl | (simp; done) | (simp [*]; done)), H', ⟨Nat.le_refl _⟩, ⟨by (with_reducible repeat (first | refine blk_drewN ?_ _ | refine blk_drew ?_ | refine blk_alloc ?_ _)); exact BK461.out⟩, ⟨by repeat (first | (with_reducible first | exact HB.out | apply b_a | apply b_n | apply b_d | refine below_set ?_ GE461.out) | exact HB.out)⟩⟩
    case round =>
     clear H'
     try clear p2
     try clear c3
     try clear c4
     try clear c4b0
     try clear c4b1
     try clear c7
     try clear hcz5_0
     try clear hcz5_1
     try clear hcz6_0
     try clear hcz6_1
     try clear hcz8_0
     try clear hcz8_1
     try clear hfz5_0
     try clear hfz5_1
     try clear hfz6_0
     try clear hfz6_1
     try clear hfz8_0
     try clear hfz8_1
     try clear p2
     obtain ⟨x20_2, rfl, HA, HK2, BK461, HB⟩ := hrel
     cases gk with
     | zero => exact absurd HA.out (by simp [priceofficeref06_Validate.l0])
     | succ k2 =>
      have H := HA.out
      clear HA
      simp only [priceofficeref06_Validate.l0] at H
      by_cases c9 : x20_2 < (l0_1.length : Int)
      ·rw [if_pos c9] at H
       have c9b0 : decide (x20_2 < (l0_1.length : Int)) = true := decide_eq_true c9
       clear c9
       by_cases c10 : 0 ≤ x20_2
       ·rw [if_pos c10] at H
        have c10b0 : decide (0 ≤ x20_2) = true := decide_eq_true c10
        clear c10
        by_cases c11 : x20_2 < (l0_1.length : Int)
        ·rw [if_pos c11] at H
         have c11b0 : decide (x20_2 < (l0_1.length : Int)) = true := decide_eq_true c11
         clear c11
         replace H := Option.bind_eq_some_iff.mp H
         obtain ⟨t463, A120, H⟩ := H
         replace H : (if t463 = true then (if x20_2 > 0 then (if 0 ≤ (wrap64 (x20_2 - 1)) then (if (wrap64 (x20_2 - 1)) < (l0_1.length : Int) then ((priceofficeref06_Compare.f k2 (rdOf ByteArray.empty l0_1 (wrap64 (x20_2 - 1))) (rdOf ByteArray.empty l0_1 x20_2)).bind fun t465 => (priceofficeref06_Validate.j2 k2 x20_2 (rdOf ByteArray.empty l0_1 x20_2) l0_1 (l0_1.length : Int) x20_2 (decide (t465 ≥ 0)) a0_0 l0_1)) else (none)) else (none)) else (priceofficeref06_Validate.j2 k2 x20_2 (rdOf ByteArray.empty l0_1 x20_2) l0_1 (l0_1.length : Int) x20_2 false a0_0 l0_1)) else (some 60)) = some r := H
         have A12 := mk0 A120
         clear A120
         by_cases c13 : t463 = true
         ·subst c13
          have H1 : (if x20_2 > 0 then (if 0 ≤ (wrap64 (x20_2 - 1)) then (if (wrap64 (x20_2 - 1)) < (l0_1.length : Int) then ((priceofficeref06_Compare.f k2 (rdOf ByteArray.empty l0_1 (wrap64 (x20_2 - 1))) (rdOf ByteArray.empty l0_1 x20_2)).bind fun t465 => (priceofficeref06_Validate.j2 k2 x20_2 (rdOf ByteArray.empty l0_1 x20_2) l0_1 (l0_1.length : Int) x20_2 (decide (t465 ≥ 0)) a0_0 l0_1)) else (none)) else (none)) else (priceofficeref06_Validate.j2 k2 x20_2 (rdOf ByteArray.empty l0_1 x20_2) l0_1 (l0_1.length : Int) x20_2 false a0_0 l0_1)) = some r := by rw [if_pos rfl] at H; exact H
          clear H
          have H := H1
          clear H1
          have HC14 := mk0 H
          clear H
          have p462 : 0 ≤ (x20_2 : Int) := of_decide_eq_true (by first | (with_reducible assumption) | assumption)
          have q462 : x20_2 < (l0_1.length : Int) := of_decide_eq_true (by first | (with_reducible assumption) | assumption)
          obtain ⟨ad462, e462, hx462_0⟩ := Kd.at_string HR0_1.out x20_2 p462 q462
          cases e462
          replace hx462_0 := (HB.out.cell (World.block_lt_of_cell? w _ hx462_0)).trans hx462_0
          replace p462 := eq_true p462
          replace q462 := eq_true q462
          go_upto_region 8 with (first | ((with_reducible refine gate_callee (f := 64) rfl ?_); refine goesL_ (some 26) rfl rfl Tryd.func64 (by kernel_rfl) rfl #[.string (rdOf ByteArray.empty l0_1 x20_2)] rfl (by (try simp only [List.map_toArray, List.map_cons, List.map_nil]); first | done | rfl | (simp only [List.length_drop, List.length_take]; rfl)) ?_; (with_reducible refine (priceofficeref06_Is.calls k2 (rdOf ByteArray.empty l0_1 x20_2) true _ A12.out).mono ?_); rintro e w15 ⟨rfl, hb⟩; refine ⟨_, rfl, ?_⟩; have n0_ := mk0 (blk_below (g := gb461) (o := .cells #[.string a0_0, .slice (some ad462) l0_1.length c0_1] 28 (0, 0)) (by (with_reducible repeat (first | refine blk_drewN ?_ _ | refine blk_drew ?_ | refine blk_alloc ?_ _)); exact BK461.out) hb); have n1_ := mk0 (below_step (by repeat (first | (with_reducible first | exact HB.out | apply b_a | apply b_n | apply b_d | refine below_set ?_ GE461.out) | exact HB.out)) hb); clear BK461; clear HB; have BK461 := n0_; have HB := n1_; clear n0_ n1_; (try clear hb); (try clear hb2); (try clear hk); (try clear hi)))
          (try simp only [Act.put, List.setIfInBounds_toArray, List.set_cons_zero, List.set_cons_succ])
          go_cut [40] (fun v40 wc => ∃ (kq : Nat) (x40_53 : Bool), v40 = .bool x40_53 ∧ Aside0 (priceofficeref06_Validate.j2 kq x20_2 (rdOf ByteArray.empty l0_1 x20_2) l0_1 (l0_1.length : Int) x20_2 x40_53 a0_0 l0_1 = some r) ∧ Aside0 (kq ≤ k2) ∧ Aside0 (wc.heap[gb461]? = some (.cells #[.string a0_0, (.slice (some ad462) l0_1.length c0_1)] 28 (0, 0))) ∧ Aside0 (Below w.heap.size w wc))
          case first =>
           have H := HC14.out
           clear HC14
           by_cases c16 : x20_2 > 0
           ·rw [if_pos c16] at H
            have c16b0 : decide (0 < x20_2) = true := decide_eq_true c16
            clear c16
            (first | rw [c16b0] | (simp only [i64_w, i32_w]; rw [c16b0]) | skip)
            obtain ⟨ji17, hji17⟩ : ∃ j_ : Int, (wrap64 (x20_2 - 1)) = j_ := ⟨_, rfl⟩
            replace H : (if 0 ≤ (ji17) then (if (ji17) < (l0_1.length : Int) then ((priceofficeref06_Compare.f k2 (rdOf ByteArray.empty l0_1 (ji17)) (rdOf ByteArray.empty l0_1 x20_2)).bind fun t465 => (priceofficeref06_Validate.j2 k2 x20_2 (rdOf ByteArray.empty l0_1 x20_2) l0_1 (l0_1.length : Int) x20_2 (decide (t465 ≥ 0)) a0_0 l0_1)) else (none)) else (none)) = some r := by first | (rw [hji17] at H; exact H) | (simp only [hji17] at H ⊢; exact H)
            have hji17w : (IntKind.i64.wrap (x20_2 - 1)) = ji17 := (i64_w _).trans hji17
            by_cases c18 : 0 ≤ (ji17)
            ·rw [if_pos c18] at H
             have c18b0 : decide (0 ≤ (ji17)) = true := decide_eq_true c18
             clear c18
             by_cases c19 : (ji17) < (l0_1.length : Int)
             ·rw [if_pos c19] at H
              have c19b0 : decide ((ji17) < (l0_1.length : Int)) = true := decide_eq_true c19
              clear c19
              replace H := Option.bind_eq_some_iff.mp H
              obtain ⟨t465, A200, H⟩ := H
              replace H : (priceofficeref06_Validate.j2 k2 x20_2 (rdOf ByteArray.empty l0_1 x20_2) l0_1 (l0_1.length : Int) x20_2 (decide (t465 ≥ 0)) a0_0 l0_1) = some r := H
              have A20 := mk0 A200
              clear A200
              have H' := mk0 H
              clear H
              have hcz21_0 : w15.cell? ⟨gb461, 0, none⟩ = some (.string a0_0) := (blk_cell BK461.out 0).trans rfl
              have hcz21_1 : w15.cell? ⟨gb461, 1, none⟩ = some (.slice (some ad462) l0_1.length c0_1) := (blk_cell BK461.out 1).trans rfl
              have hfz21_0 := blk_frozen BK461.out 0
              have hfz21_1 := blk_frozen BK461.out 1
              have p464 : 0 ≤ ((ji17) : Int) := of_decide_eq_true (by first | (with_reducible assumption) | assumption)
              have q464 : (ji17) < (l0_1.length : Int) := of_decide_eq_true (by first | (with_reducible assumption) | assumption)
              obtain ⟨ad464, e464, hx464_0⟩ := Kd.at_string HR0_1.out (ji17) p464 q464
              obtain rfl : ad462 = ad464 := (by injection e464)
              replace hx464_0 := (HB.out.cell (World.block_lt_of_cell? w _ hx464_0)).trans hx464_0
              replace p464 := eq_true p464
              replace q464 := eq_true q464
              go_wp2_with (first | (go_at_call 41; (with_reducible refine (priceofficeref06_Compare.calls k2 (rdOf ByteArray.empty l0_1 (ji17)) (rdOf ByteArray.empty l0_1 x20_2) t465 _ A20.out).mono ?_); rintro e w22 ⟨rfl, hb⟩; have n0_ := mk0 (blk_below (g := gb461) (o := .cells #[.string a0_0, .slice (some ad462) l0_1.length c0_1] 28 (0, 0)) (by (with_reducible repeat (first | refine blk_drewN ?_ _ | refine blk_drew ?_ | refine blk_alloc ?_ _)); exact BK461.out) hb); have n1_ := mk0 (below_step (by repeat (first | (with_reducible first | exact HB.out | apply b_a | apply b_n | apply b_d | refine below_set ?_ GE461.out) | exact HB.out)) hb); clear BK461; clear HB; have BK461 := n0_; have HB := n1_; clear n0_ n1_; (try clear hb); (try clear hb2); (try clear hk); (try clear hi)))
              go_meet
              case rel => exact ⟨_, (decide (t465 ≥ 0)), (by first | rfl | (simp; done) | (simp [*]; done)), H', ⟨by have := HJ41.out; have := HK2.out; first | omega | exact Nat.le_refl _⟩, ⟨by (with_reducible repeat (first | refine blk_drewN ?_ _ | refine blk_drew ?_ | refine blk_alloc ?_ _)); exact BK461.out⟩, ⟨by repeat (first | (with_reducible first | exact HB.out | apply b_a | apply b_n | apply b_d | refine below_set ?_ GE461.out) | exact HB.out)⟩⟩
             ·rw [if_neg c19] at H
              exact absurd H (by simp)
            ·rw [if_neg c18] at H
             exact absurd H (by simp)
           ·rw [if_neg c16] at H
            have c16b0 : decide (0 < x20_2) = false := decide_eq_false c16
            clear c16
            (first | rw [c16b0] | (simp only [i64_w, i32_w]; rw [c16b0]) | skip)
            have H' := mk0 H
            clear H
            go_wp2
            go_meet
            case rel => exact ⟨_, (false), (by first | rfl | (simp; done) | (simp [*]; done)), H', ⟨by have := HJ41.out; have := HK2.out; first | omega | exact Nat.le_refl _⟩, ⟨by (with_reducible repeat (first | refine blk_drewN ?_ _ | refine blk_drew ?_ | refine blk_alloc ?_ _)); exact BK461.out⟩, ⟨by repeat (first | (with_reducible first | exact HB.out | apply b_a | apply b_n | apply b_d | refine below_set ?_ GE461.out) | exact HB.out)⟩⟩
          case rest =>
           clear HC14
           try clear c1
           try clear p2
           try clear c3
           try clear c4
           try clear c4b0
           try clear c4b1
           try clear p4
           try clear q4
           try clear hx4
           try clear c6
           try clear p6
           try clear c7
           try clear c9
           try clear c9b0
           try clear c10
           try clear c10b0
           try clear c11
           try clear c11b0
           try clear c13
           try clear c16
           try clear c16b0
           try clear c18
           try clear c18b0
           try clear c19
           try clear c19b0
           try clear hcz21_0
           try clear hcz21_1
           try clear hcz5_0
           try clear hcz5_1
           try clear hcz6_0
           try clear hcz6_1
           try clear hcz8_0
           try clear hcz8_1
           try clear hfz21_0
           try clear hfz21_1
           try clear hfz5_0
           try clear hfz5_1
           try clear hfz6_0
           try clear hfz6_1
           try clear hfz8_0
           try clear hfz8_1
           try clear hx462_0
           try clear hx464_0
           try clear p2
           try clear p462
           try clear p464
           try clear q462
           try clear q464
           obtain ⟨kq, x40_53, rfl, HA, HJ53, BK461, HB⟩ := hcut
           cases kq with
           | zero => exact absurd HA.out (by simp [priceofficeref06_Validate.j2])
           | succ kj53 =>
            have H := HA.out
            clear HA
            simp only [priceofficeref06_Validate.j2] at H
            by_cases c23 : x40_53 = true
            ·subst c23
             have H1 : (some 62) = some r := by rw [if_pos rfl] at H; exact H
             clear H
             have H := H1
             clear H1
             obtain rfl := Option.some.inj H
             go_wp2
             go_ret
             exact ⟨by first | rfl | (simp [errW_none, errW_some] <;> rfl) | (simp [*, errW_none, errW_some] <;> rfl), by repeat (first | (with_reducible first | exact HB.out | apply b_a | apply b_n | apply b_d | refine below_set ?_ GE461.out) | exact HB.out)⟩
            ·replace c23 := Bool.eq_false_iff.mpr c23
             subst c23
             have H1 : ((priceofficeref06_Parent.f kj53 (rdOf ByteArray.empty l0_1 x20_2)).bind fun bt466 => (if bt466.1.toList = ([] : List UInt8) then (priceofficeref06_Validate.l0 kj53 l0_1 (l0_1.length : Int) (wrap64 (x20_2 + 1)) a0_0 l0_1) else (if 0 ≤ x20_2 then (if x20_2 ≤ (l0_1.length : Int) then ((priceofficeref06_has.f kj53 (l0_1.take (x20_2 : Int).toNat) bt466.1).bind fun t469 => (if t469 = true then (priceofficeref06_Validate.l0 kj53 l0_1 (l0_1.length : Int) (wrap64 (x20_2 + 1)) a0_0 l0_1) else (some 63))) else (none)) else (none)))) = some r := by rw [if_neg (show ¬ (false = true) by decide)] at H; exact H
             clear H
             have H := H1
             clear H1
             replace H := Option.bind_eq_some_iff.mp H
             obtain ⟨⟨t466, t467⟩, A240, H⟩ := H
             replace H : (if t466.toList = ([] : List UInt8) then (priceofficeref06_Validate.l0 kj53 l0_1 (l0_1.length : Int) (wrap64 (x20_2 + 1)) a0_0 l0_1) else (if 0 ≤ x20_2 then (if x20_2 ≤ (l0_1.length : Int) then ((priceofficeref06_has.f kj53 (l0_1.take (x20_2 : Int).toNat) t466).bind fun t469 => (if t469 = true then (priceofficeref06_Validate.l0 kj53 l0_1 (l0_1.length : Int) (wrap64 (x20_2 + 1)) a0_0 l0_1) else (some 63))) else (none)) else (none))) = some r := H
             have A24 := mk0 A240
             clear A240
             by_cases c25 : t466.toList = ([] : List UInt8)
             ·rw [if_pos c25] at H
              have c25b0 : (t466.toList == ([] : List UInt8)) = true := beq_iff_eq.mpr c25
              have c25b1 : (t466.toList != ([] : List UInt8)) = false := bne_eq_false_iff_eq.mpr c25
              clear c25
              have H' := mk0 H
              clear H
              go_wp2_with (first | ((with_reducible refine gate_callee (f := 34) rfl ?_); refine goesL_ (some 43) rfl rfl Tryd.func34 (by kernel_rfl) rfl #[.string (rdOf ByteArray.empty l0_1 x20_2)] rfl (by (try simp only [List.map_toArray, List.map_cons, List.map_nil]); first | done | rfl | (simp only [List.length_drop, List.length_take]; rfl)) ?_; (with_reducible refine (priceofficeref06_Parent.calls kj53 (rdOf ByteArray.empty l0_1 x20_2) t466 t467 _ A24.out).mono ?_); rintro e w26 ⟨rfl, hb⟩; refine ⟨_, rfl, ?_⟩; have n0_ := mk0 (blk_below (g := gb461) (o := .cells #[.string a0_0, .slice (some ad462) l0_1.length c0_1] 28 (0, 0)) (by (with_reducible repeat (first | refine blk_drewN ?_ _ | refine blk_drew ?_ | refine blk_alloc ?_ _)); exact BK461.out) hb); have n1_ := mk0 (below_step (by repeat (first | (with_reducible first | exact HB.out | apply b_a | apply b_n | apply b_d | refine below_set ?_ GE461.out) | exact HB.out)) hb); clear BK461; clear HB; have BK461 := n0_; have HB := n1_; clear n0_ n1_; (try clear hb); (try clear hb2); (try clear hk); (try clear hi)))
              go_roundg kj53
              case measure => have := HJ41.out; have := HK2.out; have := HJ53.out; omega
              case rel => exact ⟨(wrap64 (x20_2 + 1)), (by first | rfl | (simp; done) | (simp [*]; done)), H', ⟨by have := HJ41.out; have := HK2.out; have := HJ53.out; omega⟩, ⟨by (with_reducible repeat (first | refine blk_drewN ?_ _ | refine blk_drew ?_ | refine blk_alloc ?_ _)); exact BK461.out⟩, ⟨by repeat (first | (with_reducible first | exact HB.out | apply b_a | apply b_n | apply b_d | refine below_set ?_ GE461.out) | exact HB.out)⟩⟩
             ·rw [if_neg c25] at H
              have c25b0 : (t466.toList == ([] : List UInt8)) = false := beq_eq_false_iff_ne.mpr c25
              have c25b1 : (t466.toList != ([] : List UInt8)) = true := bne_iff_ne.mpr c25
              by_cases c27 : 0 ≤ x20_2
              ·rw [if_pos c27] at H
               have c27b0 := eq_true c27
               have c27b1 : decide (0 ≤ x20_2) = true := decide_eq_true c27
               clear c27
               by_cases c28 : x20_2 ≤ (l0_1.length : Int)
               ·rw [if_pos c28] at H
                have c28b0 := eq_true c28
                have c28b1 : decide (x20_2 ≤ (l0_1.length : Int)) = true := decide_eq_true c28
                clear c28
                replace H := Option.bind_eq_some_iff.mp H
                obtain ⟨t469, A290, H⟩ := H
                replace H : (if t469 = true then (priceofficeref06_Validate.l0 kj53 l0_1 (l0_1.length : Int) (wrap64 (x20_2 + 1)) a0_0 l0_1) else (some 63)) = some r := H
                have A29 := mk0 A290
                clear A290
                by_cases c30 : t469 = true
                ·subst c30
                 have H1 : (priceofficeref06_Validate.l0 kj53 l0_1 (l0_1.length : Int) (wrap64 (x20_2 + 1)) a0_0 l0_1) = some r := by rw [if_pos rfl] at H; exact H
                 clear H
                 have H := H1
                 clear H1
                 have H' := mk0 H
                 clear H
                 go_wp2_with (first | ((with_reducible refine gate_callee (f := 34) rfl ?_); refine goesL_ (some 43) rfl rfl Tryd.func34 (by kernel_rfl) rfl #[.string (rdOf ByteArray.empty l0_1 x20_2)] rfl (by (try simp only [List.map_toArray, List.map_cons, List.map_nil]); first | done | rfl | (simp only [List.length_drop, List.length_take]; rfl)) ?_; (with_reducible refine (priceofficeref06_Parent.calls kj53 (rdOf ByteArray.empty l0_1 x20_2) t466 t467 _ A24.out).mono ?_); rintro e w31 ⟨rfl, hb⟩; refine ⟨_, rfl, ?_⟩; have n0_ := mk0 (blk_below (g := gb461) (o := .cells #[.string a0_0, .slice (some ad462) l0_1.length c0_1] 28 (0, 0)) (by (with_reducible repeat (first | refine blk_drewN ?_ _ | refine blk_drew ?_ | refine blk_alloc ?_ _)); exact BK461.out) hb); have n1_ := mk0 (below_step (by repeat (first | (with_reducible first | exact HB.out | apply b_a | apply b_n | apply b_d | refine below_set ?_ GE461.out) | exact HB.out)) hb); clear BK461; clear HB; have BK461 := n0_; have HB := n1_; clear n0_ n1_; (try clear hb); (try clear hb2); (try clear hk); (try clear hi); have hcz32_0 : w31.cell? ⟨gb461, 0, none⟩ = some (.string a0_0) := (blk_cell BK461.out 0).trans rfl; have hcz32_1 : w31.cell? ⟨gb461, 1, none⟩ = some (.slice (some ad462) l0_1.length c0_1) := (blk_cell BK461.out 1).trans rfl; have hfz32_0 := blk_frozen BK461.out 0; have hfz32_1 := blk_frozen BK461.out 1; obtain ⟨i033, hi033, _, hsz33, _⟩ := info_parts info9; obtain ⟨hcut33, hA33, hC33⟩ := print_take_of (P := Tryd.prog) Value.string (⟨#[]⟩ : ByteArray) 26 9 .i64 Tryd.underlying26 hi033 hsz33 (some ad462) c0_1 l0_1 x20_2 (of_decide_eq_true (by first | (with_reducible assumption) | assumption)) (of_decide_eq_true (by first | (with_reducible assumption) | assumption)) HC0_1.out; have HR468 := mk0 (Kd.C_of_reads (h1 := fun _ => rfl) (hA33 _ (Kd.reads_of_C HR0_1.out))); have HC468 := mk0 hC33; clear hA33 hC33 hi033 hsz33) | (go_at_call 52; refine calls_of_args (args' := #[.slice (some ad462) (l0_1.take (x20_2 : Int).toNat).length c0_1, .string t466]) (by have hq_ : x20_2 ≤ (l0_1.length : Int) := of_decide_eq_true (by first | (with_reducible assumption) | assumption); rw [show (l0_1.take (x20_2 : Int).toNat).length = (x20_2 : Int).toNat from by rw [List.length_take]; omega]) ?_; (with_reducible refine (priceofficeref06_has.calls kj53 _ _ (l0_1.take (x20_2 : Int).toNat) t466 true _ ?side1 ?side2 A29.out).mono ?_); (case side1 => repeat (first | exact (Kd.C_below HR468.out HB.out) | (with_reducible refine Kd.C_alloc ?_ _) | (with_reducible refine Kd.C_drewN ?_ _) | (with_reducible refine Kd.C_drew ?_))); (case side2 => exact HC468.out); rintro e w' ⟨rfl, ⟨nd, rfl⟩⟩))
                 go_roundg kj53
                 case measure => have := HJ41.out; have := HK2.out; have := HJ53.out; omega
                 case rel => exact ⟨(wrap64 (x20_2 + 1)), (by first | rfl | (simp; done) | (simp [*]; done)), H', ⟨by have := HJ41.out; have := HK2.out; have := HJ53.out; omega⟩, ⟨by (with_reducible repeat (first | refine blk_drewN ?_ _ | refine blk_drew ?_ | refine blk_alloc ?_ _)); exact BK461.out⟩, ⟨by repeat (first | (with_reducible first | exact HB.out | apply b_a | apply b_n | apply b_d | refine below_set ?_ GE461.out) | exact HB.out)⟩⟩
                ·replace c30 := Bool.eq_false_iff.mpr c30
                 subst c30
                 have H1 : (some 63) = some r := by rw [if_neg (show ¬ (false = true) by decide)] at H; exact H
                 clear H
                 have H := H1
                 clear H1
                 obtain rfl := Option.some.inj H
                 go_wp2_with (first | ((with_reducible refine gate_callee (f := 34) rfl ?_); refine goesL_ (some 43) rfl rfl Tryd.func34 (by kernel_rfl) rfl #[.string (rdOf ByteArray.empty l0_1 x20_2)] rfl (by (try simp only [List.map_toArray, List.map_cons, List.map_nil]); first | done | rfl | (simp only [List.length_drop, List.length_take]; rfl)) ?_; (with_reducible refine (priceofficeref06_Parent.calls kj53 (rdOf ByteArray.empty l0_1 x20_2) t466 t467 _ A24.out).mono ?_); rintro e w34 ⟨rfl, hb⟩; refine ⟨_, rfl, ?_⟩; have n0_ := mk0 (blk_below (g := gb461) (o := .cells #[.string a0_0, .slice (some ad462) l0_1.length c0_1] 28 (0, 0)) (by (with_reducible repeat (first | refine blk_drewN ?_ _ | refine blk_drew ?_ | refine blk_alloc ?_ _)); exact BK461.out) hb); have n1_ := mk0 (below_step (by repeat (first | (with_reducible first | exact HB.out | apply b_a | apply b_n | apply b_d | refine below_set ?_ GE461.out) | exact HB.out)) hb); clear BK461; clear HB; have BK461 := n0_; have HB := n1_; clear n0_ n1_; (try clear hb); (try clear hb2); (try clear hk); (try clear hi); have hcz35_0 : w34.cell? ⟨gb461, 0, none⟩ = some (.string a0_0) := (blk_cell BK461.out 0).trans rfl; have hcz35_1 : w34.cell? ⟨gb461, 1, none⟩ = some (.slice (some ad462) l0_1.length c0_1) := (blk_cell BK461.out 1).trans rfl; have hfz35_0 := blk_frozen BK461.out 0; have hfz35_1 := blk_frozen BK461.out 1; obtain ⟨i036, hi036, _, hsz36, _⟩ := info_parts info9; obtain ⟨hcut36, hA36, hC36⟩ := print_take_of (P := Tryd.prog) Value.string (⟨#[]⟩ : ByteArray) 26 9 .i64 Tryd.underlying26 hi036 hsz36 (some ad462) c0_1 l0_1 x20_2 (of_decide_eq_true (by first | (with_reducible assumption) | assumption)) (of_decide_eq_true (by first | (with_reducible assumption) | assumption)) HC0_1.out; have HR468 := mk0 (Kd.C_of_reads (h1 := fun _ => rfl) (hA36 _ (Kd.reads_of_C HR0_1.out))); have HC468 := mk0 hC36; clear hA36 hC36 hi036 hsz36) | (go_at_call 52; refine calls_of_args (args' := #[.slice (some ad462) (l0_1.take (x20_2 : Int).toNat).length c0_1, .string t466]) (by have hq_ : x20_2 ≤ (l0_1.length : Int) := of_decide_eq_true (by first | (with_reducible assumption) | assumption); rw [show (l0_1.take (x20_2 : Int).toNat).length = (x20_2 : Int).toNat from by rw [List.length_take]; omega]) ?_; (with_reducible refine (priceofficeref06_has.calls kj53 _ _ (l0_1.take (x20_2 : Int).toNat) t466 false _ ?side1 ?side2 A29.out).mono ?_); (case side1 => repeat (first | exact (Kd.C_below HR468.out HB.out) | (with_reducible refine Kd.C_alloc ?_ _) | (with_reducible refine Kd.C_drewN ?_ _) | (with_reducible refine Kd.C_drew ?_))); (case side2 => exact HC468.out); rintro e w' ⟨rfl, ⟨nd, rfl⟩⟩))
                 go_ret
                 exact ⟨by first | rfl | (simp [errW_none, errW_some] <;> rfl) | (simp [*, errW_none, errW_some] <;> rfl), by repeat (first | (with_reducible first | exact HB.out | apply b_a | apply b_n | apply b_d | refine below_set ?_ GE461.out) | exact HB.out)⟩
               ·rw [if_neg c28] at H
                exact absurd H (by simp)
              ·rw [if_neg c27] at H
               exact absurd H (by simp)
         ·replace c13 := Bool.eq_false_iff.mpr c13
          subst c13
          have H1 : (some 60) = some r := by rw [if_neg (show ¬ (false = true) by decide)] at H; exact H
          clear H
          have H := H1
          clear H1
          obtain rfl := Option.some.inj H
          have p462 : 0 ≤ (x20_2 : Int) := of_decide_eq_true (by first | (with_reducible assumption) | assumption)
          have q462 : x20_2 < (l0_1.length : Int) := of_decide_eq_true (by first | (with_reducible assumption) | assumption)
          obtain ⟨ad462, e462, hx462_0⟩ := Kd.at_string HR0_1.out x20_2 p462 q462
          cases e462
          replace hx462_0 := (HB.out.cell (World.block_lt_of_cell? w _ hx462_0)).trans hx462_0
          replace p462 := eq_true p462
          replace q462 := eq_true q462
          go_wp2_with (first | ((with_reducible refine gate_callee (f := 64) rfl ?_); refine goesL_ (some 26) rfl rfl Tryd.func64 (by kernel_rfl) rfl #[.string (rdOf ByteArray.empty l0_1 x20_2)] rfl (by (try simp only [List.map_toArray, List.map_cons, List.map_nil]); first | done | rfl | (simp only [List.length_drop, List.length_take]; rfl)) ?_; (with_reducible refine (priceofficeref06_Is.calls k2 (rdOf ByteArray.empty l0_1 x20_2) false _ A12.out).mono ?_); rintro e w37 ⟨rfl, hb⟩; refine ⟨_, rfl, ?_⟩; have n0_ := mk0 (blk_below (g := gb461) (o := .cells #[.string a0_0, .slice (some ad462) l0_1.length c0_1] 28 (0, 0)) (by (with_reducible repeat (first | refine blk_drewN ?_ _ | refine blk_drew ?_ | refine blk_alloc ?_ _)); exact BK461.out) hb); have n1_ := mk0 (below_step (by repeat (first | (with_reducible first | exact HB.out | apply b_a | apply b_n | apply b_d | refine below_set ?_ GE461.out) | exact HB.out)) hb); clear BK461; clear HB; have BK461 := n0_; have HB := n1_; clear n0_ n1_; (try clear hb); (try clear hb2); (try clear hk); (try clear hi)))
          go_ret
          exact ⟨by first | rfl | (simp [errW_none, errW_some] <;> rfl) | (simp [*, errW_none, errW_some] <;> rfl), by repeat (first | (with_reducible first | exact HB.out | apply b_a | apply b_n | apply b_d | refine below_set ?_ GE461.out) | exact HB.out)⟩
        ·rw [if_neg c11] at H
         exact absurd H (by simp)
       ·rw [if_neg c10] at H
        exact absurd H (by simp)
      ·rw [if_neg c9] at H
       have c9b0 : decide (x20_2 < (l0_1.length : Int)) = false := decide_eq_false c9
       clear c9
       obtain rfl := Option.some.inj H
       go_wp2
       go_ret
       exact ⟨by first | rfl | (simp [errW_none, errW_some] <;> rfl) | (simp [*, errW_none, errW_some] <;> rfl), by repeat (first | (with_reducible first | exact HB.out | apply b_a | apply b_n | apply b_d | refine below_set ?_ GE461.out) | exact HB.out)⟩

end Go.Proofs.YtpnoliognpmkmaaDoor.P
