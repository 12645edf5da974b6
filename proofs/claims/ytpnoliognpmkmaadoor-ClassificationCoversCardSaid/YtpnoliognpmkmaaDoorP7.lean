/- Lean functions with the same answers as the program's Go functions, and for each the proof that the call comes to these answers; written by a program of mine out of the translation, the functions marked 'by hand' by me. -/
import Derived.Test.YtpnoliognpmkmaaDoorP0
namespace Go.Proofs.YtpnoliognpmkmaaDoor.P
open Go.RowKit Go.Proofs.YtpnoliognpmkmaaDoorW.PrintWords Go.Proofs.YtpnoliognpmkmaaDoorW.PrintLast Go.Proofs.YtpnoliognpmkmaaDoorW.PrintMore
attribute [local go_sem] max2_int min2_int max_two min_two max_three min_three max_four min_four   -- for this text's walks alone
set_option linter.unusedVariables false
set_option linter.unusedSimpArgs false

/-! ### priceofficeref06_Parse: function 26 -/
mutual
def priceofficeref06_Parse.l0 : Nat → ByteArray → List Int → Int → Option (List Int × Int)
 | 0, _, _, _ => none
 | k + 1, x0, x4, x5 => priceofficeref06_Parse.l1 k x0 x4 x5 0 x5
def priceofficeref06_Parse.j2 : Nat → ByteArray → List Int → Int → Int → Int → Option (List Int × Int)
 | 0, _, _, _, _, _ => none
 | k + 1, x0, x4, x5, x6, x7 => if x5 = x7 then (priceofficeref06_Parse.j3 k x0 x4 x5 x6 true) else (if x6 = 0 then (priceofficeref06_Parse.j3 k x0 x4 x5 x6 true) else (if (x4.length : Int) = 0 then (if (wrap64 (x5 - x7)) = 2 then (if (x4.length : Int) > 0 then (if 0 ≤ x7 then (if x7 < (x0.size : Int) then (if (bt x0 x7) = 48 then (priceofficeref06_Parse.j3 k x0 x4 x5 x6 true) else (priceofficeref06_Parse.j3 k x0 x4 x5 x6 ((x4.length : Int) == 5))) else (none)) else (none)) else (priceofficeref06_Parse.j3 k x0 x4 x5 x6 ((x4.length : Int) == 5))) else (priceofficeref06_Parse.j3 k x0 x4 x5 x6 true)) else (if (x4.length : Int) > 0 then (if 0 ≤ x7 then (if x7 < (x0.size : Int) then (if (bt x0 x7) = 48 then (priceofficeref06_Parse.j3 k x0 x4 x5 x6 true) else (priceofficeref06_Parse.j3 k x0 x4 x5 x6 ((x4.length : Int) == 5))) else (none)) else (none)) else (priceofficeref06_Parse.j3 k x0 x4 x5 x6 ((x4.length : Int) == 5)))))
def priceofficeref06_Parse.j3 : Nat → ByteArray → List Int → Int → Int → Bool → Option (List Int × Int)
 | 0, _, _, _, _, _ => none
 | k + 1, x0, x4, x5, x6, x74 => if x74 = true then (some (([] : List Int), 60)) else (if x4.length < 17592186044416 then ((some (x4 ++ [x6] : List Int)).bind fun y228 => (if x5 = (x0.size : Int) then (some (y228, 0)) else (if 0 ≤ x5 then (if x5 < (x0.size : Int) then (if (bt x0 x5) = 46 then (priceofficeref06_Parse.l0 k x0 y228 (wrap64 (x5 + 1))) else (some (([] : List Int), 60))) else (none)) else (none)))) else (none))
def priceofficeref06_Parse.l1 : Nat → ByteArray → List Int → Int → Int → Int → Option (List Int × Int)
 | 0, _, _, _, _, _ => none
 | k + 1, x0, x4, x5, x6, x7 => if x5 < (x0.size : Int) then (if 0 ≤ x5 then (if (bt x0 x5) ≥ 48 then (if (bt x0 x5) ≤ 57 then (if (wrap64 (x5 - x7)) < 2 then (priceofficeref06_Parse.l1 k x0 x4 (wrap64 (x5 + 1)) (wrap64 ((wrap64 (10 * x6)) + (((bt x0 x5) - 48) % 256))) x7) else (priceofficeref06_Parse.j2 k x0 x4 x5 x6 x7)) else (priceofficeref06_Parse.j2 k x0 x4 x5 x6 x7)) else (priceofficeref06_Parse.j2 k x0 x4 x5 x6 x7)) else (none)) else (priceofficeref06_Parse.j2 k x0 x4 x5 x6 x7)
end
def priceofficeref06_Parse.f (k : Nat) (a0 : ByteArray) : Option (List Int × Int) := priceofficeref06_Parse.l0 k a0 ([] : List Int) 0
theorem priceofficeref06_Parse.mono_l : ∀ k, (∀ y0 y1 y2, LeO (priceofficeref06_Parse.l0 k y0 y1 y2) (priceofficeref06_Parse.l0 (k + 1) y0 y1 y2)) ∧ (∀ y0 y1 y2 y3 y4, LeO (priceofficeref06_Parse.j2 k y0 y1 y2 y3 y4) (priceofficeref06_Parse.j2 (k + 1) y0 y1 y2 y3 y4)) ∧ (∀ y0 y1 y2 y3 y4, LeO (priceofficeref06_Parse.j3 k y0 y1 y2 y3 y4) (priceofficeref06_Parse.j3 (k + 1) y0 y1 y2 y3 y4)) ∧ (∀ y0 y1 y2 y3 y4, LeO (priceofficeref06_Parse.l1 k y0 y1 y2 y3 y4) (priceofficeref06_Parse.l1 (k + 1) y0 y1 y2 y3 y4))
 | 0 => ⟨fun _ _ _ r h => by simp [priceofficeref06_Parse.l0] at h, fun _ _ _ _ _ r h => by simp [priceofficeref06_Parse.j2] at h, fun _ _ _ _ _ r h => by simp [priceofficeref06_Parse.j3] at h, fun _ _ _ _ _ r h => by simp [priceofficeref06_Parse.l1] at h⟩
 | k + 1 => by
  obtain ⟨ih0, ih1, ih2, ih3⟩ := priceofficeref06_Parse.mono_l k
  refine ⟨?_, ?_, ?_, ?_⟩
  ·intro y0 y1 y2
   unfold priceofficeref06_Parse.l0
   repeat' first
   | (with_reducible exact ih0 _ _ _)
   | (with_reducible exact ih1 _ _ _ _ _)
   | (with_reducible exact ih2 _ _ _ _ _)
   | (with_reducible exact ih3 _ _ _ _ _)
   | (with_reducible exact LeO.refl _)
   | (with_reducible exact LeO.none _)
   | (with_reducible refine LeO.ite ?_ ?_)
   | (with_reducible refine LeO.bind ?_ (fun _ => ?_))
   | exact ih0 _ _ _
   | exact ih1 _ _ _ _ _
   | exact ih2 _ _ _ _ _
   | exact ih3 _ _ _ _ _
   | exact LeO.none _
   | refine LeO.ite ?_ ?_
   | refine LeO.bind ?_ (fun _ => ?_)
  ·intro y0 y1 y2 y3 y4
   unfold priceofficeref06_Parse.j2
   repeat' first
   | (with_reducible exact ih0 _ _ _)
   | (with_reducible exact ih1 _ _ _ _ _)
   | (with_reducible exact ih2 _ _ _ _ _)
   | (with_reducible exact ih3 _ _ _ _ _)
   | (with_reducible exact LeO.refl _)
   | (with_reducible exact LeO.none _)
   | (with_reducible refine LeO.ite ?_ ?_)
   | (with_reducible refine LeO.bind ?_ (fun _ => ?_))
   | exact ih0 _ _ _
   | exact ih1 _ _ _ _ _
   | exact ih2 _ _ _ _ _
   | exact ih3 _ _ _ _ _
   | exact LeO.none _
   | refine LeO.ite ?_ ?_
   | refine LeO.bind ?_ (fun _ => ?_)
  ·intro y0 y1 y2 y3 y4
   unfold priceofficeref06_Parse.j3
   repeat' first
   | (with_reducible exact ih0 _ _ _)
   | (with_reducible exact ih1 _ _ _ _ _)
   | (with_reducible exact ih2 _ _ _ _ _)
   | (with_reducible exact ih3 _ _ _ _ _)
   | (with_reducible exact LeO.refl _)
   | (with_reducible exact LeO.none _)
   | (with_reducible refine LeO.ite ?_ ?_)
   | (with_reducible refine LeO.bind ?_ (fun _ => ?_))
   | exact ih0 _ _ _
   | exact ih1 _ _ _ _ _
   | exact ih2 _ _ _ _ _
   | exact ih3 _ _ _ _ _
   | exact LeO.none _
   | refine LeO.ite ?_ ?_
   | refine LeO.bind ?_ (fun _ => ?_)
  ·intro y0 y1 y2 y3 y4
   unfold priceofficeref06_Parse.l1
   repeat' first
   | (with_reducible exact ih0 _ _ _)
   | (with_reducible exact ih1 _ _ _ _ _)
   | (with_reducible exact ih2 _ _ _ _ _)
   | (with_reducible exact ih3 _ _ _ _ _)
   | (with_reducible exact LeO.refl _)
   | (with_reducible exact LeO.none _)
   | (with_reducible refine LeO.ite ?_ ?_)
   | (with_reducible refine LeO.bind ?_ (fun _ => ?_))
   | exact ih0 _ _ _
   | exact ih1 _ _ _ _ _
   | exact ih2 _ _ _ _ _
   | exact ih3 _ _ _ _ _
   | exact LeO.none _
   | refine LeO.ite ?_ ?_
   | refine LeO.bind ?_ (fun _ => ?_)
theorem priceofficeref06_Parse.mono : ∀ a0 k, LeO (priceofficeref06_Parse.f k a0) (priceofficeref06_Parse.f (k + 1) a0) := by
 intro a0 k
 obtain ⟨ih0, ih1, ih2, ih3⟩ := priceofficeref06_Parse.mono_l k
 unfold priceofficeref06_Parse.f
 repeat' first
   | (with_reducible exact ih0 _ _ _)
   | (with_reducible exact ih1 _ _ _ _ _)
   | (with_reducible exact ih2 _ _ _ _ _)
   | (with_reducible exact ih3 _ _ _ _ _)
   | (with_reducible exact LeO.refl _)
   | (with_reducible exact LeO.none _)
   | (with_reducible refine LeO.ite ?_ ?_)
   | (with_reducible refine LeO.bind ?_ (fun _ => ?_))
   | exact ih0 _ _ _
   | exact ih1 _ _ _ _ _
   | exact ih2 _ _ _ _ _
   | exact ih3 _ _ _ _ _
   | exact LeO.none _
   | refine LeO.ite ?_ ?_
   | refine LeO.bind ?_ (fun _ => ?_)
set_option maxHeartbeats 8000000 in
set_option maxRecDepth 100000 in
theorem priceofficeref06_Parse.calls (k : Nat) (a0 : ByteArray) (r1 : List Int) (r2 : Int) (w : World) (h : priceofficeref06_Parse.f k a0 = some (r1, r2)) :
  Calls Tryd.prog 26 #[.string a0] w fun e w' => ∃ v0_ : Value, e = .returned (.tuple #[v0_, .int .i64 r2]) ∧ Kd.R (Kd.int .i64) 3 w' w.heap.size (fun _ => True) v0_ r1 ∧ Below w.heap.size w w' := by
 have HB := mk0 (Below.refl w.heap.size w)
 have H : (priceofficeref06_Parse.l0 k a0 ([] : List Int) 0) = some (r1, r2) := h
 clear h
 have H' := mk0 H
 clear H
 go_enter Tryd.func26, Tryd.ntmps26
 go_wp2
 go_loopg [4, 5] k (fun kq v4 v5 w' => ∃ (x4_1 : List Int) (x5_1 : Int), v5 = .int .i64 x5_1 ∧ Aside0 (priceofficeref06_Parse.l0 kq a0 x4_1 x5_1 = some (r1, r2)) ∧ Aside0 (kq ≤ k) ∧ Aside0 (Kd.R (Kd.int .i64) 3 w' w.heap.size (fun _ => True) v4 x4_1) ∧ Aside0 (Below w.heap.size w w'))
 case atStart => exact ⟨(([] : List Int)), (0), (by first | rfl | (simp; done) | (simp [*]; done)), H', ⟨Nat.le_refl _⟩, ⟨by first | exact Kd.R_nil _ _ _ _ _ | exact Kd.N_nil _ _ _ _ _ | exact Kd.V_nil _ _ _ _ _ | exact Kd.Q_nil _ _ _ _ _ | exact Kd.S_nil _ _ _ _ _⟩, ⟨by repeat (first | (with_reducible first | exact HB.out | apply b_a | apply b_n | apply b_d) | exact HB.out)⟩⟩
 case round =>
  clear H'
  obtain ⟨x4_1, x5_1, rfl, HA, HK1, HO_4, HB⟩ := hrel
  cases gk with
  | zero => exact absurd HA.out (by simp [priceofficeref06_Parse.l0])
  | succ k1 =>
   have H := HA.out
   clear HA
   simp only [priceofficeref06_Parse.l0] at H
   have HC2 := mk0 H
   clear H
   go_upto_block 2 with (fail)
   go_cut [5, 6] (fun v5 v6 wc => ∃ (kq : Nat) (x5_41 : Int) (x6_41 : Int), v5 = .int .i64 x5_41 ∧ v6 = .int .i64 x6_41 ∧ Aside0 (priceofficeref06_Parse.j2 kq a0 x4_1 x5_41 x6_41 x5_1 = some (r1, r2)) ∧ Aside0 (kq ≤ k1) ∧ Aside0 (Kd.R (Kd.int .i64) 3 wc w.heap.size (fun _ => True) u4 x4_1) ∧ Aside0 (Below w.heap.size w wc))
   case first =>
    have H := HC2.out
    clear HC2
    have H' := mk0 H
    clear H
    go_wp2
    go_loopg [5, 6] k1 (fun kq v5 v6 w' => ∃ (x5_2 : Int) (x6_2 : Int), v5 = .int .i64 x5_2 ∧ v6 = .int .i64 x6_2 ∧ Aside0 (priceofficeref06_Parse.l1 kq a0 x4_1 x5_2 x6_2 x5_1 = some (r1, r2)) ∧ Aside0 (kq ≤ k1) ∧ Aside0 (Kd.R (Kd.int .i64) 3 w' w.heap.size (fun _ => True) u4 x4_1) ∧ Aside0 (Below w.heap.size w w'))
    case atStart => exact ⟨(x5_1), (0), (by first | rfl | (simp; done) | (simp [*]; done)), (by first | rfl | (simp; done) | (simp [*]; done)), H', ⟨Nat.le_refl _⟩, ⟨by (with_reducible repeat (first | apply r_a | apply r_n | apply r_d)); exact HO_4.out⟩, ⟨by repeat (first | (with_reducible first | exact HB.out | apply b_a | apply b_n | apply b_d) | exact HB.out)⟩⟩
    case round =>
     clear H'
     try clear c2
     try clear p2
     obtain ⟨x5_2, x6_2, rfl, rfl, HA, HK2, HO_4, HB⟩ := hrel
     cases gk with
     | zero => exact absurd HA.out (by simp [priceofficeref06_Parse.l1])
     | succ k2 =>
      have H := HA.out
      clear HA
      simp only [priceofficeref06_Parse.l1] at H
      by_cases c3 : x5_2 < (a0.size : Int)
      ·rw [if_pos c3] at H
       have c3b0 : decide (x5_2 < (a0.size : Int)) = true := decide_eq_true c3
       clear c3
       (first | rw [c3b0] | (simp only [i64_w, i32_w]; rw [c3b0]) | skip)
       by_cases c4 : 0 ≤ x5_2
       ·rw [if_pos c4] at H
        have c4b0 : decide (0 ≤ x5_2) = true := decide_eq_true c4
        clear c4
        by_cases c6 : (bt a0 x5_2) ≥ 48
        ·rw [if_pos c6] at H
         have c6b0 : decide (48 ≤ (bt a0 x5_2)) = true := decide_eq_true c6
         clear c6
         by_cases c8 : (bt a0 x5_2) ≤ 57
         ·rw [if_pos c8] at H
          have c8b0 : decide ((bt a0 x5_2) ≤ 57) = true := decide_eq_true c8
          clear c8
          by_cases c9 : (wrap64 (x5_2 - x5_1)) < 2
          ·rw [if_pos c9] at H
           have c9b0 : decide ((wrap64 (x5_2 - x5_1)) < 2) = true := decide_eq_true c9
           clear c9
           have H' := mk0 H
           clear H
           have p5 : 0 ≤ (x5_2 : Int) := of_decide_eq_true (by first | (with_reducible assumption) | assumption)
           have q5 : x5_2 < (a0.size : Int) := of_decide_eq_true (by first | (with_reducible assumption) | assumption)
           have hx5 := bt_at a0 x5_2
           replace p5 := eq_true p5
           replace q5 := eq_true q5
           have p7 : 0 ≤ (x5_2 : Int) := of_decide_eq_true (by first | (with_reducible assumption) | assumption)
           have q7 : x5_2 < (a0.size : Int) := of_decide_eq_true (by first | (with_reducible assumption) | assumption)
           have hx7 := bt_at a0 x5_2
           replace p7 := eq_true p7
           replace q7 := eq_true q7
           have p10 : 0 ≤ (x5_2 : Int) := of_decide_eq_true (by first | (with_reducible assumption) | assumption)
           have q10 : x5_2 < (a0.size : Int) := of_decide_eq_true (by first | (with_reducible assumption) | assumption)
           have hx10 := bt_at a0 x5_2
           replace p10 := eq_true p10
           replace q10 := eq_true q10
           go_wp2
           go_roundg k2
           case measure => have := HK1.out; have := HK2.out; omega
           case rel => exact ⟨(wrap64 (x5_2 + 1)), (wrap64 ((wrap64 (10 * x6_2)) + (((bt a0 x5_2) - 48) % 256))), (by first | rfl | (simp; done) | (simp [*]; done)), (by first | rfl | (simp; done) | (simp [*]; done)), H', ⟨by have := HK1.out; have := HK2.out; omega⟩, ⟨by (with_reducible repeat (first | apply r_a | apply r_n | apply r_d)); exact HO_4.out⟩, ⟨by repeat (first | (with_reducible first | exact HB.out | apply b_a | apply b_n | apply b_d) | exact HB.out)⟩⟩
          ·rw [if_neg c9] at H
           have c9b0 : decide ((wrap64 (x5_2 - x5_1)) < 2) = false := decide_eq_false c9
           clear c9
           have H' := mk0 H
           clear H
           have p5 : 0 ≤ (x5_2 : Int) := of_decide_eq_true (by first | (with_reducible assumption) | assumption)
           have q5 : x5_2 < (a0.size : Int) := of_decide_eq_true (by first | (with_reducible assumption) | assumption)
           have hx5 := bt_at a0 x5_2
           replace p5 := eq_true p5
           replace q5 := eq_true q5
           have p7 : 0 ≤ (x5_2 : Int) := of_decide_eq_true (by first | (with_reducible assumption) | assumption)
           have q7 : x5_2 < (a0.size : Int) := of_decide_eq_true (by first | (with_reducible assumption) | assumption)
           have hx7 := bt_at a0 x5_2
           replace p7 := eq_true p7
           replace q7 := eq_true q7
           go_wp2
           go_meet
           case rel => exact ⟨_, (x5_2), (x6_2), (by first | rfl | (simp; done) | (simp [*]; done)), (by first | rfl | (simp; done) | (simp [*]; done)), H', ⟨by have := HK1.out; have := HK2.out; first | omega | exact Nat.le_refl _⟩, ⟨by (with_reducible repeat (first | apply r_a | apply r_n | apply r_d)); exact HO_4.out⟩, ⟨by repeat (first | (with_reducible first | exact HB.out | apply b_a | apply b_n | apply b_d) | exact HB.out)⟩⟩
         ·rw [if_neg c8] at H
          have c8b0 : decide ((bt a0 x5_2) ≤ 57) = false := decide_eq_false c8
          clear c8
          have H' := mk0 H
          clear H
          have p5 : 0 ≤ (x5_2 : Int) := of_decide_eq_true (by first | (with_reducible assumption) | assumption)
          have q5 : x5_2 < (a0.size : Int) := of_decide_eq_true (by first | (with_reducible assumption) | assumption)
          have hx5 := bt_at a0 x5_2
          replace p5 := eq_true p5
          replace q5 := eq_true q5
          have p7 : 0 ≤ (x5_2 : Int) := of_decide_eq_true (by first | (with_reducible assumption) | assumption)
          have q7 : x5_2 < (a0.size : Int) := of_decide_eq_true (by first | (with_reducible assumption) | assumption)
          have hx7 := bt_at a0 x5_2
          replace p7 := eq_true p7
          replace q7 := eq_true q7
          go_wp2
          go_meet
          case rel => exact ⟨_, (x5_2), (x6_2), (by first | rfl | (simp; done) | (simp [*]; done)), (by first | rfl | (simp; done) | (simp [*]; done)), H', ⟨by have := HK1.out; have := HK2.out; first | omega | exact Nat.le_refl _⟩, ⟨by (with_reducible repeat (first | apply r_a | apply r_n | apply r_d)); exact HO_4.out⟩, ⟨by repeat (first | (with_reducible first | exact HB.out | apply b_a | apply b_n | apply b_d) | exact HB.out)⟩⟩
        ·rw [if_neg c6] at H
         have c6b0 : decide (48 ≤ (bt a0 x5_2)) = false := decide_eq_false c6
         clear c6
         have H' := mk0 H
         clear H
         have p5 : 0 ≤ (x5_2 : Int) := of_decide_eq_true (by first | (with_reducible assumption) | assumption)
         have q5 : x5_2 < (a0.size : Int) := of_decide_eq_true (by first | (with_reducible assumption) | assumption)
         have hx5 := bt_at a0 x5_2
         replace p5 := eq_true p5
         replace q5 := eq_true q5
         go_wp2
         go_meet
         case rel => exact ⟨_, (x5_2), (x6_2), (by first | rfl | (simp; done) | (simp [*]; done)), (by first | rfl | (simp; done) | (simp [*]; done)), H', ⟨by have := HK1.out; have := HK2.out; first | omega | exact Nat.le_refl _⟩, ⟨by (with_reducible repeat (first | apply r_a | apply r_n | apply r_d)); exact HO_4.out⟩, ⟨by repeat (first | (with_reducible first | exact HB.out | apply b_a | apply b_n | apply b_d) | exact HB.out)⟩⟩
       ·rw [if_neg c4] at H
        exact absurd H (by simp)
      ·rw [if_neg c3] at H
       have c3b0 : decide (x5_2 < (a0.size : Int)) = false := decide_eq_false c3
       clear c3
       (first | rw [c3b0] | (simp only [i64_w, i32_w]; rw [c3b0]) | skip)
       have H' := mk0 H
       clear H
       go_wp2
       go_meet
       case rel => exact ⟨_, (x5_2), (x6_2), (by first | rfl | (simp; done) | (simp [*]; done)), (by first | rfl | (simp; done) | (simp [*]; done)), H', ⟨by have := HK1.out; have := HK2.out; first | omega | exact Nat.le_refl _⟩, ⟨by (with_reducible repeat (first | apply r_a | apply r_n | apply r_d)); exact HO_4.out⟩, ⟨by repeat (first | (with_reducible first | exact HB.out | apply b_a | apply b_n | apply b_d) | exact HB.out)⟩⟩
   case rest =>
    clear HC2
    try clear p1
    try clear q1
    try clear hx1
    try clear c2
    try clear p2
    try clear c3
    try clear c3b0
    try clear c4
    try clear c4b0
    try clear p5
    try clear q5
    try clear hx5
    try clear c6
    try clear c6b0
    try clear p6
    try clear p7
    try clear q7
    try clear hx7
    try clear c8
    try clear c8b0
    try clear c9
    try clear c9b0
    try clear p10
    try clear q10
    try clear hx10
    try clear p10
    try clear p2
    try clear p5
    try clear p7
    try clear q10
    try clear q5
    try clear q7
    obtain ⟨kq, x5_41, x6_41, rfl, rfl, HA, HJ41, HO_4, HB⟩ := hcut
    cases kq with
    | zero => exact absurd HA.out (by simp [priceofficeref06_Parse.j2])
    | succ kj41 =>
     have H := HA.out
     clear HA
     simp only [priceofficeref06_Parse.j2] at H
     have HC11 := mk0 H
     clear H
     go_upto_region 7 with (fail)
     go_cut [74] (fun v74 wc => ∃ (kq : Nat) (x74_50 : Bool), v74 = .bool x74_50 ∧ Aside0 (priceofficeref06_Parse.j3 kq a0 x4_1 x5_41 x6_41 x74_50 = some (r1, r2)) ∧ Aside0 (kq ≤ kj41) ∧ Aside0 (Kd.R (Kd.int .i64) 3 wc w.heap.size (fun _ => True) u4 x4_1) ∧ Aside0 (Below w.heap.size w wc))
     case first =>
      have H := HC11.out
      clear HC11
      by_cases c12 : x5_41 = x5_1
      ·rw [if_pos c12] at H
       have c12b0 : (x5_41 == x5_1) = true := beq_iff_eq.mpr c12
       have c12b1 : (x5_41 != x5_1) = false := bne_eq_false_iff_eq.mpr c12
       clear c12
       (first | rw [c12b0] | (simp only [i64_w, i32_w]; rw [c12b0]) | skip)
       have H' := mk0 H
       clear H
       go_wp2
       go_meet
       case rel => exact ⟨_, (true), (by first | rfl | (simp; done) | (simp [*]; done)), H', ⟨by have := HK1.out; have := HJ41.out; first | omega | exact Nat.le_refl _⟩, ⟨by (with_reducible repeat (first | apply r_a | apply r_n | apply r_d)); exact HO_4.out⟩, ⟨by repeat (first | (with_reducible first | exact HB.out | apply b_a | apply b_n | apply b_d) | exact HB.out)⟩⟩
      ·rw [if_neg c12] at H
       have c12b0 : (x5_41 == x5_1) = false := beq_eq_false_iff_ne.mpr c12
       have c12b1 : (x5_41 != x5_1) = true := bne_iff_ne.mpr c12
       (first | rw [c12b0] | (simp only [i64_w, i32_w]; rw [c12b0]) | skip)
       by_cases c13 : x6_41 = 0
       ·rw [if_pos c13] at H
        have c13b0 : (x6_41 == 0) = true := beq_iff_eq.mpr c13
        have c13b1 : (x6_41 != 0) = false := bne_eq_false_iff_eq.mpr c13
        clear c13
        have H' := mk0 H
        clear H
        go_wp2
        go_meet
        case rel => exact ⟨_, (true), (by first | rfl | (simp; done) | (simp [*]; done)), H', ⟨by have := HK1.out; have := HJ41.out; first | omega | exact Nat.le_refl _⟩, ⟨by (with_reducible repeat (first | apply r_a | apply r_n | apply r_d)); exact HO_4.out⟩, ⟨by repeat (first | (with_reducible first | exact HB.out | apply b_a | apply b_n | apply b_d) | exact HB.out)⟩⟩
       ·rw [if_neg c13] at H
        have c13b0 : (x6_41 == 0) = false := beq_eq_false_iff_ne.mpr c13
        have c13b1 : (x6_41 != 0) = true := bne_iff_ne.mpr c13
        by_cases c14 : (x4_1.length : Int) = 0
        ·rw [if_pos c14] at H
         have c14b0 : ((x4_1.length : Int) == 0) = true := beq_iff_eq.mpr c14
         have c14b1 : ((x4_1.length : Int) != 0) = false := bne_eq_false_iff_eq.mpr c14
         clear c14
         by_cases c15 : (wrap64 (x5_41 - x5_1)) = 2
         ·rw [if_pos c15] at H
          have c15b0 : ((wrap64 (x5_41 - x5_1)) == 2) = true := beq_iff_eq.mpr c15
          have c15b1 : ((wrap64 (x5_41 - x5_1)) != 2) = false := bne_eq_false_iff_eq.mpr c15
          clear c15
          by_cases c16 : (x4_1.length : Int) > 0
          ·rw [if_pos c16] at H
           have c16b0 : decide (0 < (x4_1.length : Int)) = true := decide_eq_true c16
           have c16b1 : decide (0 < x4_1.length) = true := decide_eq_true (by omega)
           clear c16
           by_cases c17 : 0 ≤ x5_1
           ·rw [if_pos c17] at H
            have c17b0 : decide (0 ≤ x5_1) = true := decide_eq_true c17
            clear c17
            by_cases c18 : x5_1 < (a0.size : Int)
            ·rw [if_pos c18] at H
             have c18b0 : decide (x5_1 < (a0.size : Int)) = true := decide_eq_true c18
             clear c18
             by_cases c20 : (bt a0 x5_1) = 48
             ·rw [if_pos c20] at H
              have c20b0 : ((bt a0 x5_1) == 48) = true := beq_iff_eq.mpr c20
              have c20b1 : ((bt a0 x5_1) != 48) = false := bne_eq_false_iff_eq.mpr c20
              clear c20
              have H' := mk0 H
              clear H
              obtain ⟨Ao21, co21, eo21⟩ := Kd.R_slice HO_4.out
              subst eo21
              have p19 : 0 ≤ (x5_1 : Int) := of_decide_eq_true (by first | (with_reducible assumption) | assumption)
              have q19 : x5_1 < (a0.size : Int) := of_decide_eq_true (by first | (with_reducible assumption) | assumption)
              have hx19 := bt_at a0 x5_1
              replace p19 := eq_true p19
              replace q19 := eq_true q19
              go_wp2
              go_meet
              case rel => exact ⟨_, (true), (by first | rfl | (simp; done) | (simp [*]; done)), H', ⟨by have := HK1.out; have := HJ41.out; first | omega | exact Nat.le_refl _⟩, ⟨by (with_reducible repeat (first | apply r_a | apply r_n | apply r_d)); exact HO_4.out⟩, ⟨by repeat (first | (with_reducible first | exact HB.out | apply b_a | apply b_n | apply b_d) | exact HB.out)⟩⟩
             ·rw [if_neg c20] at H
              have c20b0 : ((bt a0 x5_1) == 48) = false := beq_eq_false_iff_ne.mpr c20
              have c20b1 : ((bt a0 x5_1) != 48) = true := bne_iff_ne.mpr c20
              have H' := mk0 H
              clear H
              obtain ⟨Ao22, co22, eo22⟩ := Kd.R_slice HO_4.out
              subst eo22
              have p19 : 0 ≤ (x5_1 : Int) := of_decide_eq_true (by first | (with_reducible assumption) | assumption)
              have q19 : x5_1 < (a0.size : Int) := of_decide_eq_true (by first | (with_reducible assumption) | assumption)
              have hx19 := bt_at a0 x5_1
              replace p19 := eq_true p19
              replace q19 := eq_true q19
              go_wp2
              go_meet
              case rel => exact ⟨_, (((x4_1.length : Int) == 5)), (by first | rfl | (simp; done) | (simp [*]; done)), H', ⟨by have := HK1.out; have := HJ41.out; first | omega | exact Nat.le_refl _⟩, ⟨by (with_reducible repeat (first | apply r_a | apply r_n | apply r_d)); exact HO_4.out⟩, ⟨by repeat (first | (with_reducible first | exact HB.out | apply b_a | apply b_n | apply b_d) | exact HB.out)⟩⟩
            ·rw [if_neg c18] at H
             exact absurd H (by simp)
           ·rw [if_neg c17] at H
            exact absurd H (by simp)
          ·rw [if_neg c16] at H
           have c16b0 : decide (0 < (x4_1.length : Int)) = false := decide_eq_false c16
           have c16b1 : decide (0 < x4_1.length) = false := decide_eq_false (by omega)
           clear c16
           have H' := mk0 H
           clear H
           obtain ⟨Ao23, co23, eo23⟩ := Kd.R_slice HO_4.out
           subst eo23
           go_wp2
           go_meet
           case rel => exact ⟨_, (((x4_1.length : Int) == 5)), (by first | rfl | (simp; done) | (simp [*]; done)), H', ⟨by have := HK1.out; have := HJ41.out; first | omega | exact Nat.le_refl _⟩, ⟨by (with_reducible repeat (first | apply r_a | apply r_n | apply r_d)); exact HO_4.out⟩, ⟨by repeat (first | (with_reducible first | exact HB.out | apply b_a | apply b_n | apply b_d) | exact HB.out)⟩⟩
         ·rw [if_neg c15] at H
          have c15b0 : ((wrap64 (x5_41 - x5_1)) == 2) = false := beq_eq_false_iff_ne.mpr c15
          have c15b1 : ((wrap64 (x5_41 - x5_1)) != 2) = true := bne_iff_ne.mpr c15
          have H' := mk0 H
          clear H
          obtain ⟨Ao24, co24, eo24⟩ := Kd.R_slice HO_4.out
          subst eo24
          go_wp2
          go_meet
          case rel => exact ⟨_, (true), (by first | rfl | (simp; done) | (simp [*]; done)), H', ⟨by have := HK1.out; have := HJ41.out; first | omega | exact Nat.le_refl _⟩, ⟨by (with_reducible repeat (first | apply r_a | apply r_n | apply r_d)); exact HO_4.out⟩, ⟨by repeat (first | (with_reducible first | exact HB.out | apply b_a | apply b_n | apply b_d) | exact HB.out)⟩⟩
        ·rw [if_neg c14] at H
         have c14b0 : ((x4_1.length : Int) == 0) = false := beq_eq_false_iff_ne.mpr c14
         have c14b1 : ((x4_1.length : Int) != 0) = true := bne_iff_ne.mpr c14
         have c14b2 : ¬ (x4_1 = []) := fun h_ => c14 (by rw [h_]; rfl)
         by_cases c25 : (x4_1.length : Int) > 0
         ·rw [if_pos c25] at H
          have c25b0 : decide (0 < (x4_1.length : Int)) = true := decide_eq_true c25
          have c25b1 : decide (0 < x4_1.length) = true := decide_eq_true (by omega)
          clear c25
          by_cases c26 : 0 ≤ x5_1
          ·rw [if_pos c26] at H
           have c26b0 : decide (0 ≤ x5_1) = true := decide_eq_true c26
           clear c26
           by_cases c27 : x5_1 < (a0.size : Int)
           ·rw [if_pos c27] at H
            have c27b0 : decide (x5_1 < (a0.size : Int)) = true := decide_eq_true c27
            clear c27
            by_cases c29 : (bt a0 x5_1) = 48
            ·rw [if_pos c29] at H
             have c29b0 : ((bt a0 x5_1) == 48) = true := beq_iff_eq.mpr c29
             have c29b1 : ((bt a0 x5_1) != 48) = false := bne_eq_false_iff_eq.mpr c29
             clear c29
             have H' := mk0 H
             clear H
             obtain ⟨Ao30, co30, eo30⟩ := Kd.R_slice HO_4.out
             subst eo30
             have p28 : 0 ≤ (x5_1 : Int) := of_decide_eq_true (by first | (with_reducible assumption) | assumption)
             have q28 : x5_1 < (a0.size : Int) := of_decide_eq_true (by first | (with_reducible assumption) | assumption)
             have hx28 := bt_at a0 x5_1
             replace p28 := eq_true p28
             replace q28 := eq_true q28
             go_wp2
             go_meet
             case rel => exact ⟨_, (true), (by first | rfl | (simp; done) | (simp [*]; done)), H', ⟨by have := HK1.out; have := HJ41.out; first | omega | exact Nat.le_refl _⟩, ⟨by (with_reducible repeat (first | apply r_a | apply r_n | apply r_d)); exact HO_4.out⟩, ⟨by repeat (first | (with_reducible first | exact HB.out | apply b_a | apply b_n | apply b_d) | exact HB.out)⟩⟩
            ·rw [if_neg c29] at H
             have c29b0 : ((bt a0 x5_1) == 48) = false := beq_eq_false_iff_ne.mpr c29
             have c29b1 : ((bt a0 x5_1) != 48) = true := bne_iff_ne.mpr c29
             have H' := mk0 H
             clear H
             obtain ⟨Ao31, co31, eo31⟩ := Kd.R_slice HO_4.out
             subst eo31
             have p28 : 0 ≤ (x5_1 : Int) := of_decide_eq_true (by first | (with_reducible assumption) | assumption)
             have q28 : x5_1 < (a0.size : Int) := of_decide_eq_true (by first | (with_reducible assumption) | assumption)
             have hx28 := bt_at a0 x5_1
             replace p28 := eq_true p28
             replace q28 := eq_true q28
             go_wp2
             go_meet
             case rel => exact ⟨_, (((x4_1.length : Int) == 5)), (by first | rfl | (simp; done) | (simp [*]; done)), H', ⟨by have := HK1.out; have := HJ41.out; first | omega | exact Nat.le_refl _⟩, ⟨by (with_reducible repeat (first | apply r_a | apply r_n | apply r_d)); exact HO_4.out⟩, ⟨by repeat (first | (with_reducible first | exact HB.out | apply b_a | apply b_n | apply b_d) | exact HB.out)⟩⟩
           ·rw [if_neg c27] at H
            exact absurd H (by simp)
          ·rw [if_neg c26] at H
           exact absurd H (by simp)
         ·rw [if_neg c25] at H
          have c25b0 : decide (0 < (x4_1.length : Int)) = false := decide_eq_false c25
          have c25b1 : decide (0 < x4_1.length) = false := decide_eq_false (by omega)
          clear c25
          have H' := mk0 H
          clear H
          obtain ⟨Ao32, co32, eo32⟩ := Kd.R_slice HO_4.out
          subst eo32
          go_wp2
          go_meet
          case rel => exact ⟨_, (((x4_1.length : Int) == 5)), (by first | rfl | (simp; done) | (simp [*]; done)), H', ⟨by have := HK1.out; have := HJ41.out; first | omega | exact Nat.le_refl _⟩, ⟨by (with_reducible repeat (first | apply r_a | apply r_n | apply r_d)); exact HO_4.out⟩, ⟨by repeat (first | (with_reducible first | exact HB.out | apply b_a | apply b_n | apply b_d) | exact HB.out)⟩⟩
     case rest =>
      clear HC11
      try clear c1
      try clear p1
      try clear q1
      try clear hx1
      try clear c2
      try clear p2
      try clear q2
      try clear hx2
      try clear c3
      try clear c3b0
      try clear c4
      try clear c4b0
      try clear p5
      try clear q5
      try clear hx5
      try clear c6
      try clear c6b0
      try clear p6
      try clear p7
      try clear q7
      try clear hx7
      try clear c8
      try clear c8b0
      try clear c9
      try clear c9b0
      try clear p10
      try clear q10
      try clear hx10
      try clear c12
      try clear c12b0
      try clear c12b1
      try clear c13
      try clear c13b0
      try clear c13b1
      try clear c14
      try clear c14b0
      try clear c14b1
      try clear c14b2
      try clear c15
      try clear c15b0
      try clear c15b1
      try clear c16
      try clear c16b0
      try clear c16b1
      try clear c17
      try clear c17b0
      try clear c18
      try clear c18b0
      try clear p19
      try clear q19
      try clear hx19
      try clear c20
      try clear c20b0
      try clear c20b1
      try clear c25
      try clear c25b0
      try clear c25b1
      try clear c26
      try clear c26b0
      try clear c27
      try clear c27b0
      try clear p28
      try clear q28
      try clear hx28
      try clear c29
      try clear c29b0
      try clear c29b1
      try clear p1
      try clear p10
      try clear p19
      try clear p2
      try clear p28
      try clear p5
      try clear p6
      try clear p7
      try clear q1
      try clear q10
      try clear q19
      try clear q28
      try clear q5
      try clear q7
      obtain ⟨kq, x74_50, rfl, HA, HJ50, HO_4, HB⟩ := hcut
      cases kq with
      | zero => exact absurd HA.out (by simp [priceofficeref06_Parse.j3])
      | succ kj50 =>
       have H := HA.out
       clear HA
       simp only [priceofficeref06_Parse.j3] at H
       by_cases c33 : x74_50 = true
       ·subst c33
        have H1 : (some (([] : List Int), 60)) = some (r1, r2) := by rw [if_pos rfl] at H; exact H
        clear H
        have H := H1
        clear H1
        simp only [Option.some.injEq, Prod.mk.injEq] at H
        obtain ⟨rfl, rfl⟩ := H
        go_wp2
        go_ret2
        exact ⟨_, by first | rfl | (simp [errW_none, errW_some] <;> rfl) | (simp [*, errW_none, errW_some] <;> rfl), by first | exact Kd.R_nil _ _ _ _ _ | exact Kd.N_nil _ _ _ _ _ | exact Kd.V_nil _ _ _ _ _ | exact Kd.Q_nil _ _ _ _ _ | exact Kd.S_nil _ _ _ _ _, by repeat (first | (with_reducible first | exact HB.out | apply b_a | apply b_n | apply b_d) | exact HB.out)⟩
       ·replace c33 := Bool.eq_false_iff.mpr c33
        subst c33
        have H1 : (if x4_1.length < 17592186044416 then ((some (x4_1 ++ [x6_41] : List Int)).bind fun y228 => (if x5_41 = (a0.size : Int) then (some (y228, 0)) else (if 0 ≤ x5_41 then (if x5_41 < (a0.size : Int) then (if (bt a0 x5_41) = 46 then (priceofficeref06_Parse.l0 kj50 a0 y228 (wrap64 (x5_41 + 1))) else (some (([] : List Int), 60))) else (none)) else (none)))) else (none)) = some (r1, r2) := by rw [if_neg (show ¬ (false = true) by decide)] at H; exact H
        clear H
        have H := H1
        clear H1
        by_cases c34 : x4_1.length < 17592186044416
        ·rw [if_pos c34] at H
         have LMc34 := mk0 c34
         clear c34
         obtain ⟨y228, hy228⟩ : ∃ y_ : List Int, y_ = (x4_1 ++ [x6_41]) := ⟨_, rfl⟩
         replace H : (if x5_41 = (a0.size : Int) then (some (y228, 0)) else (if 0 ≤ x5_41 then (if x5_41 < (a0.size : Int) then (if (bt a0 x5_41) = 46 then (priceofficeref06_Parse.l0 kj50 a0 y228 (wrap64 (x5_41 + 1))) else (some (([] : List Int), 60))) else (none)) else (none))) = some (r1, r2) := by first | (rw [hy228]; with_reducible exact H) | (have H2_ := (Option.bind_some _ _).symm.trans H; rw [hy228]; with_reducible exact H2_) | (have H2_ := (Option.bind_some _ _).symm.trans H; with_reducible exact H2_) | with_reducible exact H | (rw [hy228]; exact H) | exact H
         have Ny228 := mk0 hy228
         clear hy228
         by_cases c35 : x5_41 = (a0.size : Int)
         ·rw [if_pos c35] at H
          have c35b0 : (x5_41 == (a0.size : Int)) = true := beq_iff_eq.mpr c35
          have c35b1 : (x5_41 != (a0.size : Int)) = false := bne_eq_false_iff_eq.mpr c35
          clear c35
          simp only [Option.some.injEq, Prod.mk.injEq] at H
          obtain ⟨rfl, rfl⟩ := H
          go_wp2_with (first | ((with_reducible refine gate_builtin (b := .append) (xs := #[.tmp 75, .tmp 77]) rfl ?_); at_builtin; refine Kd.R_append (Kd.int .i64) (w0 := w) w.heap.size rfl (.tmp 75) (.tmp 77) 22 3 (.int .i64 0) 8 rfl Tryd.underlying22 info3 rfl (by decide) (by omega) u4 x4_1 x6_41 [.int .i64 x6_41] (fun _ => True) (fun _ => False) rfl rfl ?aP (fun _ hk => hk.elim) ?aF ?aO ?aB ?aS ?aL ?_; (case aP => exact rfl); (case aB => exact (by repeat (first | (with_reducible first | exact HB.out | apply b_a | apply b_n | apply b_d) | exact HB.out))); (case aF => exact (fun _ _ => trivial)); (case aO => exact (by (with_reducible repeat (first | apply r_a | apply r_n | apply r_d)); exact HO_4.out)); (case aS => exact (below_size (by repeat (first | (with_reducible first | exact HB.out | apply b_a | apply b_n | apply b_d) | exact HB.out)))); (case aL => have := LMc34.out; omega); intro v229 w36 ho hb hg hat; rw [← Ny228.out] at ho; have n0_ := mk0 (hb); have n1_ := mk0 (ho); clear HB; clear HO_4; have HB := n0_; have HO230 := n1_; clear n0_ n1_; clear ho hb hg hat))
          go_ret2
          exact ⟨_, by first | rfl | (simp [errW_none, errW_some] <;> rfl) | (simp [*, errW_none, errW_some] <;> rfl), by (with_reducible repeat (first | apply r_a | apply r_n | apply r_d)); exact HO230.out, by repeat (first | (with_reducible first | exact HB.out | apply b_a | apply b_n | apply b_d) | exact HB.out)⟩
         ·rw [if_neg c35] at H
          have c35b0 : (x5_41 == (a0.size : Int)) = false := beq_eq_false_iff_ne.mpr c35
          have c35b1 : (x5_41 != (a0.size : Int)) = true := bne_iff_ne.mpr c35
          by_cases c37 : 0 ≤ x5_41
          ·rw [if_pos c37] at H
           have c37b0 : decide (0 ≤ x5_41) = true := decide_eq_true c37
           clear c37
           by_cases c38 : x5_41 < (a0.size : Int)
           ·rw [if_pos c38] at H
            have c38b0 : decide (x5_41 < (a0.size : Int)) = true := decide_eq_true c38
            clear c38
            by_cases c40 : (bt a0 x5_41) = 46
            ·rw [if_pos c40] at H
             have c40b0 : ((bt a0 x5_41) == 46) = true := beq_iff_eq.mpr c40
             have c40b1 : ((bt a0 x5_41) != 46) = false := bne_eq_false_iff_eq.mpr c40
             clear c40
             have H' := mk0 H
             clear H
             go_wp2_with (first | ((with_reducible refine gate_builtin (b := .append) (xs := #[.tmp 75, .tmp 77]) rfl ?_); at_builtin; refine Kd.R_append (Kd.int .i64) (w0 := w) w.heap.size rfl (.tmp 75) (.tmp 77) 22 3 (.int .i64 0) 8 rfl Tryd.underlying22 info3 rfl (by decide) (by omega) u4 x4_1 x6_41 [.int .i64 x6_41] (fun _ => True) (fun _ => False) rfl rfl ?aP (fun _ hk => hk.elim) ?aF ?aO ?aB ?aS ?aL ?_; (case aP => exact rfl); (case aB => exact (by repeat (first | (with_reducible first | exact HB.out | apply b_a | apply b_n | apply b_d) | exact HB.out))); (case aF => exact (fun _ _ => trivial)); (case aO => exact (by (with_reducible repeat (first | apply r_a | apply r_n | apply r_d)); exact HO_4.out)); (case aS => exact (below_size (by repeat (first | (with_reducible first | exact HB.out | apply b_a | apply b_n | apply b_d) | exact HB.out)))); (case aL => have := LMc34.out; omega); intro v229 w41 ho hb hg hat; rw [← Ny228.out] at ho; have n0_ := mk0 (hb); have n1_ := mk0 (ho); clear HB; clear HO_4; have HB := n0_; have HO230 := n1_; clear n0_ n1_; clear ho hb hg hat; have p39 : 0 ≤ (x5_41 : Int) := of_decide_eq_true (by first | (with_reducible assumption) | assumption); have q39 : x5_41 < (a0.size : Int) := of_decide_eq_true (by first | (with_reducible assumption) | assumption); have hx39 := bt_at a0 x5_41; replace p39 := eq_true p39; replace q39 := eq_true q39))
             go_roundg kj50
             case measure => have := HK1.out; have := HJ41.out; have := HJ50.out; omega
             case rel => exact ⟨(y228), (wrap64 (x5_41 + 1)), (by first | rfl | (simp; done) | (simp [*]; done)), H', ⟨by have := HK1.out; have := HJ41.out; have := HJ50.out; omega⟩, ⟨by (with_reducible repeat (first | apply r_a | apply r_n | apply r_d)); exact HO230.out⟩, ⟨by repeat (first | (with_reducible first | exact HB.out | apply b_a | apply b_n | apply b_d) | exact HB.out)⟩⟩
            ·rw [if_neg c40] at H
             have c40b0 : ((bt a0 x5_41) == 46) = false := beq_eq_false_iff_ne.mpr c40
             have c40b1 : ((bt a0 x5_41) != 46) = true := bne_iff_ne.mpr c40
             simp only [Option.some.injEq, Prod.mk.injEq] at H
             obtain ⟨rfl, rfl⟩ := H
             go_wp2_with (first | ((with_reducible refine gate_builtin (b := .append) (xs := #[.tmp 75, .tmp 77]) rfl ?_); at_builtin; refine Kd.R_append (Kd.int .i64) (w0 := w) w.heap.size rfl (.tmp 75) (.tmp 77) 22 3 (.int .i64 0) 8 rfl Tryd.underlying22 info3 rfl (by decide) (by omega) u4 x4_1 x6_41 [.int .i64 x6_41] (fun _ => True) (fun _ => False) rfl rfl ?aP (fun _ hk => hk.elim) ?aF ?aO ?aB ?aS ?aL ?_; (case aP => exact rfl); (case aB => exact (by repeat (first | (with_reducible first | exact HB.out | apply b_a | apply b_n | apply b_d) | exact HB.out))); (case aF => exact (fun _ _ => trivial)); (case aO => exact (by (with_reducible repeat (first | apply r_a | apply r_n | apply r_d)); exact HO_4.out)); (case aS => exact (below_size (by repeat (first | (with_reducible first | exact HB.out | apply b_a | apply b_n | apply b_d) | exact HB.out)))); (case aL => have := LMc34.out; omega); intro v229 w42 ho hb hg hat; rw [← Ny228.out] at ho; have n0_ := mk0 (hb); have n1_ := mk0 (ho); clear HB; clear HO_4; have HB := n0_; have HO230 := n1_; clear n0_ n1_; clear ho hb hg hat; have p39 : 0 ≤ (x5_41 : Int) := of_decide_eq_true (by first | (with_reducible assumption) | assumption); have q39 : x5_41 < (a0.size : Int) := of_decide_eq_true (by first | (with_reducible assumption) | assumption); have hx39 := bt_at a0 x5_41; replace p39 := eq_true p39; replace q39 := eq_true q39))
             go_ret2
             exact ⟨_, by first | rfl | (simp [errW_none, errW_some] <;> rfl) | (simp [*, errW_none, errW_some] <;> rfl), by first | exact Kd.R_nil _ _ _ _ _ | exact Kd.N_nil _ _ _ _ _ | exact Kd.V_nil _ _ _ _ _ | exact Kd.Q_nil _ _ _ _ _ | exact Kd.S_nil _ _ _ _ _, by repeat (first | (with_reducible first | exact HB.out | apply b_a | apply b_n | apply b_d) | exact HB.out)⟩
           ·rw [if_neg c38] at H
            exact absurd H (by simp)
          ·rw [if_neg c37] at H
           exact absurd H (by simp)
        ·rw [if_neg c34] at H
         exact absurd H (by simp)

/-! ### priceofficeref06_SameInts: function 27 -/
def priceofficeref06_SameInts.l0 : Nat → List Int → List Int → Int → Int → Option (Bool)
 | 0, _, _, _, _ => none
 | k + 1, x0, x1, x12, x13 => if x13 < x12 then (if 0 ≤ x13 then (if x13 < (x0.length : Int) then (if x13 < (x1.length : Int) then (if (rd x0 x13) = (rd x1 x13) then (priceofficeref06_SameInts.l0 k x0 x1 x12 (wrap64 (x13 + 1))) else (some false)) else (none)) else (none)) else (none)) else (some true)
def priceofficeref06_SameInts.f (k : Nat) (l0 : List Int) (l1 : List Int) : Option (Bool) := if (l0.length : Int) = (l1.length : Int) then (priceofficeref06_SameInts.l0 k l0 l1 (l0.length : Int) 0) else (some false)
theorem priceofficeref06_SameInts.mono_l : ∀ k, (∀ y0 y1 y2 y3, LeO (priceofficeref06_SameInts.l0 k y0 y1 y2 y3) (priceofficeref06_SameInts.l0 (k + 1) y0 y1 y2 y3))
 | 0 => fun _ _ _ _ r h => by simp [priceofficeref06_SameInts.l0] at h
 | k + 1 => by
  have ih0 := priceofficeref06_SameInts.mono_l k
  ·intro y0 y1 y2 y3
   unfold priceofficeref06_SameInts.l0
   repeat' first
   | (with_reducible exact ih0 _ _ _ _)
   | (with_reducible exact LeO.refl _)
   | (with_reducible exact LeO.none _)
   | (with_reducible refine LeO.ite ?_ ?_)
   | (with_reducible refine LeO.bind ?_ (fun _ => ?_))
   | exact ih0 _ _ _ _
   | exact LeO.none _
   | refine LeO.ite ?_ ?_
   | refine LeO.bind ?_ (fun _ => ?_)
theorem priceofficeref06_SameInts.mono : ∀ a0 a1 k, LeO (priceofficeref06_SameInts.f k a0 a1) (priceofficeref06_SameInts.f (k + 1) a0 a1) := by
 intro a0 a1 k
 have ih0 := priceofficeref06_SameInts.mono_l k
 unfold priceofficeref06_SameInts.f
 repeat' first
   | (with_reducible exact ih0 _ _ _ _)
   | (with_reducible exact LeO.refl _)
   | (with_reducible exact LeO.none _)
   | (with_reducible refine LeO.ite ?_ ?_)
   | (with_reducible refine LeO.bind ?_ (fun _ => ?_))
   | exact ih0 _ _ _ _
   | exact LeO.none _
   | refine LeO.ite ?_ ?_
   | refine LeO.bind ?_ (fun _ => ?_)
set_option maxHeartbeats 8000000 in
set_option maxRecDepth 100000 in
theorem priceofficeref06_SameInts.calls (k : Nat) (A0 : Option Addr) (c0 : Nat) (l0 : List Int) (A1 : Option Addr) (c1 : Nat) (l1 : List Int) (r : Bool) (w : World) (hr0 : Kd.C (Kd.int .i64) w A0 l0.length l0) (hc0 : l0.length ≤ c0) (hr1 : Kd.C (Kd.int .i64) w A1 l1.length l1) (hc1 : l1.length ≤ c1) (h : priceofficeref06_SameInts.f k l0 l1 = some r) :
  Calls Tryd.prog 27 #[.slice A0 l0.length c0, .slice A1 l1.length c1] w fun e w' => e = .returned (.bool r) ∧ Drawn0 w w' := by
 have HR0 := mk0 hr0
 have HC0 := mk0 hc0
 clear hr0 hc0
 have HR1 := mk0 hr1
 have HC1 := mk0 hc1
 clear hr1 hc1
 have H : (if (l0.length : Int) = (l1.length : Int) then (priceofficeref06_SameInts.l0 k l0 l1 (l0.length : Int) 0) else (some false)) = some r := h
 clear h
 by_cases c3 : (l0.length : Int) = (l1.length : Int)
 ·rw [if_pos c3] at H
  have c3b0 : ((l0.length : Int) == (l1.length : Int)) = true := beq_iff_eq.mpr c3
  have c3b1 : ((l0.length : Int) != (l1.length : Int)) = false := bne_eq_false_iff_eq.mpr c3
  have c3b2 : (l0.length == l1.length) = true := by first | simpa using c3 | (simp at c3 ⊢; omega)
  clear c3
  have H' := mk0 H
  clear H
  go_enter Tryd.func27, Tryd.ntmps27
  go_wp2
  repeat (go_quiet (fail); try go_wp2)
  go_loopg [13] k (fun kq v13 w' => ∃ (x13_1 : Int), v13 = .int .i64 x13_1 ∧ Aside0 (priceofficeref06_SameInts.l0 kq l0 l1 (l0.length : Int) x13_1 = some r) ∧ Aside0 (kq ≤ k) ∧ Drawn0 w w')
  case atStart => exact ⟨(0), (by first | rfl | (simp; done) | (simp [*]; done)), H', ⟨Nat.le_refl _⟩, by repeat (first | exact Drawn0.refl _ | apply Drawn0.step)⟩
  case round =>
   clear H'
   try clear c1
   try clear c2
   try clear p2
   try clear c3
   try clear c3b0
   try clear c3b1
   try clear c3b2
   obtain ⟨x13_1, rfl, HA, HK1, ⟨m1, rfl⟩⟩ := hrel
   cases gk with
   | zero => exact absurd HA.out (by simp [priceofficeref06_SameInts.l0])
   | succ k1 =>
    have H := HA.out
    clear HA
    simp only [priceofficeref06_SameInts.l0] at H
    by_cases c4 : x13_1 < (l0.length : Int)
    ·rw [if_pos c4] at H
     have c4b0 : decide (x13_1 < (l0.length : Int)) = true := decide_eq_true c4
     clear c4
     by_cases c5 : 0 ≤ x13_1
     ·rw [if_pos c5] at H
      have c5b0 : decide (0 ≤ x13_1) = true := decide_eq_true c5
      clear c5
      by_cases c6 : x13_1 < (l0.length : Int)
      ·rw [if_pos c6] at H
       have c6b0 : decide (x13_1 < (l0.length : Int)) = true := decide_eq_true c6
       clear c6
       by_cases c7 : x13_1 < (l1.length : Int)
       ·rw [if_pos c7] at H
        have c7b0 : decide (x13_1 < (l1.length : Int)) = true := decide_eq_true c7
        clear c7
        by_cases c8 : (rd l0 x13_1) = (rd l1 x13_1)
        ·rw [if_pos c8] at H
         have c8b0 : ((rd l0 x13_1) == (rd l1 x13_1)) = true := beq_iff_eq.mpr c8
         have c8b1 : ((rd l0 x13_1) != (rd l1 x13_1)) = false := bne_eq_false_iff_eq.mpr c8
         clear c8
         have H' := mk0 H
         clear H
         have p231 : 0 ≤ (x13_1 : Int) := of_decide_eq_true (by first | (with_reducible assumption) | assumption)
         have q231 : x13_1 < (l0.length : Int) := of_decide_eq_true (by first | (with_reducible assumption) | assumption)
         obtain ⟨ad231, e231, hx231_0⟩ := Kd.at_int HR0.out x13_1 p231 q231
         cases e231
         replace p231 := eq_true p231
         replace q231 := eq_true q231
         have p232 : 0 ≤ (x13_1 : Int) := of_decide_eq_true (by first | (with_reducible assumption) | assumption)
         have q232 : x13_1 < (l1.length : Int) := of_decide_eq_true (by first | (with_reducible assumption) | assumption)
         obtain ⟨ad232, e232, hx232_0⟩ := Kd.at_int HR1.out x13_1 p232 q232
         cases e232
         replace p232 := eq_true p232
         replace q232 := eq_true q232
         go_wp2
         repeat (go_quiet (fail); try go_wp2)
         go_roundg k1
         case measure => have := HK1.out; omega
         case rel => exact ⟨(wrap64 (x13_1 + 1)), (by first | rfl | (simp; done) | (simp [*]; done)), H', ⟨by have := HK1.out; omega⟩, by repeat (first | exact Drawn0.refl _ | apply Drawn0.step)⟩
        ·rw [if_neg c8] at H
         have c8b0 : ((rd l0 x13_1) == (rd l1 x13_1)) = false := beq_eq_false_iff_ne.mpr c8
         have c8b1 : ((rd l0 x13_1) != (rd l1 x13_1)) = true := bne_iff_ne.mpr c8
         obtain rfl := Option.some.inj H
         have p231 : 0 ≤ (x13_1 : Int) := of_decide_eq_true (by first | (with_reducible assumption) | assumption)
         have q231 : x13_1 < (l0.length : Int) := of_decide_eq_true (by first | (with_reducible assumption) | assumption)
         obtain ⟨ad231, e231, hx231_0⟩ := Kd.at_int HR0.out x13_1 p231 q231
         cases e231
         replace p231 := eq_true p231
         replace q231 := eq_true q231
         have p232 : 0 ≤ (x13_1 : Int) := of_decide_eq_true (by first | (with_reducible assumption) | assumption)
         have q232 : x13_1 < (l1.length : Int) := of_decide_eq_true (by first | (with_reducible assumption) | assumption)
         obtain ⟨ad232, e232, hx232_0⟩ := Kd.at_int HR1.out x13_1 p232 q232
         cases e232
         replace p232 := eq_true p232
         replace q232 := eq_true q232
         go_wp2
         repeat (go_quiet (fail); try go_wp2)
         go_ret
         exact ⟨by first | rfl | (simp; done) | (simp [*]; done), by repeat (first | exact Drawn0.refl _ | apply Drawn0.step)⟩
       ·rw [if_neg c7] at H
        exact absurd H (by simp)
      ·rw [if_neg c6] at H
       exact absurd H (by simp)
     ·rw [if_neg c5] at H
      exact absurd H (by simp)
    ·rw [if_neg c4] at H
     have c4b0 : decide (x13_1 < (l0.length : Int)) = false := decide_eq_false c4
     clear c4
     obtain rfl := Option.some.inj H
     go_wp2
     repeat (go_quiet (fail); try go_wp2)
     go_ret
     exact ⟨by first | rfl | (simp; done) | (simp [*]; done), by repeat (first | exact Drawn0.refl _ | apply Drawn0.step)⟩
 ·rw [if_neg c3] at H
  have c3b0 : ((l0.length : Int) == (l1.length : Int)) = false := beq_eq_false_iff_ne.mpr c3
  have c3b1 : ((l0.length : Int) != (l1.length : Int)) = true := bne_iff_ne.mpr c3
  have c3b2 : (l0.length == l1.length) = false := by first | simpa using c3 | (simp at c3 ⊢; omega)
  obtain rfl := Option.some.inj H
  go_enter Tryd.func27, Tryd.ntmps27
  go_wp2
  repeat (go_quiet (fail); try go_wp2)
  go_ret
  exact ⟨by first | rfl | (simp; done) | (simp [*]; done), by repeat (first | exact Drawn0.refl _ | apply Drawn0.step)⟩

end Go.Proofs.YtpnoliognpmkmaaDoor.P
