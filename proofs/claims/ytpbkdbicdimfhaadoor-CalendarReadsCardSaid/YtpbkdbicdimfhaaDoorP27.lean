/- Lean functions with the same answers as the program's Go functions, and for each the proof that the call comes to these answers; written by a program of mine out of the translation, the functions marked 'by hand' by me. -/
import Derived.Test.YtpbkdbicdimfhaaDoorP0
import Derived.Test.YtpbkdbicdimfhaaDoorP5
namespace Go.Proofs.YtpbkdbicdimfhaaDoor.P
open Go.RowKit Go.Proofs.YtpbkdbicdimfhaaDoorW.PrintWords Go.Proofs.YtpbkdbicdimfhaaDoorW.PrintLast Go.Proofs.YtpbkdbicdimfhaaDoorW.PrintMore
attribute [local go_sem] max2_int min2_int max_two min_two max_three min_three max_four min_four   -- for this text's walks alone
set_option linter.unusedVariables false
set_option linter.unusedSimpArgs false

/-! ### priceofficeref05_number: function 59 -/
def priceofficeref05_number.l0 : Nat → ByteArray → Int → Int → Int → Int → Option (Int)
  | 0, _, _, _, _, _ => none
  | k + 1, x0, x1, x2, x7, x8 => if x8 < (wrap64 (x1 + x2)) then (if 0 ≤ x8 then (if x8 < (x0.size : Int) then (if (bt x0 x8) < 48 then (some (-1)) else (if (bt x0 x8) > 57 then (some (-1)) else (priceofficeref05_number.l0 k x0 x1 x2 (wrap64 ((wrap64 (10 * x7)) + (((bt x0 x8) - 48) % 256))) (wrap64 (x8 + 1))))) else (none)) else (none)) else (some x7)
def priceofficeref05_number.f (k : Nat) (a0 : ByteArray) (a1 : Int) (a2 : Int) : Option (Int) := priceofficeref05_number.l0 k a0 a1 a2 0 a1
theorem priceofficeref05_number.mono_l : ∀ k, (∀ y0 y1 y2 y3 y4, LeO (priceofficeref05_number.l0 k y0 y1 y2 y3 y4) (priceofficeref05_number.l0 (k + 1) y0 y1 y2 y3 y4))
  | 0 => fun _ _ _ _ _ r h => by simp [priceofficeref05_number.l0] at h
  | k + 1 => by
    have ih0 := priceofficeref05_number.mono_l k
    · intro y0 y1 y2 y3 y4
      unfold priceofficeref05_number.l0
      repeat' first
      | (with_reducible exact ih0 _ _ _ _ _)
      | (with_reducible exact LeO.refl _)
      | (with_reducible exact LeO.none _)
      | (with_reducible refine LeO.ite ?_ ?_)
      | (with_reducible refine LeO.bind ?_ (fun _ => ?_))
      | exact ih0 _ _ _ _ _
      | exact LeO.none _
      | refine LeO.ite ?_ ?_
      | refine LeO.bind ?_ (fun _ => ?_)
theorem priceofficeref05_number.mono : ∀ a0 a1 a2 k, LeO (priceofficeref05_number.f k a0 a1 a2) (priceofficeref05_number.f (k + 1) a0 a1 a2) := by
  intro a0 a1 a2 k
  have ih0 := priceofficeref05_number.mono_l k
  unfold priceofficeref05_number.f
  repeat' first
      | (with_reducible exact ih0 _ _ _ _ _)
      | (with_reducible exact LeO.refl _)
      | (with_reducible exact LeO.none _)
      | (with_reducible refine LeO.ite ?_ ?_)
      | (with_reducible refine LeO.bind ?_ (fun _ => ?_))
      | exact ih0 _ _ _ _ _
      | exact LeO.none _
      | refine LeO.ite ?_ ?_
      | refine LeO.bind ?_ (fun _ => ?_)
set_option maxHeartbeats 8000000 in
set_option maxRecDepth 100000 in
theorem priceofficeref05_number.calls (k : Nat) (a0 : ByteArray) (a1 : Int) (a2 : Int) (r : Int) (w : World) (h : priceofficeref05_number.f k a0 a1 a2 = some r) :
    Calls Tryd.prog 59 #[.string a0, .int .i64 a1, .int .i64 a2] w fun e w' => e = .returned (.int .i64 r) ∧ Drawn0 w w' := by
  have H : (priceofficeref05_number.l0 k a0 a1 a2 0 a1) = some r := h
  clear h
  have H' := Aside0.mk H
  clear H
  go_enter Tryd.func59, Tryd.ntmps59
  go_wp2
  go_loopg [7, 8] k (fun kq v7 v8 w' => ∃ (x7_1 : Int) (x8_1 : Int), v7 = .int .i64 x7_1 ∧ v8 = .int .i64 x8_1 ∧ Aside0 (priceofficeref05_number.l0 kq a0 a1 a2 x7_1 x8_1 = some r) ∧ Aside0 (kq ≤ k) ∧ Drawn0 w w')
  case atStart => exact ⟨(0), (a1), (by first | rfl | (simp; done) | (simp [*]; done)), (by first | rfl | (simp; done) | (simp [*]; done)), H', ⟨Nat.le_refl _⟩, by repeat (first | exact Drawn0.refl _ | apply Drawn0.step)⟩
  case round =>
    clear H'
    try clear p2
    obtain ⟨x7_1, x8_1, rfl, rfl, HA, HK1, ⟨m1, rfl⟩⟩ := hrel
    cases gk with
    | zero => exact absurd HA.out (by simp [priceofficeref05_number.l0])
    | succ k1 =>
      have H := HA.out
      clear HA
      simp only [priceofficeref05_number.l0] at H
      by_cases c4 : x8_1 < (wrap64 (a1 + a2))
      · rw [if_pos c4] at H
        have c4b0 : decide (x8_1 < (wrap64 (a1 + a2))) = true := decide_eq_true c4
        clear c4
        by_cases c5 : 0 ≤ x8_1
        · rw [if_pos c5] at H
          have c5b0 : decide (0 ≤ x8_1) = true := decide_eq_true c5
          clear c5
          by_cases c6 : x8_1 < (a0.size : Int)
          · rw [if_pos c6] at H
            have c6b0 : decide (x8_1 < (a0.size : Int)) = true := decide_eq_true c6
            clear c6
            by_cases c8 : (bt a0 x8_1) < 48
            · rw [if_pos c8] at H
              have c8b0 : decide ((bt a0 x8_1) < 48) = true := decide_eq_true c8
              clear c8
              obtain rfl := Option.some.inj H
              have p7 : 0 ≤ (x8_1 : Int) := of_decide_eq_true (by first | (with_reducible assumption) | assumption)
              have q7 : x8_1 < (a0.size : Int) := of_decide_eq_true (by first | (with_reducible assumption) | assumption)
              have hx7 := bt_at a0 x8_1
              replace p7 := eq_true p7
              replace q7 := eq_true q7
              go_wp2
              go_ret
              exact ⟨by first | rfl | (simp; done) | (simp [*]; done), by repeat (first | exact Drawn0.refl _ | apply Drawn0.step)⟩
            · rw [if_neg c8] at H
              have c8b0 : decide ((bt a0 x8_1) < 48) = false := decide_eq_false c8
              clear c8
              by_cases c10 : (bt a0 x8_1) > 57
              · rw [if_pos c10] at H
                have c10b0 : decide (57 < (bt a0 x8_1)) = true := decide_eq_true c10
                clear c10
                obtain rfl := Option.some.inj H
                have p7 : 0 ≤ (x8_1 : Int) := of_decide_eq_true (by first | (with_reducible assumption) | assumption)
                have q7 : x8_1 < (a0.size : Int) := of_decide_eq_true (by first | (with_reducible assumption) | assumption)
                have hx7 := bt_at a0 x8_1
                replace p7 := eq_true p7
                replace q7 := eq_true q7
                have p9 : 0 ≤ (x8_1 : Int) := of_decide_eq_true (by first | (with_reducible assumption) | assumption)
                have q9 : x8_1 < (a0.size : Int) := of_decide_eq_true (by first | (with_reducible assumption) | assumption)
                have hx9 := bt_at a0 x8_1
                replace p9 := eq_true p9
                replace q9 := eq_true q9
                go_wp2
                go_ret
                exact ⟨by first | rfl | (simp; done) | (simp [*]; done), by repeat (first | exact Drawn0.refl _ | apply Drawn0.step)⟩
              · rw [if_neg c10] at H
                have c10b0 : decide (57 < (bt a0 x8_1)) = false := decide_eq_false c10
                clear c10
                have H' := Aside0.mk H
                clear H
                have p7 : 0 ≤ (x8_1 : Int) := of_decide_eq_true (by first | (with_reducible assumption) | assumption)
                have q7 : x8_1 < (a0.size : Int) := of_decide_eq_true (by first | (with_reducible assumption) | assumption)
                have hx7 := bt_at a0 x8_1
                replace p7 := eq_true p7
                replace q7 := eq_true q7
                have p9 : 0 ≤ (x8_1 : Int) := of_decide_eq_true (by first | (with_reducible assumption) | assumption)
                have q9 : x8_1 < (a0.size : Int) := of_decide_eq_true (by first | (with_reducible assumption) | assumption)
                have hx9 := bt_at a0 x8_1
                replace p9 := eq_true p9
                replace q9 := eq_true q9
                have p11 : 0 ≤ (x8_1 : Int) := of_decide_eq_true (by first | (with_reducible assumption) | assumption)
                have q11 : x8_1 < (a0.size : Int) := of_decide_eq_true (by first | (with_reducible assumption) | assumption)
                have hx11 := bt_at a0 x8_1
                replace p11 := eq_true p11
                replace q11 := eq_true q11
                go_wp2
                go_roundg k1
                case measure => have := HK1.out; omega
                case rel => exact ⟨(wrap64 ((wrap64 (10 * x7_1)) + (((bt a0 x8_1) - 48) % 256))), (wrap64 (x8_1 + 1)), (by first | rfl | (simp; done) | (simp [*]; done)), (by first | rfl | (simp; done) | (simp [*]; done)), H', ⟨by have := HK1.out; omega⟩, by repeat (first | exact Drawn0.refl _ | apply Drawn0.step)⟩
          · rw [if_neg c6] at H
            exact absurd H (by simp)
        · rw [if_neg c5] at H
          exact absurd H (by simp)
      · rw [if_neg c4] at H
        have c4b0 : decide (x8_1 < (wrap64 (a1 + a2))) = false := decide_eq_false c4
        clear c4
        obtain rfl := Option.some.inj H
        go_wp2
        go_ret
        exact ⟨by first | rfl | (simp; done) | (simp [*]; done), by repeat (first | exact Drawn0.refl _ | apply Drawn0.step)⟩

/-! ### priceofficeref05_ParseDate: function 45 -/
def priceofficeref05_ParseDate.j0 : Nat → ByteArray → Bool → Option (Int × Int × Int × Int)
  | 0, _, _ => none
  | k + 1, x0, x17 => if x17 = true then (some (0, 0, 0, 54)) else ((priceofficeref05_number.f k x0 0 4).bind fun t427 => ((priceofficeref05_number.f k x0 5 2).bind fun t428 => ((priceofficeref05_number.f k x0 8 2).bind fun t429 => ((priceofficeref05_ValidDate.f k t427 t428 t429).bind fun t431 => (if t431 = true then (some (t427, t428, t429, 0)) else (some (0, 0, 0, 54)))))))
def priceofficeref05_ParseDate.f (k : Nat) (a0 : ByteArray) : Option (Int × Int × Int × Int) := if (a0.size : Int) = 10 then (if 4 < (a0.size : Int) then (if (bt a0 4) = 45 then (if 7 < (a0.size : Int) then (priceofficeref05_ParseDate.j0 k a0 ((bt a0 7) != 45)) else (none)) else (priceofficeref05_ParseDate.j0 k a0 true)) else (none)) else (priceofficeref05_ParseDate.j0 k a0 true)
theorem priceofficeref05_ParseDate.mono_l : ∀ k, (∀ y0 y1, LeO (priceofficeref05_ParseDate.j0 k y0 y1) (priceofficeref05_ParseDate.j0 (k + 1) y0 y1))
  | 0 => fun _ _ r h => by simp [priceofficeref05_ParseDate.j0] at h
  | k + 1 => by
    have ih0 := priceofficeref05_ParseDate.mono_l k
    · intro y0 y1
      unfold priceofficeref05_ParseDate.j0
      repeat' first
      | (with_reducible exact ih0 _ _)
      | (with_reducible exact priceofficeref05_ValidDate.mono _ _ _ _)
      | (with_reducible exact priceofficeref05_number.mono _ _ _ _)
      | (with_reducible exact LeO.refl _)
      | (with_reducible exact LeO.none _)
      | (with_reducible refine LeO.ite ?_ ?_)
      | (with_reducible refine LeO.bind ?_ (fun _ => ?_))
      | exact ih0 _ _
      | exact priceofficeref05_ValidDate.mono _ _ _ _
      | exact priceofficeref05_number.mono _ _ _ _
      | exact LeO.none _
      | refine LeO.ite ?_ ?_
      | refine LeO.bind ?_ (fun _ => ?_)
theorem priceofficeref05_ParseDate.mono : ∀ a0 k, LeO (priceofficeref05_ParseDate.f k a0) (priceofficeref05_ParseDate.f (k + 1) a0) := by
  intro a0 k
  have ih0 := priceofficeref05_ParseDate.mono_l k
  unfold priceofficeref05_ParseDate.f
  repeat' first
      | (with_reducible exact ih0 _ _)
      | (with_reducible exact priceofficeref05_ValidDate.mono _ _ _ _)
      | (with_reducible exact priceofficeref05_number.mono _ _ _ _)
      | (with_reducible exact LeO.refl _)
      | (with_reducible exact LeO.none _)
      | (with_reducible refine LeO.ite ?_ ?_)
      | (with_reducible refine LeO.bind ?_ (fun _ => ?_))
      | exact ih0 _ _
      | exact priceofficeref05_ValidDate.mono _ _ _ _
      | exact priceofficeref05_number.mono _ _ _ _
      | exact LeO.none _
      | refine LeO.ite ?_ ?_
      | refine LeO.bind ?_ (fun _ => ?_)
set_option maxHeartbeats 8000000 in
set_option maxRecDepth 100000 in
theorem priceofficeref05_ParseDate.calls (k : Nat) (a0 : ByteArray) (r1 : Int) (r2 : Int) (r3 : Int) (r4 : Int) (w : World) (h : priceofficeref05_ParseDate.f k a0 = some (r1, r2, r3, r4)) :
    Calls Tryd.prog 45 #[.string a0] w fun e w' => e = .returned (.tuple #[.agg #[.int .i64 r1, .int .i64 r2, .int .i64 r3], .int .i64 r4]) ∧ Below w.heap.size w w' := by
  have hu23 := Tryd.underlying23
  have HB := Aside0.mk (Below.refl w.heap.size w)
  have H : (if (a0.size : Int) = 10 then (if 4 < (a0.size : Int) then (if (bt a0 4) = 45 then (if 7 < (a0.size : Int) then (priceofficeref05_ParseDate.j0 k a0 ((bt a0 7) != 45)) else (none)) else (priceofficeref05_ParseDate.j0 k a0 true)) else (none)) else (priceofficeref05_ParseDate.j0 k a0 true)) = some (r1, r2, r3, r4) := h
  clear h
  have HC2 := Aside0.mk H
  clear H
  go_enter Tryd.func45, Tryd.ntmps45
  go_upto_region 1 with (first | ((with_reducible refine gate_dst (N := 2) rfl ?_); refine box_event ?hg (N := 2) ?hd (cs := #[.int .i64 0, .int .i64 0, .int .i64 0]) (t := 23) ?hr ?_; (case hd => rfl); (case hg => rfl); (case hr => first | (go_simp; done) | (go_simp; rfl)); intro gb426 hg w3 hbox hb; have n0_ := Aside0.mk (below_step (by repeat (first | (with_reducible first | exact HB.out | apply below_alloc | apply pw_below_drewN | apply below_drew1) | exact HB.out)) hb); have n1_ := Aside0.mk (hbox); have n2_ := Aside0.mk ((by rw [hg]; exact (below_size (by repeat (first | (with_reducible first | exact HB.out | apply below_alloc | apply pw_below_drewN | apply below_drew1) | exact HB.out))) : w.heap.size ≤ gb426)); have n3_ := Aside0.mk ((by rw [hg]; exact (below_size (by repeat (first | (with_reducible first | exact HB.out | apply below_alloc | apply pw_below_drewN | apply below_drew1) | exact HB.out))) : w.heap.size ≤ gb426)); clear HB; have HB := n0_; have BK426 := n1_; have GW426 := n2_; have GE426 := n3_; clear n0_ n1_ n2_ n3_; clear hb hbox hg))
  (try simp only [Act.put, List.setIfInBounds_toArray, List.set_cons_zero, List.set_cons_succ])
  go_cut [17] (fun v17 wc => ∃ (kq : Nat) (x17_1 : Bool), v17 = .bool x17_1 ∧ Aside0 (priceofficeref05_ParseDate.j0 kq a0 x17_1 = some (r1, r2, r3, r4)) ∧ Aside0 (kq ≤ k) ∧ Aside0 (wc.heap[gb426]? = some (.cells #[.int .i64 0, .int .i64 0, .int .i64 0] 23 (0, 0))) ∧ Aside0 (Below w.heap.size w wc))
  case first =>
    have H := HC2.out
    clear HC2
    by_cases c4 : (a0.size : Int) = 10
    · rw [if_pos c4] at H
      have c4b0 : ((a0.size : Int) == 10) = true := beq_iff_eq.mpr c4
      have c4b1 : ((a0.size : Int) != 10) = false := bne_eq_false_iff_eq.mpr c4
      clear c4
      (first | rw [c4b0] | (simp only [i64_w, i32_w]; rw [c4b0]) | skip)
      by_cases c5 : 4 < (a0.size : Int)
      · rw [if_pos c5] at H
        have c5b0 : decide (4 < (a0.size : Int)) = true := decide_eq_true c5
        have c5b1 : decide (4 < a0.size) = true := decide_eq_true (by omega)
        clear c5
        by_cases c7 : (bt a0 4) = 45
        · rw [if_pos c7] at H
          have c7b0 : ((bt a0 4) == 45) = true := beq_iff_eq.mpr c7
          have c7b1 : ((bt a0 4) != 45) = false := bne_eq_false_iff_eq.mpr c7
          clear c7
          by_cases c8 : 7 < (a0.size : Int)
          · rw [if_pos c8] at H
            have c8b0 : decide (7 < (a0.size : Int)) = true := decide_eq_true c8
            have c8b1 : decide (7 < a0.size) = true := decide_eq_true (by omega)
            clear c8
            have H' := Aside0.mk H
            clear H
            have p6 : 0 ≤ (4 : Int) := (by omega)
            have q6 : 4 < a0.size := (by have : (4 : Int) < (a0.size : Int) := of_decide_eq_true (by first | (with_reducible assumption) | assumption); omega)
            have hx6 : ∀ h : 4 < a0.size, ((a0[4]'h).toNat : Int) = bt a0 4 := bt_at a0 4
            clear p6
            have qi6 : (4 < (a0.size : Int)) = True := eq_true (of_decide_eq_true (by first | (with_reducible assumption) | assumption))
            replace q6 := eq_true q6
            have p9 : 0 ≤ (7 : Int) := (by omega)
            have q9 : 7 < a0.size := (by have : (7 : Int) < (a0.size : Int) := of_decide_eq_true (by first | (with_reducible assumption) | assumption); omega)
            have hx9 : ∀ h : 7 < a0.size, ((a0[7]'h).toNat : Int) = bt a0 7 := bt_at a0 7
            clear p9
            have qi9 : (7 < (a0.size : Int)) = True := eq_true (of_decide_eq_true (by first | (with_reducible assumption) | assumption))
            replace q9 := eq_true q9
            go_wp2
            go_meet
            case rel => exact ⟨_, (((bt a0 7) != 45)), (by first | rfl | (simp; done) | (simp [*]; done)), H', ⟨by first | omega | exact Nat.le_refl _⟩, ⟨by (with_reducible repeat (first | refine blk_drewN ?_ _ | refine blk_drew ?_ | refine blk_alloc ?_ _)); exact BK426.out⟩, ⟨by repeat (first | (with_reducible first | exact HB.out | apply below_alloc | apply pw_below_drewN | apply below_drew1 | refine below_set ?_ GE426.out) | exact HB.out)⟩⟩
          · rw [if_neg c8] at H
            exact absurd H (by simp)
        · rw [if_neg c7] at H
          have c7b0 : ((bt a0 4) == 45) = false := beq_eq_false_iff_ne.mpr c7
          have c7b1 : ((bt a0 4) != 45) = true := bne_iff_ne.mpr c7
          have H' := Aside0.mk H
          clear H
          have p6 : 0 ≤ (4 : Int) := (by omega)
          have q6 : 4 < a0.size := (by have : (4 : Int) < (a0.size : Int) := of_decide_eq_true (by first | (with_reducible assumption) | assumption); omega)
          have hx6 : ∀ h : 4 < a0.size, ((a0[4]'h).toNat : Int) = bt a0 4 := bt_at a0 4
          clear p6
          have qi6 : (4 < (a0.size : Int)) = True := eq_true (of_decide_eq_true (by first | (with_reducible assumption) | assumption))
          replace q6 := eq_true q6
          go_wp2
          go_meet
          case rel => exact ⟨_, (true), (by first | rfl | (simp; done) | (simp [*]; done)), H', ⟨by first | omega | exact Nat.le_refl _⟩, ⟨by (with_reducible repeat (first | refine blk_drewN ?_ _ | refine blk_drew ?_ | refine blk_alloc ?_ _)); exact BK426.out⟩, ⟨by repeat (first | (with_reducible first | exact HB.out | apply below_alloc | apply pw_below_drewN | apply below_drew1 | refine below_set ?_ GE426.out) | exact HB.out)⟩⟩
      · rw [if_neg c5] at H
        exact absurd H (by simp)
    · rw [if_neg c4] at H
      have c4b0 : ((a0.size : Int) == 10) = false := beq_eq_false_iff_ne.mpr c4
      have c4b1 : ((a0.size : Int) != 10) = true := bne_iff_ne.mpr c4
      (first | rw [c4b0] | (simp only [i64_w, i32_w]; rw [c4b0]) | skip)
      have H' := Aside0.mk H
      clear H
      go_wp2
      go_meet
      case rel => exact ⟨_, (true), (by first | rfl | (simp; done) | (simp [*]; done)), H', ⟨by first | omega | exact Nat.le_refl _⟩, ⟨by (with_reducible repeat (first | refine blk_drewN ?_ _ | refine blk_drew ?_ | refine blk_alloc ?_ _)); exact BK426.out⟩, ⟨by repeat (first | (with_reducible first | exact HB.out | apply below_alloc | apply pw_below_drewN | apply below_drew1 | refine below_set ?_ GE426.out) | exact HB.out)⟩⟩
  case rest =>
    clear HC2
    try clear p2
    try clear c4
    try clear c4b0
    try clear c4b1
    try clear c5
    try clear c5b0
    try clear c5b1
    try clear p6
    try clear q6
    try clear hx6
    try clear qi6
    try clear c7
    try clear c7b0
    try clear c7b1
    try clear c8
    try clear c8b0
    try clear c8b1
    try clear p9
    try clear q9
    try clear hx9
    try clear qi9
    try clear p6
    try clear p9
    try clear q6
    try clear q9
    obtain ⟨kq, x17_1, rfl, HA, HJ1, BK426, HB⟩ := hcut
    cases kq with
    | zero => exact absurd HA.out (by simp [priceofficeref05_ParseDate.j0])
    | succ kj1 =>
      have H := HA.out
      clear HA
      simp only [priceofficeref05_ParseDate.j0] at H
      by_cases c10 : x17_1 = true
      · subst c10
        have H1 : (some (0, 0, 0, 54)) = some (r1, r2, r3, r4) := by rw [if_pos rfl] at H; exact H
        clear H
        have H := H1
        clear H1
        simp only [Option.some.injEq, Prod.mk.injEq] at H
        obtain ⟨rfl, rfl, rfl, rfl⟩ := H
        have hcz11_0 : wc.cell? ⟨gb426, 0, none⟩ = some (.int .i64 0) := (blk_cell BK426.out 0).trans rfl
        have hcz11_1 : wc.cell? ⟨gb426, 1, none⟩ = some (.int .i64 0) := (blk_cell BK426.out 1).trans rfl
        have hcz11_2 : wc.cell? ⟨gb426, 2, none⟩ = some (.int .i64 0) := (blk_cell BK426.out 2).trans rfl
        have hfz11_0 := blk_frozen BK426.out 0
        have hfz11_1 := blk_frozen BK426.out 1
        have hfz11_2 := blk_frozen BK426.out 2
        go_wp2
        refine bodyPost_ret (results_ct rfl _ _ gb426 23 #[.int .i64 0, .int .i64 0, .int .i64 0] (0, 0) _ rfl (by (with_reducible repeat (first | refine blk_drewN ?_ _ | refine blk_drew ?_ | refine blk_alloc ?_ _)); refine blk_put (cs := #[.int .i64 0, .int .i64 0, .int .i64 0]) ?_ 2 _ rfl; (with_reducible repeat (first | refine blk_drewN ?_ _ | refine blk_drew ?_ | refine blk_alloc ?_ _)); refine blk_put (cs := #[.int .i64 0, .int .i64 0, .int .i64 0]) ?_ 1 _ rfl; (with_reducible repeat (first | refine blk_drewN ?_ _ | refine blk_drew ?_ | refine blk_alloc ?_ _)); refine blk_put (cs := #[.int .i64 0, .int .i64 0, .int .i64 0]) ?_ 0 _ rfl; (with_reducible repeat (first | refine blk_drewN ?_ _ | refine blk_drew ?_ | refine blk_alloc ?_ _)); exact BK426.out) Tryd.underlying23 rfl (by kernel_rfl)) rfl ?_
        exact ⟨by first | rfl | (simp [errW_none, errW_some] <;> rfl) | (simp [*, errW_none, errW_some] <;> rfl), by repeat (first | (with_reducible first | exact HB.out | apply below_alloc | apply pw_below_drewN | apply below_drew1 | refine below_set ?_ GE426.out) | exact HB.out)⟩
      · replace c10 := Bool.eq_false_iff.mpr c10
        subst c10
        have H1 : ((priceofficeref05_number.f kj1 a0 0 4).bind fun t427 => ((priceofficeref05_number.f kj1 a0 5 2).bind fun t428 => ((priceofficeref05_number.f kj1 a0 8 2).bind fun t429 => ((priceofficeref05_ValidDate.f kj1 t427 t428 t429).bind fun t431 => (if t431 = true then (some (t427, t428, t429, 0)) else (some (0, 0, 0, 54))))))) = some (r1, r2, r3, r4) := by rw [if_neg (show ¬ (false = true) by decide)] at H; exact H
        clear H
        have H := H1
        clear H1
        replace H := Option.bind_eq_some_iff.mp H
        obtain ⟨t427, A120, H⟩ := H
        replace H : ((priceofficeref05_number.f kj1 a0 5 2).bind fun t428 => ((priceofficeref05_number.f kj1 a0 8 2).bind fun t429 => ((priceofficeref05_ValidDate.f kj1 t427 t428 t429).bind fun t431 => (if t431 = true then (some (t427, t428, t429, 0)) else (some (0, 0, 0, 54)))))) = some (r1, r2, r3, r4) := H
        have A12 := Aside0.mk A120
        clear A120
        replace H := Option.bind_eq_some_iff.mp H
        obtain ⟨t428, A130, H⟩ := H
        replace H : ((priceofficeref05_number.f kj1 a0 8 2).bind fun t429 => ((priceofficeref05_ValidDate.f kj1 t427 t428 t429).bind fun t431 => (if t431 = true then (some (t427, t428, t429, 0)) else (some (0, 0, 0, 54))))) = some (r1, r2, r3, r4) := H
        have A13 := Aside0.mk A130
        clear A130
        replace H := Option.bind_eq_some_iff.mp H
        obtain ⟨t429, A140, H⟩ := H
        replace H : ((priceofficeref05_ValidDate.f kj1 t427 t428 t429).bind fun t431 => (if t431 = true then (some (t427, t428, t429, 0)) else (some (0, 0, 0, 54)))) = some (r1, r2, r3, r4) := H
        have A14 := Aside0.mk A140
        clear A140
        replace H := Option.bind_eq_some_iff.mp H
        obtain ⟨t431, A150, H⟩ := H
        replace H : (if t431 = true then (some (t427, t428, t429, 0)) else (some (0, 0, 0, 54))) = some (r1, r2, r3, r4) := H
        have A15 := Aside0.mk A150
        clear A150
        by_cases c16 : t431 = true
        · subst c16
          have H1 : (some (t427, t428, t429, 0)) = some (r1, r2, r3, r4) := by rw [if_pos rfl] at H; exact H
          clear H
          have H := H1
          clear H1
          simp only [Option.some.injEq, Prod.mk.injEq] at H
          obtain ⟨rfl, rfl, rfl, rfl⟩ := H
          go_wp2_with (first | ((with_reducible refine gate_callee (f := 59) rfl ?_); refine goesL_ (some 20) rfl rfl Tryd.func59 (by kernel_rfl) rfl #[.string a0, .int .i64 0, .int .i64 4] rfl (by (try simp only [List.map_toArray, List.map_cons, List.map_nil]); first | done | rfl | (simp only [List.length_drop, List.length_take]; rfl)) ?_; (with_reducible refine (priceofficeref05_number.calls kj1 a0 0 4 t427 _ A12.out).mono ?_); rintro e w' ⟨rfl, ⟨nd, rfl⟩⟩; refine ⟨_, rfl, ?_⟩; (try (rw [drewN_self wc]; generalize hq_ : World.drewN wc _ = wc; have n0_ : Aside0 (wc.heap[gb426]? = some (.cells #[.int .i64 0, .int .i64 0, .int .i64 0] 23 (0, 0))) := ⟨by rw [← hq_]; exact (by (with_reducible repeat (first | refine blk_drewN ?_ _ | refine blk_drew ?_ | refine blk_alloc ?_ _)); exact BK426.out)⟩; have n1_ : Aside0 (Below w.heap.size w wc) := ⟨by rw [← hq_]; exact (by repeat (first | (with_reducible first | exact HB.out | apply below_alloc | apply pw_below_drewN | apply below_drew1 | refine below_set ?_ GE426.out) | exact HB.out))⟩; clear BK426 HB hq_; have BK426 := n0_; have HB := n1_; clear n0_ n1_))) | ((with_reducible refine gate_callee (f := 59) rfl ?_); refine goesL_ (some 22) rfl rfl Tryd.func59 (by kernel_rfl) rfl #[.string a0, .int .i64 5, .int .i64 2] rfl (by (try simp only [List.map_toArray, List.map_cons, List.map_nil]); first | done | rfl | (simp only [List.length_drop, List.length_take]; rfl)) ?_; (with_reducible refine (priceofficeref05_number.calls kj1 a0 5 2 t428 _ A13.out).mono ?_); rintro e w' ⟨rfl, ⟨nd, rfl⟩⟩; refine ⟨_, rfl, ?_⟩; (try (rw [drewN_self wc]; generalize hq_ : World.drewN wc _ = wc; have n0_ : Aside0 (wc.heap[gb426]? = some (.cells #[.int .i64 0, .int .i64 0, .int .i64 0] 23 (0, 0))) := ⟨by rw [← hq_]; exact (by (with_reducible repeat (first | refine blk_drewN ?_ _ | refine blk_drew ?_ | refine blk_alloc ?_ _)); exact BK426.out)⟩; have n1_ : Aside0 (Below w.heap.size w wc) := ⟨by rw [← hq_]; exact (by repeat (first | (with_reducible first | exact HB.out | apply below_alloc | apply pw_below_drewN | apply below_drew1 | refine below_set ?_ GE426.out) | exact HB.out))⟩; clear BK426 HB hq_; have BK426 := n0_; have HB := n1_; clear n0_ n1_))) | ((with_reducible refine gate_callee (f := 59) rfl ?_); refine goesL_ (some 24) rfl rfl Tryd.func59 (by kernel_rfl) rfl #[.string a0, .int .i64 8, .int .i64 2] rfl (by (try simp only [List.map_toArray, List.map_cons, List.map_nil]); first | done | rfl | (simp only [List.length_drop, List.length_take]; rfl)) ?_; (with_reducible refine (priceofficeref05_number.calls kj1 a0 8 2 t429 _ A14.out).mono ?_); rintro e w' ⟨rfl, ⟨nd, rfl⟩⟩; refine ⟨_, rfl, ?_⟩; (try (rw [drewN_self wc]; generalize hq_ : World.drewN wc _ = wc; have n0_ : Aside0 (wc.heap[gb426]? = some (.cells #[.int .i64 0, .int .i64 0, .int .i64 0] 23 (0, 0))) := ⟨by rw [← hq_]; exact (by (with_reducible repeat (first | refine blk_drewN ?_ _ | refine blk_drew ?_ | refine blk_alloc ?_ _)); exact BK426.out)⟩; have n1_ : Aside0 (Below w.heap.size w wc) := ⟨by rw [← hq_]; exact (by repeat (first | (with_reducible first | exact HB.out | apply below_alloc | apply pw_below_drewN | apply below_drew1 | refine below_set ?_ GE426.out) | exact HB.out))⟩; clear BK426 HB hq_; have BK426 := n0_; have HB := n1_; clear n0_ n1_))) | ((with_reducible refine gate_dst (N := 4) rfl ?_); refine box_event ?hg (N := 4) ?hd (cs := #[.int .i64 0, .int .i64 0, .int .i64 0]) (t := 23) ?hr ?_; (case hd => rfl); (case hg => rfl); (case hr => first | (go_simp; done) | (go_simp; rfl)); intro gb430 hg w17 hbox hb; have n0_ := Aside0.mk (blk_below (g := gb426) (o := .cells #[.int .i64 0, .int .i64 0, .int .i64 0] 23 (0, 0)) (by (with_reducible repeat (first | refine blk_drewN ?_ _ | refine blk_drew ?_ | refine blk_alloc ?_ _)); exact BK426.out) hb); have n1_ := Aside0.mk (below_step (by repeat (first | (with_reducible first | exact HB.out | apply below_alloc | apply pw_below_drewN | apply below_drew1 | refine below_set ?_ GE426.out) | exact HB.out)) hb); have n2_ := Aside0.mk (hbox); have n3_ := Aside0.mk ((by rw [hg]; exact (below_size (by repeat (first | (with_reducible first | exact HB.out | apply below_alloc | apply pw_below_drewN | apply below_drew1 | refine below_set ?_ GE426.out) | exact HB.out))) : w.heap.size ≤ gb430)); have n4_ := Aside0.mk ((by rw [hg]; exact (below_size (by repeat (first | (with_reducible first | exact HB.out | apply below_alloc | apply pw_below_drewN | apply below_drew1 | refine below_set ?_ GE426.out) | exact HB.out))) : w.heap.size ≤ gb430)); have n5_ := Aside0.mk ((by rw [hg]; exact Nat.ne_of_lt (blk_lt (g := gb426) (o := .cells #[.int .i64 0, .int .i64 0, .int .i64 0] 23 (0, 0)) (by (with_reducible repeat (first | refine blk_drewN ?_ _ | refine blk_drew ?_ | refine blk_alloc ?_ _)); exact BK426.out)) : gb426 ≠ gb430)); have n6_ := Aside0.mk ((by rw [hg]; exact Nat.ne_of_gt (blk_lt (g := gb426) (o := .cells #[.int .i64 0, .int .i64 0, .int .i64 0] 23 (0, 0)) (by (with_reducible repeat (first | refine blk_drewN ?_ _ | refine blk_drew ?_ | refine blk_alloc ?_ _)); exact BK426.out)) : gb430 ≠ gb426)); clear BK426; clear HB; have BK426 := n0_; have HB := n1_; have BK430 := n2_; have GW430 := n3_; have GE430 := n4_; have NB426_430 := n5_; have NB430_426 := n6_; clear n0_ n1_ n2_ n3_ n4_ n5_ n6_; clear hb hbox hg; have hnb18 := NB430_426.out; have hnc18 := NB426_430.out; have hcz19_0 : w17.cell? ⟨gb430, 0, none⟩ = some (.int .i64 0) := (blk_cell BK430.out 0).trans rfl; have hcz19_1 : w17.cell? ⟨gb430, 1, none⟩ = some (.int .i64 0) := (blk_cell BK430.out 1).trans rfl; have hcz19_2 : w17.cell? ⟨gb430, 2, none⟩ = some (.int .i64 0) := (blk_cell BK430.out 2).trans rfl; have hfz19_0 := blk_frozen BK430.out 0; have hfz19_1 := blk_frozen BK430.out 1; have hfz19_2 := blk_frozen BK430.out 2) | ((with_reducible refine gate_callee (f := 15) rfl ?_); refine goesL_ (some 27) rfl rfl Tryd.func15 (by kernel_rfl) rfl #[.agg #[.int .i64 t427, .int .i64 t428, .int .i64 t429]] rfl (by (try simp only [List.map_toArray, List.map_cons, List.map_nil]); first | done | rfl | (simp only [List.length_drop, List.length_take]; rfl)) ?_; (with_reducible refine (priceofficeref05_ValidDate.calls kj1 t427 t428 t429 true _ A15.out).mono ?_); rintro e w20 ⟨rfl, hb⟩; refine ⟨_, rfl, ?_⟩; have n0_ := Aside0.mk (blk_below (g := gb426) (o := .cells #[.int .i64 0, .int .i64 0, .int .i64 0] 23 (0, 0)) (by (with_reducible repeat (first | refine blk_drewN ?_ _ | refine blk_drew ?_ | refine blk_alloc ?_ _)); refine blk_far ?_ NB426_430.out _; (with_reducible repeat (first | refine blk_drewN ?_ _ | refine blk_drew ?_ | refine blk_alloc ?_ _)); refine blk_far ?_ NB426_430.out _; (with_reducible repeat (first | refine blk_drewN ?_ _ | refine blk_drew ?_ | refine blk_alloc ?_ _)); refine blk_far ?_ NB426_430.out _; (with_reducible repeat (first | refine blk_drewN ?_ _ | refine blk_drew ?_ | refine blk_alloc ?_ _)); exact BK426.out) hb); have n1_ := Aside0.mk (blk_below (g := gb430) (o := .cells #[.int .i64 t427, .int .i64 t428, .int .i64 t429] 23 (0, 0)) (by (with_reducible repeat (first | refine blk_drewN ?_ _ | refine blk_drew ?_ | refine blk_alloc ?_ _)); refine blk_put (cs := #[.int .i64 t427, .int .i64 t428, .int .i64 0]) ?_ 2 _ rfl; (with_reducible repeat (first | refine blk_drewN ?_ _ | refine blk_drew ?_ | refine blk_alloc ?_ _)); refine blk_put (cs := #[.int .i64 t427, .int .i64 0, .int .i64 0]) ?_ 1 _ rfl; (with_reducible repeat (first | refine blk_drewN ?_ _ | refine blk_drew ?_ | refine blk_alloc ?_ _)); refine blk_put (cs := #[.int .i64 0, .int .i64 0, .int .i64 0]) ?_ 0 _ rfl; (with_reducible repeat (first | refine blk_drewN ?_ _ | refine blk_drew ?_ | refine blk_alloc ?_ _)); exact BK430.out) hb); have n2_ := Aside0.mk (below_step (by repeat (first | (with_reducible first | exact HB.out | apply below_alloc | apply pw_below_drewN | apply below_drew1 | refine below_set ?_ GE426.out | refine below_set ?_ GE430.out) | exact HB.out)) hb); clear BK426; clear BK430; clear HB; have BK426 := n0_; have BK430 := n1_; have HB := n2_; clear n0_ n1_ n2_; (try clear hb); (try clear hb2); (try clear hk); (try clear hi); have hcz21_0 : w20.cell? ⟨gb430, 0, none⟩ = some (.int .i64 t427) := (blk_cell BK430.out 0).trans rfl; have hcz21_1 : w20.cell? ⟨gb430, 1, none⟩ = some (.int .i64 t428) := (blk_cell BK430.out 1).trans rfl; have hcz21_2 : w20.cell? ⟨gb430, 2, none⟩ = some (.int .i64 t429) := (blk_cell BK430.out 2).trans rfl; have hfz21_0 := blk_frozen BK430.out 0; have hfz21_1 := blk_frozen BK430.out 1; have hfz21_2 := blk_frozen BK430.out 2; have hcz22_0 : w20.cell? ⟨gb426, 0, none⟩ = some (.int .i64 0) := (blk_cell BK426.out 0).trans rfl; have hcz22_1 : w20.cell? ⟨gb426, 1, none⟩ = some (.int .i64 0) := (blk_cell BK426.out 1).trans rfl; have hcz22_2 : w20.cell? ⟨gb426, 2, none⟩ = some (.int .i64 0) := (blk_cell BK426.out 2).trans rfl; have hfz22_0 := blk_frozen BK426.out 0; have hfz22_1 := blk_frozen BK426.out 1; have hfz22_2 := blk_frozen BK426.out 2))
          refine bodyPost_ret (results_ct rfl _ _ gb426 23 #[.int .i64 t427, .int .i64 t428, .int .i64 t429] (0, 0) _ rfl (by (with_reducible repeat (first | refine blk_drewN ?_ _ | refine blk_drew ?_ | refine blk_alloc ?_ _)); refine blk_put (cs := #[.int .i64 t427, .int .i64 t428, .int .i64 0]) ?_ 2 _ rfl; (with_reducible repeat (first | refine blk_drewN ?_ _ | refine blk_drew ?_ | refine blk_alloc ?_ _)); refine blk_put (cs := #[.int .i64 t427, .int .i64 0, .int .i64 0]) ?_ 1 _ rfl; (with_reducible repeat (first | refine blk_drewN ?_ _ | refine blk_drew ?_ | refine blk_alloc ?_ _)); refine blk_put (cs := #[.int .i64 0, .int .i64 0, .int .i64 0]) ?_ 0 _ rfl; (with_reducible repeat (first | refine blk_drewN ?_ _ | refine blk_drew ?_ | refine blk_alloc ?_ _)); exact BK426.out) Tryd.underlying23 rfl (by kernel_rfl)) rfl ?_
          exact ⟨by first | rfl | (simp [errW_none, errW_some] <;> rfl) | (simp [*, errW_none, errW_some] <;> rfl), by repeat (first | (with_reducible first | exact HB.out | apply below_alloc | apply pw_below_drewN | apply below_drew1 | refine below_set ?_ GE426.out | refine below_set ?_ GE430.out) | exact HB.out)⟩
        · replace c16 := Bool.eq_false_iff.mpr c16
          subst c16
          have H1 : (some (0, 0, 0, 54)) = some (r1, r2, r3, r4) := by rw [if_neg (show ¬ (false = true) by decide)] at H; exact H
          clear H
          have H := H1
          clear H1
          simp only [Option.some.injEq, Prod.mk.injEq] at H
          obtain ⟨rfl, rfl, rfl, rfl⟩ := H
          go_wp2_with (first | ((with_reducible refine gate_callee (f := 59) rfl ?_); refine goesL_ (some 20) rfl rfl Tryd.func59 (by kernel_rfl) rfl #[.string a0, .int .i64 0, .int .i64 4] rfl (by (try simp only [List.map_toArray, List.map_cons, List.map_nil]); first | done | rfl | (simp only [List.length_drop, List.length_take]; rfl)) ?_; (with_reducible refine (priceofficeref05_number.calls kj1 a0 0 4 t427 _ A12.out).mono ?_); rintro e w' ⟨rfl, ⟨nd, rfl⟩⟩; refine ⟨_, rfl, ?_⟩; (try (rw [drewN_self wc]; generalize hq_ : World.drewN wc _ = wc; have n0_ : Aside0 (wc.heap[gb426]? = some (.cells #[.int .i64 0, .int .i64 0, .int .i64 0] 23 (0, 0))) := ⟨by rw [← hq_]; exact (by (with_reducible repeat (first | refine blk_drewN ?_ _ | refine blk_drew ?_ | refine blk_alloc ?_ _)); exact BK426.out)⟩; have n1_ : Aside0 (Below w.heap.size w wc) := ⟨by rw [← hq_]; exact (by repeat (first | (with_reducible first | exact HB.out | apply below_alloc | apply pw_below_drewN | apply below_drew1 | refine below_set ?_ GE426.out) | exact HB.out))⟩; clear BK426 HB hq_; have BK426 := n0_; have HB := n1_; clear n0_ n1_))) | ((with_reducible refine gate_callee (f := 59) rfl ?_); refine goesL_ (some 22) rfl rfl Tryd.func59 (by kernel_rfl) rfl #[.string a0, .int .i64 5, .int .i64 2] rfl (by (try simp only [List.map_toArray, List.map_cons, List.map_nil]); first | done | rfl | (simp only [List.length_drop, List.length_take]; rfl)) ?_; (with_reducible refine (priceofficeref05_number.calls kj1 a0 5 2 t428 _ A13.out).mono ?_); rintro e w' ⟨rfl, ⟨nd, rfl⟩⟩; refine ⟨_, rfl, ?_⟩; (try (rw [drewN_self wc]; generalize hq_ : World.drewN wc _ = wc; have n0_ : Aside0 (wc.heap[gb426]? = some (.cells #[.int .i64 0, .int .i64 0, .int .i64 0] 23 (0, 0))) := ⟨by rw [← hq_]; exact (by (with_reducible repeat (first | refine blk_drewN ?_ _ | refine blk_drew ?_ | refine blk_alloc ?_ _)); exact BK426.out)⟩; have n1_ : Aside0 (Below w.heap.size w wc) := ⟨by rw [← hq_]; exact (by repeat (first | (with_reducible first | exact HB.out | apply below_alloc | apply pw_below_drewN | apply below_drew1 | refine below_set ?_ GE426.out) | exact HB.out))⟩; clear BK426 HB hq_; have BK426 := n0_; have HB := n1_; clear n0_ n1_))) | ((with_reducible refine gate_callee (f := 59) rfl ?_); refine goesL_ (some 24) rfl rfl Tryd.func59 (by kernel_rfl) rfl #[.string a0, .int .i64 8, .int .i64 2] rfl (by (try simp only [List.map_toArray, List.map_cons, List.map_nil]); first | done | rfl | (simp only [List.length_drop, List.length_take]; rfl)) ?_; (with_reducible refine (priceofficeref05_number.calls kj1 a0 8 2 t429 _ A14.out).mono ?_); rintro e w' ⟨rfl, ⟨nd, rfl⟩⟩; refine ⟨_, rfl, ?_⟩; (try (rw [drewN_self wc]; generalize hq_ : World.drewN wc _ = wc; have n0_ : Aside0 (wc.heap[gb426]? = some (.cells #[.int .i64 0, .int .i64 0, .int .i64 0] 23 (0, 0))) := ⟨by rw [← hq_]; exact (by (with_reducible repeat (first | refine blk_drewN ?_ _ | refine blk_drew ?_ | refine blk_alloc ?_ _)); exact BK426.out)⟩; have n1_ : Aside0 (Below w.heap.size w wc) := ⟨by rw [← hq_]; exact (by repeat (first | (with_reducible first | exact HB.out | apply below_alloc | apply pw_below_drewN | apply below_drew1 | refine below_set ?_ GE426.out) | exact HB.out))⟩; clear BK426 HB hq_; have BK426 := n0_; have HB := n1_; clear n0_ n1_))) | ((with_reducible refine gate_dst (N := 4) rfl ?_); refine box_event ?hg (N := 4) ?hd (cs := #[.int .i64 0, .int .i64 0, .int .i64 0]) (t := 23) ?hr ?_; (case hd => rfl); (case hg => rfl); (case hr => first | (go_simp; done) | (go_simp; rfl)); intro gb430 hg w23 hbox hb; have n0_ := Aside0.mk (blk_below (g := gb426) (o := .cells #[.int .i64 0, .int .i64 0, .int .i64 0] 23 (0, 0)) (by (with_reducible repeat (first | refine blk_drewN ?_ _ | refine blk_drew ?_ | refine blk_alloc ?_ _)); exact BK426.out) hb); have n1_ := Aside0.mk (below_step (by repeat (first | (with_reducible first | exact HB.out | apply below_alloc | apply pw_below_drewN | apply below_drew1 | refine below_set ?_ GE426.out) | exact HB.out)) hb); have n2_ := Aside0.mk (hbox); have n3_ := Aside0.mk ((by rw [hg]; exact (below_size (by repeat (first | (with_reducible first | exact HB.out | apply below_alloc | apply pw_below_drewN | apply below_drew1 | refine below_set ?_ GE426.out) | exact HB.out))) : w.heap.size ≤ gb430)); have n4_ := Aside0.mk ((by rw [hg]; exact (below_size (by repeat (first | (with_reducible first | exact HB.out | apply below_alloc | apply pw_below_drewN | apply below_drew1 | refine below_set ?_ GE426.out) | exact HB.out))) : w.heap.size ≤ gb430)); have n5_ := Aside0.mk ((by rw [hg]; exact Nat.ne_of_lt (blk_lt (g := gb426) (o := .cells #[.int .i64 0, .int .i64 0, .int .i64 0] 23 (0, 0)) (by (with_reducible repeat (first | refine blk_drewN ?_ _ | refine blk_drew ?_ | refine blk_alloc ?_ _)); exact BK426.out)) : gb426 ≠ gb430)); have n6_ := Aside0.mk ((by rw [hg]; exact Nat.ne_of_gt (blk_lt (g := gb426) (o := .cells #[.int .i64 0, .int .i64 0, .int .i64 0] 23 (0, 0)) (by (with_reducible repeat (first | refine blk_drewN ?_ _ | refine blk_drew ?_ | refine blk_alloc ?_ _)); exact BK426.out)) : gb430 ≠ gb426)); clear BK426; clear HB; have BK426 := n0_; have HB := n1_; have BK430 := n2_; have GW430 := n3_; have GE430 := n4_; have NB426_430 := n5_; have NB430_426 := n6_; clear n0_ n1_ n2_ n3_ n4_ n5_ n6_; clear hb hbox hg; have hnb24 := NB430_426.out; have hnc24 := NB426_430.out; have hcz25_0 : w23.cell? ⟨gb430, 0, none⟩ = some (.int .i64 0) := (blk_cell BK430.out 0).trans rfl; have hcz25_1 : w23.cell? ⟨gb430, 1, none⟩ = some (.int .i64 0) := (blk_cell BK430.out 1).trans rfl; have hcz25_2 : w23.cell? ⟨gb430, 2, none⟩ = some (.int .i64 0) := (blk_cell BK430.out 2).trans rfl; have hfz25_0 := blk_frozen BK430.out 0; have hfz25_1 := blk_frozen BK430.out 1; have hfz25_2 := blk_frozen BK430.out 2) | ((with_reducible refine gate_callee (f := 15) rfl ?_); refine goesL_ (some 27) rfl rfl Tryd.func15 (by kernel_rfl) rfl #[.agg #[.int .i64 t427, .int .i64 t428, .int .i64 t429]] rfl (by (try simp only [List.map_toArray, List.map_cons, List.map_nil]); first | done | rfl | (simp only [List.length_drop, List.length_take]; rfl)) ?_; (with_reducible refine (priceofficeref05_ValidDate.calls kj1 t427 t428 t429 false _ A15.out).mono ?_); rintro e w26 ⟨rfl, hb⟩; refine ⟨_, rfl, ?_⟩; have n0_ := Aside0.mk (blk_below (g := gb426) (o := .cells #[.int .i64 0, .int .i64 0, .int .i64 0] 23 (0, 0)) (by (with_reducible repeat (first | refine blk_drewN ?_ _ | refine blk_drew ?_ | refine blk_alloc ?_ _)); refine blk_far ?_ NB426_430.out _; (with_reducible repeat (first | refine blk_drewN ?_ _ | refine blk_drew ?_ | refine blk_alloc ?_ _)); refine blk_far ?_ NB426_430.out _; (with_reducible repeat (first | refine blk_drewN ?_ _ | refine blk_drew ?_ | refine blk_alloc ?_ _)); refine blk_far ?_ NB426_430.out _; (with_reducible repeat (first | refine blk_drewN ?_ _ | refine blk_drew ?_ | refine blk_alloc ?_ _)); exact BK426.out) hb); have n1_ := Aside0.mk (blk_below (g := gb430) (o := .cells #[.int .i64 t427, .int .i64 t428, .int .i64 t429] 23 (0, 0)) (by (with_reducible repeat (first | refine blk_drewN ?_ _ | refine blk_drew ?_ | refine blk_alloc ?_ _)); refine blk_put (cs := #[.int .i64 t427, .int .i64 t428, .int .i64 0]) ?_ 2 _ rfl; (with_reducible repeat (first | refine blk_drewN ?_ _ | refine blk_drew ?_ | refine blk_alloc ?_ _)); refine blk_put (cs := #[.int .i64 t427, .int .i64 0, .int .i64 0]) ?_ 1 _ rfl; (with_reducible repeat (first | refine blk_drewN ?_ _ | refine blk_drew ?_ | refine blk_alloc ?_ _)); refine blk_put (cs := #[.int .i64 0, .int .i64 0, .int .i64 0]) ?_ 0 _ rfl; (with_reducible repeat (first | refine blk_drewN ?_ _ | refine blk_drew ?_ | refine blk_alloc ?_ _)); exact BK430.out) hb); have n2_ := Aside0.mk (below_step (by repeat (first | (with_reducible first | exact HB.out | apply below_alloc | apply pw_below_drewN | apply below_drew1 | refine below_set ?_ GE426.out | refine below_set ?_ GE430.out) | exact HB.out)) hb); clear BK426; clear BK430; clear HB; have BK426 := n0_; have BK430 := n1_; have HB := n2_; clear n0_ n1_ n2_; (try clear hb); (try clear hb2); (try clear hk); (try clear hi); have hcz27_0 : w26.cell? ⟨gb426, 0, none⟩ = some (.int .i64 0) := (blk_cell BK426.out 0).trans rfl; have hcz27_1 : w26.cell? ⟨gb426, 1, none⟩ = some (.int .i64 0) := (blk_cell BK426.out 1).trans rfl; have hcz27_2 : w26.cell? ⟨gb426, 2, none⟩ = some (.int .i64 0) := (blk_cell BK426.out 2).trans rfl; have hfz27_0 := blk_frozen BK426.out 0; have hfz27_1 := blk_frozen BK426.out 1; have hfz27_2 := blk_frozen BK426.out 2))
          refine bodyPost_ret (results_ct rfl _ _ gb426 23 #[.int .i64 0, .int .i64 0, .int .i64 0] (0, 0) _ rfl (by (with_reducible repeat (first | refine blk_drewN ?_ _ | refine blk_drew ?_ | refine blk_alloc ?_ _)); refine blk_put (cs := #[.int .i64 0, .int .i64 0, .int .i64 0]) ?_ 2 _ rfl; (with_reducible repeat (first | refine blk_drewN ?_ _ | refine blk_drew ?_ | refine blk_alloc ?_ _)); refine blk_put (cs := #[.int .i64 0, .int .i64 0, .int .i64 0]) ?_ 1 _ rfl; (with_reducible repeat (first | refine blk_drewN ?_ _ | refine blk_drew ?_ | refine blk_alloc ?_ _)); refine blk_put (cs := #[.int .i64 0, .int .i64 0, .int .i64 0]) ?_ 0 _ rfl; (with_reducible repeat (first | refine blk_drewN ?_ _ | refine blk_drew ?_ | refine blk_alloc ?_ _)); exact BK426.out) Tryd.underlying23 rfl (by kernel_rfl)) rfl ?_
          exact ⟨by first | rfl | (simp [errW_none, errW_some] <;> rfl) | (simp [*, errW_none, errW_some] <;> rfl), by repeat (first | (with_reducible first | exact HB.out | apply below_alloc | apply pw_below_drewN | apply below_drew1 | refine below_set ?_ GE426.out | refine below_set ?_ GE430.out) | exact HB.out)⟩

/-! ### priceofficeref05_ParsePeriod: function 46 -/
def priceofficeref05_ParsePeriod.f (k : Nat) (a0 : ByteArray) : Option (Int × Int) := if (a0.size : Int) = 7 then (if a0.size + 3 ≤ 9223372036854775807 then ((priceofficeref05_ParseDate.f k (a0 ++ (⟨#[45, 48, 49]⟩ : ByteArray))).bind fun bt432 => (if bt432.2.2.2 = 0 then (some (wrap64 ((wrap64 ((wrap64 (12 * (wrap64 (bt432.1 - 1900)))) + bt432.2.1)) - 1), 0)) else (some (0, bt432.2.2.2)))) else (none)) else (some (0, 54))
theorem priceofficeref05_ParsePeriod.mono : ∀ a0 k, LeO (priceofficeref05_ParsePeriod.f k a0) (priceofficeref05_ParsePeriod.f (k + 1) a0) := by
  intro a0 k
  unfold priceofficeref05_ParsePeriod.f
  repeat' first
      | (with_reducible exact priceofficeref05_ParseDate.mono _ _)
      | (with_reducible exact LeO.refl _)
      | (with_reducible exact LeO.none _)
      | (with_reducible refine LeO.ite ?_ ?_)
      | (with_reducible refine LeO.bind ?_ (fun _ => ?_))
      | exact priceofficeref05_ParseDate.mono _ _
      | exact LeO.none _
      | refine LeO.ite ?_ ?_
      | refine LeO.bind ?_ (fun _ => ?_)
set_option maxHeartbeats 8000000 in
set_option maxRecDepth 100000 in
theorem priceofficeref05_ParsePeriod.calls (k : Nat) (a0 : ByteArray) (r1 : Int) (r2 : Int) (w : World) (h : priceofficeref05_ParsePeriod.f k a0 = some (r1, r2)) :
    Calls Tryd.prog 46 #[.string a0] w fun e w' => e = .returned (.tuple #[.int .i64 r1, .int .i64 r2]) ∧ Below w.heap.size w w' := by
  have hu23 := Tryd.underlying23
  have HB := Aside0.mk (Below.refl w.heap.size w)
  have H : (if (a0.size : Int) = 7 then (if a0.size + 3 ≤ 9223372036854775807 then ((priceofficeref05_ParseDate.f k (a0 ++ (⟨#[45, 48, 49]⟩ : ByteArray))).bind fun bt432 => (if bt432.2.2.2 = 0 then (some (wrap64 ((wrap64 ((wrap64 (12 * (wrap64 (bt432.1 - 1900)))) + bt432.2.1)) - 1), 0)) else (some (0, bt432.2.2.2)))) else (none)) else (some (0, 54))) = some (r1, r2) := h
  clear h
  by_cases c2 : (a0.size : Int) = 7
  · rw [if_pos c2] at H
    have c2b0 : ((a0.size : Int) == 7) = true := beq_iff_eq.mpr c2
    have c2b1 : ((a0.size : Int) != 7) = false := bne_eq_false_iff_eq.mpr c2
    clear c2
    by_cases c3 : a0.size + 3 ≤ 9223372036854775807
    · rw [if_pos c3] at H
      have c3b0 := eq_true c3
      have c3b1 : decide (a0.size + 3 ≤ 9223372036854775807) = true := decide_eq_true c3
      try have c3b2 : (9223372036854775807 < a0.size + 3) = False := eq_false (Nat.not_lt.2 c3)
      replace H := Option.bind_eq_some_iff.mp H
      obtain ⟨⟨t432, t433, t434, t435⟩, A40, H⟩ := H
      replace H : (if t435 = 0 then (some (wrap64 ((wrap64 ((wrap64 (12 * (wrap64 (t432 - 1900)))) + t433)) - 1), 0)) else (some (0, t435))) = some (r1, r2) := H
      have A4 := Aside0.mk A40
      clear A40
      by_cases c5 : t435 = 0
      · rw [if_pos c5] at H
        have c5b0 : (t435 == 0) = true := beq_iff_eq.mpr c5
        have c5b1 : (t435 != 0) = false := bne_eq_false_iff_eq.mpr c5
        clear c5
        simp only [Option.some.injEq, Prod.mk.injEq] at H
        obtain ⟨rfl, rfl⟩ := H
        go_enter Tryd.func46, Tryd.ntmps46
        go_wp2_with (first | ((with_reducible refine gate_callee (f := 45) rfl ?_); refine goesL_ (some 12) rfl rfl Tryd.func45 (by kernel_rfl) rfl #[.string (a0 ++ (⟨#[45, 48, 49]⟩ : ByteArray))] rfl (by (try simp only [List.map_toArray, List.map_cons, List.map_nil]); first | done | rfl | (simp only [List.length_drop, List.length_take]; rfl)) ?_; (with_reducible refine (priceofficeref05_ParseDate.calls k (a0 ++ (⟨#[45, 48, 49]⟩ : ByteArray)) t432 t433 t434 t435 _ A4.out).mono ?_); rintro e w6 ⟨rfl, hb⟩; refine ⟨_, rfl, ?_⟩; have n0_ := Aside0.mk (below_step (by repeat (first | (with_reducible first | exact HB.out | apply below_alloc | apply pw_below_drewN | apply below_drew1) | exact HB.out)) hb); clear HB; have HB := n0_; clear n0_; (try clear hb); (try clear hb2); (try clear hk); (try clear hi)) | ((with_reducible refine gate_dst (N := 4) rfl ?_); refine box_event ?hg (N := 4) ?hd (cs := #[.int .i64 0, .int .i64 0, .int .i64 0]) (t := 23) ?hr ?_; (case hd => rfl); (case hg => rfl); (case hr => first | (go_simp; done) | (go_simp; rfl)); intro gb436 hg w7 hbox hb; have n0_ := Aside0.mk (below_step (by repeat (first | (with_reducible first | exact HB.out | apply below_alloc | apply pw_below_drewN | apply below_drew1) | exact HB.out)) hb); have n1_ := Aside0.mk (hbox); have n2_ := Aside0.mk ((by rw [hg]; exact (below_size (by repeat (first | (with_reducible first | exact HB.out | apply below_alloc | apply pw_below_drewN | apply below_drew1) | exact HB.out))) : w.heap.size ≤ gb436)); have n3_ := Aside0.mk ((by rw [hg]; exact (below_size (by repeat (first | (with_reducible first | exact HB.out | apply below_alloc | apply pw_below_drewN | apply below_drew1) | exact HB.out))) : w.heap.size ≤ gb436)); clear HB; have HB := n0_; have BK436 := n1_; have GW436 := n2_; have GE436 := n3_; clear n0_ n1_ n2_ n3_; clear hb hbox hg; have hcz8_0 : w7.cell? ⟨gb436, 0, none⟩ = some (.int .i64 0) := (blk_cell BK436.out 0).trans rfl; have hcz8_1 : w7.cell? ⟨gb436, 1, none⟩ = some (.int .i64 0) := (blk_cell BK436.out 1).trans rfl; have hcz8_2 : w7.cell? ⟨gb436, 2, none⟩ = some (.int .i64 0) := (blk_cell BK436.out 2).trans rfl; have hfz8_0 := blk_frozen BK436.out 0; have hfz8_1 := blk_frozen BK436.out 1; have hfz8_2 := blk_frozen BK436.out 2))
        go_ret2
        exact ⟨by first | rfl | (simp [errW_none, errW_some] <;> rfl) | (simp [*, errW_none, errW_some] <;> rfl), by repeat (first | (with_reducible first | exact HB.out | apply below_alloc | apply pw_below_drewN | apply below_drew1 | refine below_set ?_ GE436.out) | exact HB.out)⟩
      · rw [if_neg c5] at H
        have c5b0 : (t435 == 0) = false := beq_eq_false_iff_ne.mpr c5
        have c5b1 : (t435 != 0) = true := bne_iff_ne.mpr c5
        simp only [Option.some.injEq, Prod.mk.injEq] at H
        obtain ⟨rfl, rfl⟩ := H
        go_enter Tryd.func46, Tryd.ntmps46
        go_wp2_with (first | ((with_reducible refine gate_callee (f := 45) rfl ?_); refine goesL_ (some 12) rfl rfl Tryd.func45 (by kernel_rfl) rfl #[.string (a0 ++ (⟨#[45, 48, 49]⟩ : ByteArray))] rfl (by (try simp only [List.map_toArray, List.map_cons, List.map_nil]); first | done | rfl | (simp only [List.length_drop, List.length_take]; rfl)) ?_; (with_reducible refine (priceofficeref05_ParseDate.calls k (a0 ++ (⟨#[45, 48, 49]⟩ : ByteArray)) t432 t433 t434 t435 _ A4.out).mono ?_); rintro e w9 ⟨rfl, hb⟩; refine ⟨_, rfl, ?_⟩; have n0_ := Aside0.mk (below_step (by repeat (first | (with_reducible first | exact HB.out | apply below_alloc | apply pw_below_drewN | apply below_drew1) | exact HB.out)) hb); clear HB; have HB := n0_; clear n0_; (try clear hb); (try clear hb2); (try clear hk); (try clear hi)) | ((with_reducible refine gate_dst (N := 4) rfl ?_); refine box_event ?hg (N := 4) ?hd (cs := #[.int .i64 0, .int .i64 0, .int .i64 0]) (t := 23) ?hr ?_; (case hd => rfl); (case hg => rfl); (case hr => first | (go_simp; done) | (go_simp; rfl)); intro gb436 hg w10 hbox hb; have n0_ := Aside0.mk (below_step (by repeat (first | (with_reducible first | exact HB.out | apply below_alloc | apply pw_below_drewN | apply below_drew1) | exact HB.out)) hb); have n1_ := Aside0.mk (hbox); have n2_ := Aside0.mk ((by rw [hg]; exact (below_size (by repeat (first | (with_reducible first | exact HB.out | apply below_alloc | apply pw_below_drewN | apply below_drew1) | exact HB.out))) : w.heap.size ≤ gb436)); have n3_ := Aside0.mk ((by rw [hg]; exact (below_size (by repeat (first | (with_reducible first | exact HB.out | apply below_alloc | apply pw_below_drewN | apply below_drew1) | exact HB.out))) : w.heap.size ≤ gb436)); clear HB; have HB := n0_; have BK436 := n1_; have GW436 := n2_; have GE436 := n3_; clear n0_ n1_ n2_ n3_; clear hb hbox hg; have hcz11_0 : w10.cell? ⟨gb436, 0, none⟩ = some (.int .i64 0) := (blk_cell BK436.out 0).trans rfl; have hcz11_1 : w10.cell? ⟨gb436, 1, none⟩ = some (.int .i64 0) := (blk_cell BK436.out 1).trans rfl; have hcz11_2 : w10.cell? ⟨gb436, 2, none⟩ = some (.int .i64 0) := (blk_cell BK436.out 2).trans rfl; have hfz11_0 := blk_frozen BK436.out 0; have hfz11_1 := blk_frozen BK436.out 1; have hfz11_2 := blk_frozen BK436.out 2))
        go_ret2
        exact ⟨by first | rfl | (simp [errW_none, errW_some] <;> rfl) | (simp [*, errW_none, errW_some] <;> rfl), by repeat (first | (with_reducible first | exact HB.out | apply below_alloc | apply pw_below_drewN | apply below_drew1 | refine below_set ?_ GE436.out) | exact HB.out)⟩
    · rw [if_neg c3] at H
      exact absurd H (by simp)
  · rw [if_neg c2] at H
    have c2b0 : ((a0.size : Int) == 7) = false := beq_eq_false_iff_ne.mpr c2
    have c2b1 : ((a0.size : Int) != 7) = true := bne_iff_ne.mpr c2
    simp only [Option.some.injEq, Prod.mk.injEq] at H
    obtain ⟨rfl, rfl⟩ := H
    go_enter Tryd.func46, Tryd.ntmps46
    go_wp2
    go_ret2
    exact ⟨by first | rfl | (simp [errW_none, errW_some] <;> rfl) | (simp [*, errW_none, errW_some] <;> rfl), by repeat (first | (with_reducible first | exact HB.out | apply below_alloc | apply pw_below_drewN | apply below_drew1) | exact HB.out)⟩

-- NOT PRINTED: function 13 (priceofficelaw05_CalendarReads)

end Go.Proofs.YtpbkdbicdimfhaaDoor.P
