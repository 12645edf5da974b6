/- Lean functions with the same answers as the program's Go functions, and for each the proof that the call comes to these answers; written by a program of mine out of the translation, the functions marked 'by hand' by me. -/
import Derived.Test.YtpbkdbicdimfhaaDoorP0
import Derived.Test.YtpbkdbicdimfhaaDoorP11
namespace Go.Proofs.YtpbkdbicdimfhaaDoor.P
open Go.RowKit Go.Proofs.YtpbkdbicdimfhaaDoorW.PrintWords Go.Proofs.YtpbkdbicdimfhaaDoorW.PrintLast Go.Proofs.YtpbkdbicdimfhaaDoorW.PrintMore
attribute [local go_sem] max2_int min2_int max_two min_two max_three min_three max_four min_four   -- for this text's walks alone
set_option linter.unusedVariables false
set_option linter.unusedSimpArgs false

/-! ### calendar_Shift: function 37 (by hand) -/


def calendar_Shift.f (a0 : Int) (a1 : Int) (l2 : List Int) : Option (Int × Int) := if l2.all (fun x => (Lit.int .i64 x).wf) = true then some (shift a0 a1 l2) else none
theorem calendar_Shift.calls (a0 : Int) (a1 : Int) (A2 : Option Addr) (c2 : Nat) (l2 : List Int) (r1 : Int) (r2 : Int) (w : World) (hr2 : Kd.C (Kd.int .i64) w A2 l2.length l2) (hc2 : l2.length ≤ c2) (h : calendar_Shift.f a0 a1 l2 = some (r1, r2)) :
    Calls Tryd.prog 37 #[.int .i64 a0, .int .i64 a1, .slice A2 l2.length c2] w fun e w' => e = .returned (.tuple #[.int .i64 r1, .int .i64 r2]) ∧ Below w.heap.size w w' := by
  unfold calendar_Shift.f at h
  split at h
  · rename_i c
    have hq := Option.some.inj h
    refine (shift_any a0 a1 A2 c2 l2 w hr2 (by simpa using c)).mono fun e w' hp => ?_
    unfold ShiftPost at hp
    rw [hq] at hp
    exact hp
  · exact absurd h (by simp)

/-! ### priceofficeref05_Shift: function 38 -/
mutual
def priceofficeref05_Shift.j0 : Nat → Int → Int → List Int → Bool → Option (Int × Int)
  | 0, _, _, _, _ => none
  | k + 1, x0, x1, x2, x15 => if x15 = true then (some (0, 50)) else (if x1 > 1000 then (priceofficeref05_Shift.j1 k x0 x1 x2 true) else (priceofficeref05_Shift.j1 k x0 x1 x2 (decide (x1 < (-1000)))))
def priceofficeref05_Shift.j1 : Nat → Int → Int → List Int → Bool → Option (Int × Int)
  | 0, _, _, _, _ => none
  | k + 1, x0, x1, x2, x21 => if x21 = true then (some (0, 51)) else (if (x2.length : Int) > 400 then (some (0, 52)) else (if x1 < 0 then (priceofficeref05_Shift.j2 k x0 (wrap64 (-x1)) x2 (-1)) else (priceofficeref05_Shift.j2 k x0 x1 x2 1)))
def priceofficeref05_Shift.j2 : Nat → Int → Int → List Int → Int → Option (Int × Int)
  | 0, _, _, _, _ => none
  | k + 1, x0, x1, x2, x8 => if x1 = 0 then ((priceofficeref05_Business.f k x0 x2).bind fun t316 => (priceofficeref05_Shift.j3 k x0 x1 x2 x8 t316)) else (priceofficeref05_Shift.j3 k x0 x1 x2 x8 false)
def priceofficeref05_Shift.j3 : Nat → Int → Int → List Int → Int → Bool → Option (Int × Int)
  | 0, _, _, _, _, _ => none
  | k + 1, x0, x1, x2, x8, x35 => if x35 = true then (some (x0, 0)) else (priceofficeref05_Shift.l0 k (mx x1 1) x2 x8 (wrap64 (x0 + x8)))
def priceofficeref05_Shift.l0 : Nat → Int → List Int → Int → Int → Option (Int × Int)
  | 0, _, _, _, _ => none
  | k + 1, x1, x2, x8, x9 => if x9 ≥ 0 then (priceofficeref05_Shift.j5 k x1 x2 x8 x9 (decide (x9 < 182621))) else (priceofficeref05_Shift.j5 k x1 x2 x8 x9 false)
def priceofficeref05_Shift.j5 : Nat → Int → List Int → Int → Int → Bool → Option (Int × Int)
  | 0, _, _, _, _, _ => none
  | k + 1, x1, x2, x8, x9, x47 => if x47 = true then ((priceofficeref05_Business.f k x9 x2).bind fun t317 => (if t317 = true then (if (wrap64 (x1 - 1)) = 0 then (some (x9, 0)) else (priceofficeref05_Shift.l0 k (wrap64 (x1 - 1)) x2 x8 (wrap64 (x9 + x8)))) else (priceofficeref05_Shift.l0 k x1 x2 x8 (wrap64 (x9 + x8))))) else (some (0, 53))
end
def priceofficeref05_Shift.f (k : Nat) (a0 : Int) (a1 : Int) (l2 : List Int) : Option (Int × Int) := if a0 < 0 then (priceofficeref05_Shift.j0 k a0 a1 l2 true) else (priceofficeref05_Shift.j0 k a0 a1 l2 (decide (a0 ≥ 182621)))
theorem priceofficeref05_Shift.mono_l : ∀ k, (∀ y0 y1 y2 y3, LeO (priceofficeref05_Shift.j0 k y0 y1 y2 y3) (priceofficeref05_Shift.j0 (k + 1) y0 y1 y2 y3)) ∧ (∀ y0 y1 y2 y3, LeO (priceofficeref05_Shift.j1 k y0 y1 y2 y3) (priceofficeref05_Shift.j1 (k + 1) y0 y1 y2 y3)) ∧ (∀ y0 y1 y2 y3, LeO (priceofficeref05_Shift.j2 k y0 y1 y2 y3) (priceofficeref05_Shift.j2 (k + 1) y0 y1 y2 y3)) ∧ (∀ y0 y1 y2 y3 y4, LeO (priceofficeref05_Shift.j3 k y0 y1 y2 y3 y4) (priceofficeref05_Shift.j3 (k + 1) y0 y1 y2 y3 y4)) ∧ (∀ y0 y1 y2 y3, LeO (priceofficeref05_Shift.l0 k y0 y1 y2 y3) (priceofficeref05_Shift.l0 (k + 1) y0 y1 y2 y3)) ∧ (∀ y0 y1 y2 y3 y4, LeO (priceofficeref05_Shift.j5 k y0 y1 y2 y3 y4) (priceofficeref05_Shift.j5 (k + 1) y0 y1 y2 y3 y4))
  | 0 => ⟨fun _ _ _ _ r h => by simp [priceofficeref05_Shift.j0] at h, fun _ _ _ _ r h => by simp [priceofficeref05_Shift.j1] at h, fun _ _ _ _ r h => by simp [priceofficeref05_Shift.j2] at h, fun _ _ _ _ _ r h => by simp [priceofficeref05_Shift.j3] at h, fun _ _ _ _ r h => by simp [priceofficeref05_Shift.l0] at h, fun _ _ _ _ _ r h => by simp [priceofficeref05_Shift.j5] at h⟩
  | k + 1 => by
    obtain ⟨ih0, ih1, ih2, ih3, ih4, ih5⟩ := priceofficeref05_Shift.mono_l k
    refine ⟨?_, ?_, ?_, ?_, ?_, ?_⟩
    · intro y0 y1 y2 y3
      unfold priceofficeref05_Shift.j0
      repeat' first
      | (with_reducible exact ih0 _ _ _ _)
      | (with_reducible exact ih1 _ _ _ _)
      | (with_reducible exact ih2 _ _ _ _)
      | (with_reducible exact ih3 _ _ _ _ _)
      | (with_reducible exact ih4 _ _ _ _)
      | (with_reducible exact ih5 _ _ _ _ _)
      | (with_reducible exact priceofficeref05_Business.mono _ _ _)
      | (with_reducible exact LeO.refl _)
      | (with_reducible exact LeO.none _)
      | (with_reducible refine LeO.ite ?_ ?_)
      | (with_reducible refine LeO.bind ?_ (fun _ => ?_))
      | exact ih0 _ _ _ _
      | exact ih1 _ _ _ _
      | exact ih2 _ _ _ _
      | exact ih3 _ _ _ _ _
      | exact ih4 _ _ _ _
      | exact ih5 _ _ _ _ _
      | exact priceofficeref05_Business.mono _ _ _
      | exact LeO.none _
      | refine LeO.ite ?_ ?_
      | refine LeO.bind ?_ (fun _ => ?_)
    · intro y0 y1 y2 y3
      unfold priceofficeref05_Shift.j1
      repeat' first
      | (with_reducible exact ih0 _ _ _ _)
      | (with_reducible exact ih1 _ _ _ _)
      | (with_reducible exact ih2 _ _ _ _)
      | (with_reducible exact ih3 _ _ _ _ _)
      | (with_reducible exact ih4 _ _ _ _)
      | (with_reducible exact ih5 _ _ _ _ _)
      | (with_reducible exact priceofficeref05_Business.mono _ _ _)
      | (with_reducible exact LeO.refl _)
      | (with_reducible exact LeO.none _)
      | (with_reducible refine LeO.ite ?_ ?_)
      | (with_reducible refine LeO.bind ?_ (fun _ => ?_))
      | exact ih0 _ _ _ _
      | exact ih1 _ _ _ _
      | exact ih2 _ _ _ _
      | exact ih3 _ _ _ _ _
      | exact ih4 _ _ _ _
      | exact ih5 _ _ _ _ _
      | exact priceofficeref05_Business.mono _ _ _
      | exact LeO.none _
      | refine LeO.ite ?_ ?_
      | refine LeO.bind ?_ (fun _ => ?_)
    · intro y0 y1 y2 y3
      unfold priceofficeref05_Shift.j2
      repeat' first
      | (with_reducible exact ih0 _ _ _ _)
      | (with_reducible exact ih1 _ _ _ _)
      | (with_reducible exact ih2 _ _ _ _)
      | (with_reducible exact ih3 _ _ _ _ _)
      | (with_reducible exact ih4 _ _ _ _)
      | (with_reducible exact ih5 _ _ _ _ _)
      | (with_reducible exact priceofficeref05_Business.mono _ _ _)
      | (with_reducible exact LeO.refl _)
      | (with_reducible exact LeO.none _)
      | (with_reducible refine LeO.ite ?_ ?_)
      | (with_reducible refine LeO.bind ?_ (fun _ => ?_))
      | exact ih0 _ _ _ _
      | exact ih1 _ _ _ _
      | exact ih2 _ _ _ _
      | exact ih3 _ _ _ _ _
      | exact ih4 _ _ _ _
      | exact ih5 _ _ _ _ _
      | exact priceofficeref05_Business.mono _ _ _
      | exact LeO.none _
      | refine LeO.ite ?_ ?_
      | refine LeO.bind ?_ (fun _ => ?_)
    · intro y0 y1 y2 y3 y4
      unfold priceofficeref05_Shift.j3
      repeat' first
      | (with_reducible exact ih0 _ _ _ _)
      | (with_reducible exact ih1 _ _ _ _)
      | (with_reducible exact ih2 _ _ _ _)
      | (with_reducible exact ih3 _ _ _ _ _)
      | (with_reducible exact ih4 _ _ _ _)
      | (with_reducible exact ih5 _ _ _ _ _)
      | (with_reducible exact priceofficeref05_Business.mono _ _ _)
      | (with_reducible exact LeO.refl _)
      | (with_reducible exact LeO.none _)
      | (with_reducible refine LeO.ite ?_ ?_)
      | (with_reducible refine LeO.bind ?_ (fun _ => ?_))
      | exact ih0 _ _ _ _
      | exact ih1 _ _ _ _
      | exact ih2 _ _ _ _
      | exact ih3 _ _ _ _ _
      | exact ih4 _ _ _ _
      | exact ih5 _ _ _ _ _
      | exact priceofficeref05_Business.mono _ _ _
      | exact LeO.none _
      | refine LeO.ite ?_ ?_
      | refine LeO.bind ?_ (fun _ => ?_)
    · intro y0 y1 y2 y3
      unfold priceofficeref05_Shift.l0
      repeat' first
      | (with_reducible exact ih0 _ _ _ _)
      | (with_reducible exact ih1 _ _ _ _)
      | (with_reducible exact ih2 _ _ _ _)
      | (with_reducible exact ih3 _ _ _ _ _)
      | (with_reducible exact ih4 _ _ _ _)
      | (with_reducible exact ih5 _ _ _ _ _)
      | (with_reducible exact priceofficeref05_Business.mono _ _ _)
      | (with_reducible exact LeO.refl _)
      | (with_reducible exact LeO.none _)
      | (with_reducible refine LeO.ite ?_ ?_)
      | (with_reducible refine LeO.bind ?_ (fun _ => ?_))
      | exact ih0 _ _ _ _
      | exact ih1 _ _ _ _
      | exact ih2 _ _ _ _
      | exact ih3 _ _ _ _ _
      | exact ih4 _ _ _ _
      | exact ih5 _ _ _ _ _
      | exact priceofficeref05_Business.mono _ _ _
      | exact LeO.none _
      | refine LeO.ite ?_ ?_
      | refine LeO.bind ?_ (fun _ => ?_)
    · intro y0 y1 y2 y3 y4
      unfold priceofficeref05_Shift.j5
      repeat' first
      | (with_reducible exact ih0 _ _ _ _)
      | (with_reducible exact ih1 _ _ _ _)
      | (with_reducible exact ih2 _ _ _ _)
      | (with_reducible exact ih3 _ _ _ _ _)
      | (with_reducible exact ih4 _ _ _ _)
      | (with_reducible exact ih5 _ _ _ _ _)
      | (with_reducible exact priceofficeref05_Business.mono _ _ _)
      | (with_reducible exact LeO.refl _)
      | (with_reducible exact LeO.none _)
      | (with_reducible refine LeO.ite ?_ ?_)
      | (with_reducible refine LeO.bind ?_ (fun _ => ?_))
      | exact ih0 _ _ _ _
      | exact ih1 _ _ _ _
      | exact ih2 _ _ _ _
      | exact ih3 _ _ _ _ _
      | exact ih4 _ _ _ _
      | exact ih5 _ _ _ _ _
      | exact priceofficeref05_Business.mono _ _ _
      | exact LeO.none _
      | refine LeO.ite ?_ ?_
      | refine LeO.bind ?_ (fun _ => ?_)
theorem priceofficeref05_Shift.mono : ∀ a0 a1 a2 k, LeO (priceofficeref05_Shift.f k a0 a1 a2) (priceofficeref05_Shift.f (k + 1) a0 a1 a2) := by
  intro a0 a1 a2 k
  obtain ⟨ih0, ih1, ih2, ih3, ih4, ih5⟩ := priceofficeref05_Shift.mono_l k
  unfold priceofficeref05_Shift.f
  repeat' first
      | (with_reducible exact ih0 _ _ _ _)
      | (with_reducible exact ih1 _ _ _ _)
      | (with_reducible exact ih2 _ _ _ _)
      | (with_reducible exact ih3 _ _ _ _ _)
      | (with_reducible exact ih4 _ _ _ _)
      | (with_reducible exact ih5 _ _ _ _ _)
      | (with_reducible exact priceofficeref05_Business.mono _ _ _)
      | (with_reducible exact LeO.refl _)
      | (with_reducible exact LeO.none _)
      | (with_reducible refine LeO.ite ?_ ?_)
      | (with_reducible refine LeO.bind ?_ (fun _ => ?_))
      | exact ih0 _ _ _ _
      | exact ih1 _ _ _ _
      | exact ih2 _ _ _ _
      | exact ih3 _ _ _ _ _
      | exact ih4 _ _ _ _
      | exact ih5 _ _ _ _ _
      | exact priceofficeref05_Business.mono _ _ _
      | exact LeO.none _
      | refine LeO.ite ?_ ?_
      | refine LeO.bind ?_ (fun _ => ?_)
set_option maxHeartbeats 8000000 in
set_option maxRecDepth 100000 in
theorem priceofficeref05_Shift.calls (k : Nat) (a0 : Int) (a1 : Int) (A2 : Option Addr) (c2 : Nat) (l2 : List Int) (r1 : Int) (r2 : Int) (w : World) (hr2 : Kd.C (Kd.int .i64) w A2 l2.length l2) (hc2 : l2.length ≤ c2) (h : priceofficeref05_Shift.f k a0 a1 l2 = some (r1, r2)) :
    Calls Tryd.prog 38 #[.int .i64 a0, .int .i64 a1, .slice A2 l2.length c2] w fun e w' => e = .returned (.tuple #[.int .i64 r1, .int .i64 r2]) ∧ Below w.heap.size w w' := by
  have HR2 := Aside0.mk hr2
  have HC2 := Aside0.mk hc2
  clear hr2 hc2
  have HB := Aside0.mk (Below.refl w.heap.size w)
  have H : (if a0 < 0 then (priceofficeref05_Shift.j0 k a0 a1 l2 true) else (priceofficeref05_Shift.j0 k a0 a1 l2 (decide (a0 ≥ 182621)))) = some (r1, r2) := h
  clear h
  have HC4 := Aside0.mk H
  clear H
  go_enter Tryd.func38, Tryd.ntmps38
  go_upto_region 1 with (fail)
  go_cut [15] (fun v15 wc => ∃ (kq : Nat) (x15_3 : Bool), v15 = .bool x15_3 ∧ Aside0 (priceofficeref05_Shift.j0 kq a0 a1 l2 x15_3 = some (r1, r2)) ∧ Aside0 (kq ≤ k) ∧ Aside0 (Below w.heap.size w wc))
  case first =>
    have H := HC4.out
    clear HC4
    by_cases c5 : a0 < 0
    · rw [if_pos c5] at H
      have c5b0 : decide (a0 < 0) = true := decide_eq_true c5
      clear c5
      (first | rw [c5b0] | (simp only [i64_w, i32_w]; rw [c5b0]) | skip)
      have H' := Aside0.mk H
      clear H
      go_wp2
      go_meet
      case rel => exact ⟨_, (true), (by first | rfl | (simp; done) | (simp [*]; done)), H', ⟨by first | omega | exact Nat.le_refl _⟩, ⟨by repeat (first | (with_reducible first | exact HB.out | apply below_alloc | apply pw_below_drewN | apply below_drew1) | exact HB.out)⟩⟩
    · rw [if_neg c5] at H
      have c5b0 : decide (a0 < 0) = false := decide_eq_false c5
      clear c5
      (first | rw [c5b0] | (simp only [i64_w, i32_w]; rw [c5b0]) | skip)
      have H' := Aside0.mk H
      clear H
      go_wp2
      go_meet
      case rel => exact ⟨_, (decide (a0 ≥ 182621)), (by first | rfl | (simp; done) | (simp [*]; done)), H', ⟨by first | omega | exact Nat.le_refl _⟩, ⟨by repeat (first | (with_reducible first | exact HB.out | apply below_alloc | apply pw_below_drewN | apply below_drew1) | exact HB.out)⟩⟩
  case rest =>
    clear HC4
    try clear c2
    try clear p2
    try clear c3
    try clear c5
    try clear c5b0
    obtain ⟨kq, x15_3, rfl, HA, HJ3, HB⟩ := hcut
    cases kq with
    | zero => exact absurd HA.out (by simp [priceofficeref05_Shift.j0])
    | succ kj3 =>
      have H := HA.out
      clear HA
      simp only [priceofficeref05_Shift.j0] at H
      by_cases c6 : x15_3 = true
      · subst c6
        have H1 : (some (0, 50)) = some (r1, r2) := by rw [if_pos rfl] at H; exact H
        clear H
        have H := H1
        clear H1
        simp only [Option.some.injEq, Prod.mk.injEq] at H
        obtain ⟨rfl, rfl⟩ := H
        go_wp2
        go_ret2
        exact ⟨by first | rfl | (simp [errW_none, errW_some] <;> rfl) | (simp [*, errW_none, errW_some] <;> rfl), by repeat (first | (with_reducible first | exact HB.out | apply below_alloc | apply pw_below_drewN | apply below_drew1) | exact HB.out)⟩
      · replace c6 := Bool.eq_false_iff.mpr c6
        subst c6
        have H1 : (if a1 > 1000 then (priceofficeref05_Shift.j1 kj3 a0 a1 l2 true) else (priceofficeref05_Shift.j1 kj3 a0 a1 l2 (decide (a1 < (-1000))))) = some (r1, r2) := by rw [if_neg (show ¬ (false = true) by decide)] at H; exact H
        clear H
        have H := H1
        clear H1
        have HC7 := Aside0.mk H
        clear H
        go_upto_region 3 with (fail)
        go_cut [21] (fun v21 wc => ∃ (kq : Nat) (x21_6 : Bool), v21 = .bool x21_6 ∧ Aside0 (priceofficeref05_Shift.j1 kq a0 a1 l2 x21_6 = some (r1, r2)) ∧ Aside0 (kq ≤ kj3) ∧ Aside0 (Below w.heap.size w wc))
        case first =>
          have H := HC7.out
          clear HC7
          by_cases c8 : a1 > 1000
          · rw [if_pos c8] at H
            have c8b0 : decide (1000 < a1) = true := decide_eq_true c8
            clear c8
            (first | rw [c8b0] | (simp only [i64_w, i32_w]; rw [c8b0]) | skip)
            have H' := Aside0.mk H
            clear H
            go_wp2
            go_meet
            case rel => exact ⟨_, (true), (by first | rfl | (simp; done) | (simp [*]; done)), H', ⟨by have := HJ3.out; first | omega | exact Nat.le_refl _⟩, ⟨by repeat (first | (with_reducible first | exact HB.out | apply below_alloc | apply pw_below_drewN | apply below_drew1) | exact HB.out)⟩⟩
          · rw [if_neg c8] at H
            have c8b0 : decide (1000 < a1) = false := decide_eq_false c8
            clear c8
            (first | rw [c8b0] | (simp only [i64_w, i32_w]; rw [c8b0]) | skip)
            have H' := Aside0.mk H
            clear H
            go_wp2
            go_meet
            case rel => exact ⟨_, (decide (a1 < (-1000))), (by first | rfl | (simp; done) | (simp [*]; done)), H', ⟨by have := HJ3.out; first | omega | exact Nat.le_refl _⟩, ⟨by repeat (first | (with_reducible first | exact HB.out | apply below_alloc | apply pw_below_drewN | apply below_drew1) | exact HB.out)⟩⟩
        case rest =>
          clear HC7
          try clear c2
          try clear p2
          try clear c3
          try clear c5
          try clear c5b0
          try clear c6
          try clear c8
          try clear c8b0
          try clear p2
          obtain ⟨kq, x21_6, rfl, HA, HJ6, HB⟩ := hcut
          cases kq with
          | zero => exact absurd HA.out (by simp [priceofficeref05_Shift.j1])
          | succ kj6 =>
            have H := HA.out
            clear HA
            simp only [priceofficeref05_Shift.j1] at H
            by_cases c9 : x21_6 = true
            · subst c9
              have H1 : (some (0, 51)) = some (r1, r2) := by rw [if_pos rfl] at H; exact H
              clear H
              have H := H1
              clear H1
              simp only [Option.some.injEq, Prod.mk.injEq] at H
              obtain ⟨rfl, rfl⟩ := H
              go_wp2
              go_ret2
              exact ⟨by first | rfl | (simp [errW_none, errW_some] <;> rfl) | (simp [*, errW_none, errW_some] <;> rfl), by repeat (first | (with_reducible first | exact HB.out | apply below_alloc | apply pw_below_drewN | apply below_drew1) | exact HB.out)⟩
            · replace c9 := Bool.eq_false_iff.mpr c9
              subst c9
              have H1 : (if (l2.length : Int) > 400 then (some (0, 52)) else (if a1 < 0 then (priceofficeref05_Shift.j2 kj6 a0 (wrap64 (-a1)) l2 (-1)) else (priceofficeref05_Shift.j2 kj6 a0 a1 l2 1))) = some (r1, r2) := by rw [if_neg (show ¬ (false = true) by decide)] at H; exact H
              clear H
              have H := H1
              clear H1
              by_cases c10 : (l2.length : Int) > 400
              · rw [if_pos c10] at H
                have c10b0 : decide (400 < (l2.length : Int)) = true := decide_eq_true c10
                have c10b1 : decide (400 < l2.length) = true := decide_eq_true (by omega)
                clear c10
                simp only [Option.some.injEq, Prod.mk.injEq] at H
                obtain ⟨rfl, rfl⟩ := H
                go_wp2
                go_ret2
                exact ⟨by first | rfl | (simp [errW_none, errW_some] <;> rfl) | (simp [*, errW_none, errW_some] <;> rfl), by repeat (first | (with_reducible first | exact HB.out | apply below_alloc | apply pw_below_drewN | apply below_drew1) | exact HB.out)⟩
              · rw [if_neg c10] at H
                have c10b0 : decide (400 < (l2.length : Int)) = false := decide_eq_false c10
                have c10b1 : decide (400 < l2.length) = false := decide_eq_false (by omega)
                clear c10
                have HC11 := Aside0.mk H
                clear H
                go_upto_if 26 with (fail)
                go_cut [1, 8] (fun v1 v8 wc => ∃ (kq : Nat) (x1_10 : Int) (x8_10 : Int), v1 = .int .i64 x1_10 ∧ v8 = .int .i64 x8_10 ∧ Aside0 (priceofficeref05_Shift.j2 kq a0 x1_10 l2 x8_10 = some (r1, r2)) ∧ Aside0 (kq ≤ kj6) ∧ Aside0 (Below w.heap.size w wc))
                case first =>
                  have H := HC11.out
                  clear HC11
                  by_cases c12 : a1 < 0
                  · rw [if_pos c12] at H
                    have c12b0 : decide (a1 < 0) = true := decide_eq_true c12
                    clear c12
                    (first | rw [c12b0] | (simp only [i64_w, i32_w]; rw [c12b0]) | skip)
                    have H' := Aside0.mk H
                    clear H
                    go_wp2
                    go_meet
                    case rel => exact ⟨_, (wrap64 (-a1)), ((-1)), (by first | rfl | (simp; done) | (simp [*]; done)), (by first | rfl | (simp; done) | (simp [*]; done)), H', ⟨by have := HJ3.out; have := HJ6.out; first | omega | exact Nat.le_refl _⟩, ⟨by repeat (first | (with_reducible first | exact HB.out | apply below_alloc | apply pw_below_drewN | apply below_drew1) | exact HB.out)⟩⟩
                  · rw [if_neg c12] at H
                    have c12b0 : decide (a1 < 0) = false := decide_eq_false c12
                    clear c12
                    (first | rw [c12b0] | (simp only [i64_w, i32_w]; rw [c12b0]) | skip)
                    have H' := Aside0.mk H
                    clear H
                    go_wp2
                    go_meet
                    case rel => exact ⟨_, (a1), (1), (by first | rfl | (simp; done) | (simp [*]; done)), (by first | rfl | (simp; done) | (simp [*]; done)), H', ⟨by have := HJ3.out; have := HJ6.out; first | omega | exact Nat.le_refl _⟩, ⟨by repeat (first | (with_reducible first | exact HB.out | apply below_alloc | apply pw_below_drewN | apply below_drew1) | exact HB.out)⟩⟩
                case rest =>
                  clear HC11
                  try clear c1
                  try clear c2
                  try clear p2
                  try clear c3
                  try clear c5
                  try clear c5b0
                  try clear c6
                  try clear p6
                  try clear c8
                  try clear c8b0
                  try clear c9
                  try clear c10
                  try clear c10b0
                  try clear c10b1
                  try clear c12
                  try clear c12b0
                  try clear p2
                  obtain ⟨kq, x1_10, x8_10, rfl, rfl, HA, HJ10, HB⟩ := hcut
                  cases kq with
                  | zero => exact absurd HA.out (by simp [priceofficeref05_Shift.j2])
                  | succ kj10 =>
                    have H := HA.out
                    clear HA
                    simp only [priceofficeref05_Shift.j2] at H
                    have HC13 := Aside0.mk H
                    clear H
                    go_upto_region 10 with (fail)
                    go_cut [35] (fun v35 wc => ∃ (kq : Nat) (x35_12 : Bool), v35 = .bool x35_12 ∧ Aside0 (priceofficeref05_Shift.j3 kq a0 x1_10 l2 x8_10 x35_12 = some (r1, r2)) ∧ Aside0 (kq ≤ kj10) ∧ Aside0 (Below w.heap.size w wc))
                    case first =>
                      have H := HC13.out
                      clear HC13
                      by_cases c14 : x1_10 = 0
                      · rw [if_pos c14] at H
                        have c14b0 : (x1_10 == 0) = true := beq_iff_eq.mpr c14
                        have c14b1 : (x1_10 != 0) = false := bne_eq_false_iff_eq.mpr c14
                        clear c14
                        (first | rw [c14b0] | (simp only [i64_w, i32_w]; rw [c14b0]) | skip)
                        replace H := Option.bind_eq_some_iff.mp H
                        obtain ⟨t316, A150, H⟩ := H
                        replace H : (priceofficeref05_Shift.j3 kj10 a0 x1_10 l2 x8_10 t316) = some (r1, r2) := H
                        have A15 := Aside0.mk A150
                        clear A150
                        have H' := Aside0.mk H
                        clear H
                        go_wp2_with (first | (go_at_call 22; (with_reducible refine (priceofficeref05_Business.calls kj10 a0 _ _ l2 t316 _ ?side1 ?side2 A15.out).mono ?_); (case side1 => repeat (first | exact (Kd.C_below HR2.out HB.out) | (with_reducible refine Kd.C_alloc ?_ _) | (with_reducible refine Kd.C_drewN ?_ _) | (with_reducible refine Kd.C_drew ?_))); (case side2 => exact HC2.out); rintro e w' ⟨rfl, ⟨nd, rfl⟩⟩))
                        go_meet
                        case rel => exact ⟨_, (t316), (by first | rfl | (simp; done) | (simp [*]; done)), H', ⟨by have := HJ3.out; have := HJ6.out; have := HJ10.out; first | omega | exact Nat.le_refl _⟩, ⟨by repeat (first | (with_reducible first | exact HB.out | apply below_alloc | apply pw_below_drewN | apply below_drew1) | exact HB.out)⟩⟩
                      · rw [if_neg c14] at H
                        have c14b0 : (x1_10 == 0) = false := beq_eq_false_iff_ne.mpr c14
                        have c14b1 : (x1_10 != 0) = true := bne_iff_ne.mpr c14
                        (first | rw [c14b0] | (simp only [i64_w, i32_w]; rw [c14b0]) | skip)
                        have H' := Aside0.mk H
                        clear H
                        go_wp2
                        go_meet
                        case rel => exact ⟨_, (false), (by first | rfl | (simp; done) | (simp [*]; done)), H', ⟨by have := HJ3.out; have := HJ6.out; have := HJ10.out; first | omega | exact Nat.le_refl _⟩, ⟨by repeat (first | (with_reducible first | exact HB.out | apply below_alloc | apply pw_below_drewN | apply below_drew1) | exact HB.out)⟩⟩
                    case rest =>
                      clear HC13
                      try clear c1
                      try clear c2
                      try clear p2
                      try clear c3
                      try clear c5
                      try clear c5b0
                      try clear c6
                      try clear p6
                      try clear c8
                      try clear c8b0
                      try clear c9
                      try clear c10
                      try clear c10b0
                      try clear c10b1
                      try clear c12
                      try clear c12b0
                      try clear c14
                      try clear c14b0
                      try clear c14b1
                      try clear p2
                      try clear p6
                      obtain ⟨kq, x35_12, rfl, HA, HJ12, HB⟩ := hcut
                      cases kq with
                      | zero => exact absurd HA.out (by simp [priceofficeref05_Shift.j3])
                      | succ kj12 =>
                        have H := HA.out
                        clear HA
                        simp only [priceofficeref05_Shift.j3] at H
                        by_cases c16 : x35_12 = true
                        · subst c16
                          have H1 : (some (a0, 0)) = some (r1, r2) := by rw [if_pos rfl] at H; exact H
                          clear H
                          have H := H1
                          clear H1
                          simp only [Option.some.injEq, Prod.mk.injEq] at H
                          obtain ⟨rfl, rfl⟩ := H
                          go_wp2
                          go_ret2
                          exact ⟨by first | rfl | (simp [errW_none, errW_some] <;> rfl) | (simp [*, errW_none, errW_some] <;> rfl), by repeat (first | (with_reducible first | exact HB.out | apply below_alloc | apply pw_below_drewN | apply below_drew1) | exact HB.out)⟩
                        · replace c16 := Bool.eq_false_iff.mpr c16
                          subst c16
                          have H1 : (priceofficeref05_Shift.l0 kj12 (mx x1_10 1) l2 x8_10 (wrap64 (a0 + x8_10))) = some (r1, r2) := by rw [if_neg (show ¬ (false = true) by decide)] at H; exact H
                          clear H
                          have H := H1
                          clear H1
                          obtain ⟨ji17, hji17⟩ : ∃ j_ : Int, (mx x1_10 1) = j_ := ⟨_, rfl⟩
                          replace H : (priceofficeref05_Shift.l0 kj12 ji17 l2 x8_10 (wrap64 (a0 + x8_10))) = some (r1, r2) := by first | (rw [hji17] at H; exact H) | (simp only [hji17] at H ⊢; exact H)
                          have hji17_ : (if x1_10 < 1 then 1 else x1_10) = ji17 := hji17
                          have H' := Aside0.mk H
                          clear H
                          go_wp2
                          go_loopg [1, 9] kj12 (fun kq v1 v9 w' => ∃ (x1_5 : Int) (x9_5 : Int), v1 = .int .i64 x1_5 ∧ v9 = .int .i64 x9_5 ∧ Aside0 (priceofficeref05_Shift.l0 kq x1_5 l2 x8_10 x9_5 = some (r1, r2)) ∧ Aside0 (kq ≤ kj12) ∧ Aside0 (Below w.heap.size w w'))
                          case atStart => exact ⟨(ji17), (wrap64 (a0 + x8_10)), (by first | rfl | (simp; done) | (simp only [← hji17] <;> (first | rfl | simp)) | (simp [*]; done)), (by first | rfl | (simp; done) | (simp [*]; done)), H', ⟨Nat.le_refl _⟩, ⟨by repeat (first | (with_reducible first | exact HB.out | apply below_alloc | apply pw_below_drewN | apply below_drew1) | exact HB.out)⟩⟩
                          case round =>
                            clear H'
                            try clear c1
                            try clear c2
                            try clear p2
                            try clear c3
                            try clear c5
                            try clear c5b0
                            try clear c6
                            try clear p6
                            try clear c8
                            try clear c8b0
                            try clear c9
                            try clear c10
                            try clear c10b0
                            try clear c10b1
                            try clear c12
                            try clear c12b0
                            try clear c14
                            try clear c14b0
                            try clear c14b1
                            try clear c16
                            try clear p2
                            try clear p6
                            obtain ⟨x1_5, x9_5, rfl, rfl, HA, HK5, HB⟩ := hrel
                            cases gk with
                            | zero => exact absurd HA.out (by simp [priceofficeref05_Shift.l0])
                            | succ k5 =>
                              have H := HA.out
                              clear HA
                              simp only [priceofficeref05_Shift.l0] at H
                              have HC18 := Aside0.mk H
                              clear H
                              go_upto_region 14 with (fail)
                              go_cut [47] (fun v47 wc => ∃ (kq : Nat) (x47_17 : Bool), v47 = .bool x47_17 ∧ Aside0 (priceofficeref05_Shift.j5 kq x1_5 l2 x8_10 x9_5 x47_17 = some (r1, r2)) ∧ Aside0 (kq ≤ k5) ∧ Aside0 (Below w.heap.size w wc))
                              case first =>
                                have H := HC18.out
                                clear HC18
                                by_cases c19 : x9_5 ≥ 0
                                · rw [if_pos c19] at H
                                  have c19b0 : decide (0 ≤ x9_5) = true := decide_eq_true c19
                                  clear c19
                                  (first | rw [c19b0] | (simp only [i64_w, i32_w]; rw [c19b0]) | skip)
                                  have H' := Aside0.mk H
                                  clear H
                                  go_wp2
                                  go_meet
                                  case rel => exact ⟨_, (decide (x9_5 < 182621)), (by first | rfl | (simp; done) | (simp [*]; done)), H', ⟨by have := HJ3.out; have := HJ6.out; have := HJ10.out; have := HJ12.out; have := HK5.out; first | omega | exact Nat.le_refl _⟩, ⟨by repeat (first | (with_reducible first | exact HB.out | apply below_alloc | apply pw_below_drewN | apply below_drew1) | exact HB.out)⟩⟩
                                · rw [if_neg c19] at H
                                  have c19b0 : decide (0 ≤ x9_5) = false := decide_eq_false c19
                                  clear c19
                                  (first | rw [c19b0] | (simp only [i64_w, i32_w]; rw [c19b0]) | skip)
                                  have H' := Aside0.mk H
                                  clear H
                                  go_wp2
                                  go_meet
                                  case rel => exact ⟨_, (false), (by first | rfl | (simp; done) | (simp [*]; done)), H', ⟨by have := HJ3.out; have := HJ6.out; have := HJ10.out; have := HJ12.out; have := HK5.out; first | omega | exact Nat.le_refl _⟩, ⟨by repeat (first | (with_reducible first | exact HB.out | apply below_alloc | apply pw_below_drewN | apply below_drew1) | exact HB.out)⟩⟩
                              case rest =>
                                clear HC18
                                try clear c1
                                try clear c2
                                try clear p2
                                try clear c3
                                try clear c5
                                try clear c5b0
                                try clear c6
                                try clear p6
                                try clear c8
                                try clear c8b0
                                try clear c9
                                try clear c10
                                try clear c10b0
                                try clear c10b1
                                try clear c12
                                try clear c12b0
                                try clear c14
                                try clear c14b0
                                try clear c14b1
                                try clear c16
                                try clear c19
                                try clear c19b0
                                try clear p2
                                try clear p6
                                obtain ⟨kq, x47_17, rfl, HA, HJ17, HB⟩ := hcut
                                cases kq with
                                | zero => exact absurd HA.out (by simp [priceofficeref05_Shift.j5])
                                | succ kj17 =>
                                  have H := HA.out
                                  clear HA
                                  simp only [priceofficeref05_Shift.j5] at H
                                  by_cases c20 : x47_17 = true
                                  · subst c20
                                    have H1 : ((priceofficeref05_Business.f kj17 x9_5 l2).bind fun t317 => (if t317 = true then (if (wrap64 (x1_5 - 1)) = 0 then (some (x9_5, 0)) else (priceofficeref05_Shift.l0 kj17 (wrap64 (x1_5 - 1)) l2 x8_10 (wrap64 (x9_5 + x8_10)))) else (priceofficeref05_Shift.l0 kj17 x1_5 l2 x8_10 (wrap64 (x9_5 + x8_10))))) = some (r1, r2) := by rw [if_pos rfl] at H; exact H
                                    clear H
                                    have H := H1
                                    clear H1
                                    replace H := Option.bind_eq_some_iff.mp H
                                    obtain ⟨t317, A210, H⟩ := H
                                    replace H : (if t317 = true then (if (wrap64 (x1_5 - 1)) = 0 then (some (x9_5, 0)) else (priceofficeref05_Shift.l0 kj17 (wrap64 (x1_5 - 1)) l2 x8_10 (wrap64 (x9_5 + x8_10)))) else (priceofficeref05_Shift.l0 kj17 x1_5 l2 x8_10 (wrap64 (x9_5 + x8_10)))) = some (r1, r2) := H
                                    have A21 := Aside0.mk A210
                                    clear A210
                                    by_cases c22 : t317 = true
                                    · subst c22
                                      have H1 : (if (wrap64 (x1_5 - 1)) = 0 then (some (x9_5, 0)) else (priceofficeref05_Shift.l0 kj17 (wrap64 (x1_5 - 1)) l2 x8_10 (wrap64 (x9_5 + x8_10)))) = some (r1, r2) := by rw [if_pos rfl] at H; exact H
                                      clear H
                                      have H := H1
                                      clear H1
                                      by_cases c23 : (wrap64 (x1_5 - 1)) = 0
                                      · rw [if_pos c23] at H
                                        have c23b0 : ((wrap64 (x1_5 - 1)) == 0) = true := beq_iff_eq.mpr c23
                                        have c23b1 : ((wrap64 (x1_5 - 1)) != 0) = false := bne_eq_false_iff_eq.mpr c23
                                        clear c23
                                        simp only [Option.some.injEq, Prod.mk.injEq] at H
                                        obtain ⟨rfl, rfl⟩ := H
                                        go_wp2_with (first | ((with_reducible refine gate_callee (f := 22) rfl ?_); refine goesL_ (some 53) rfl rfl Tryd.func22 (by kernel_rfl) rfl #[.int .i64 x9_5, .slice A2 l2.length c2] rfl (by (try simp only [List.map_toArray, List.map_cons, List.map_nil]); first | done | rfl | (simp only [List.length_drop, List.length_take]; rfl)) ?_; (with_reducible refine (priceofficeref05_Business.calls kj17 x9_5 _ _ l2 true _ ?side1 ?side2 A21.out).mono ?_); (case side1 => repeat (first | exact (Kd.C_below HR2.out HB.out) | (with_reducible refine Kd.C_alloc ?_ _) | (with_reducible refine Kd.C_drewN ?_ _) | (with_reducible refine Kd.C_drew ?_))); (case side2 => exact HC2.out); rintro e w' ⟨rfl, ⟨nd, rfl⟩⟩; refine ⟨_, rfl, ?_⟩))
                                        go_ret2
                                        exact ⟨by first | rfl | (simp [errW_none, errW_some] <;> rfl) | (simp only [← hji17]; first | rfl | (simp [errW_none, errW_some] <;> rfl)) | (simp [*, errW_none, errW_some] <;> rfl), by repeat (first | (with_reducible first | exact HB.out | apply below_alloc | apply pw_below_drewN | apply below_drew1) | exact HB.out)⟩
                                      · rw [if_neg c23] at H
                                        have c23b0 : ((wrap64 (x1_5 - 1)) == 0) = false := beq_eq_false_iff_ne.mpr c23
                                        have c23b1 : ((wrap64 (x1_5 - 1)) != 0) = true := bne_iff_ne.mpr c23
                                        have H' := Aside0.mk H
                                        clear H
                                        go_wp2_with (first | ((with_reducible refine gate_callee (f := 22) rfl ?_); refine goesL_ (some 53) rfl rfl Tryd.func22 (by kernel_rfl) rfl #[.int .i64 x9_5, .slice A2 l2.length c2] rfl (by (try simp only [List.map_toArray, List.map_cons, List.map_nil]); first | done | rfl | (simp only [List.length_drop, List.length_take]; rfl)) ?_; (with_reducible refine (priceofficeref05_Business.calls kj17 x9_5 _ _ l2 true _ ?side1 ?side2 A21.out).mono ?_); (case side1 => repeat (first | exact (Kd.C_below HR2.out HB.out) | (with_reducible refine Kd.C_alloc ?_ _) | (with_reducible refine Kd.C_drewN ?_ _) | (with_reducible refine Kd.C_drew ?_))); (case side2 => exact HC2.out); rintro e w' ⟨rfl, ⟨nd, rfl⟩⟩; refine ⟨_, rfl, ?_⟩))
                                        go_roundg kj17
                                        case measure => have := HJ3.out; have := HJ6.out; have := HJ10.out; have := HJ12.out; have := HK5.out; have := HJ17.out; omega
                                        case rel => exact ⟨(wrap64 (x1_5 - 1)), (wrap64 (x9_5 + x8_10)), (by first | rfl | (simp; done) | (simp [*]; done)), (by first | rfl | (simp; done) | (simp [*]; done)), H', ⟨by have := HJ3.out; have := HJ6.out; have := HJ10.out; have := HJ12.out; have := HK5.out; have := HJ17.out; omega⟩, ⟨by repeat (first | (with_reducible first | exact HB.out | apply below_alloc | apply pw_below_drewN | apply below_drew1) | exact HB.out)⟩⟩
                                    · replace c22 := Bool.eq_false_iff.mpr c22
                                      subst c22
                                      have H1 : (priceofficeref05_Shift.l0 kj17 x1_5 l2 x8_10 (wrap64 (x9_5 + x8_10))) = some (r1, r2) := by rw [if_neg (show ¬ (false = true) by decide)] at H; exact H
                                      clear H
                                      have H := H1
                                      clear H1
                                      have H' := Aside0.mk H
                                      clear H
                                      go_wp2_with (first | ((with_reducible refine gate_callee (f := 22) rfl ?_); refine goesL_ (some 53) rfl rfl Tryd.func22 (by kernel_rfl) rfl #[.int .i64 x9_5, .slice A2 l2.length c2] rfl (by (try simp only [List.map_toArray, List.map_cons, List.map_nil]); first | done | rfl | (simp only [List.length_drop, List.length_take]; rfl)) ?_; (with_reducible refine (priceofficeref05_Business.calls kj17 x9_5 _ _ l2 false _ ?side1 ?side2 A21.out).mono ?_); (case side1 => repeat (first | exact (Kd.C_below HR2.out HB.out) | (with_reducible refine Kd.C_alloc ?_ _) | (with_reducible refine Kd.C_drewN ?_ _) | (with_reducible refine Kd.C_drew ?_))); (case side2 => exact HC2.out); rintro e w' ⟨rfl, ⟨nd, rfl⟩⟩; refine ⟨_, rfl, ?_⟩))
                                      go_roundg kj17
                                      case measure => have := HJ3.out; have := HJ6.out; have := HJ10.out; have := HJ12.out; have := HK5.out; have := HJ17.out; omega
                                      case rel => exact ⟨(x1_5), (wrap64 (x9_5 + x8_10)), (by first | rfl | (simp; done) | (simp [*]; done)), (by first | rfl | (simp; done) | (simp [*]; done)), H', ⟨by have := HJ3.out; have := HJ6.out; have := HJ10.out; have := HJ12.out; have := HK5.out; have := HJ17.out; omega⟩, ⟨by repeat (first | (with_reducible first | exact HB.out | apply below_alloc | apply pw_below_drewN | apply below_drew1) | exact HB.out)⟩⟩
                                  · replace c20 := Bool.eq_false_iff.mpr c20
                                    subst c20
                                    have H1 : (some (0, 53)) = some (r1, r2) := by rw [if_neg (show ¬ (false = true) by decide)] at H; exact H
                                    clear H
                                    have H := H1
                                    clear H1
                                    simp only [Option.some.injEq, Prod.mk.injEq] at H
                                    obtain ⟨rfl, rfl⟩ := H
                                    go_wp2
                                    go_ret2
                                    exact ⟨by first | rfl | (simp [errW_none, errW_some] <;> rfl) | (simp only [← hji17]; first | rfl | (simp [errW_none, errW_some] <;> rfl)) | (simp [*, errW_none, errW_some] <;> rfl), by repeat (first | (with_reducible first | exact HB.out | apply below_alloc | apply pw_below_drewN | apply below_drew1) | exact HB.out)⟩

end Go.Proofs.YtpbkdbicdimfhaaDoor.P
