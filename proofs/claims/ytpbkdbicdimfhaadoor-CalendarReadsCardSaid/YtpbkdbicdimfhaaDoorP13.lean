/- Lean functions with the same answers as the program's Go functions, and for each the proof that the call comes to these answers; written by a program of mine out of the translation, the functions marked 'by hand' by me. -/
import Derived.Test.YtpbkdbicdimfhaaDoorP0
import Derived.Test.YtpbkdbicdimfhaaDoorP2
import Derived.Test.YtpbkdbicdimfhaaDoorP4
import Derived.Test.YtpbkdbicdimfhaaDoorP6
namespace Go.Proofs.YtpbkdbicdimfhaaDoor.P
open Go.RowKit Go.Proofs.YtpbkdbicdimfhaaDoorW.PrintWords Go.Proofs.YtpbkdbicdimfhaaDoorW.PrintLast Go.Proofs.YtpbkdbicdimfhaaDoorW.PrintMore
attribute [local go_sem] max2_int min2_int max_two min_two max_three min_three max_four min_four   -- for this text's walks alone
set_option linter.unusedVariables false
set_option linter.unusedSimpArgs false

/-! ### priceofficeref05_Month: function 24 -/
def priceofficeref05_Month.f (a0 : Int) : Option (Int) := if a0 < 0 then (some 0) else (if a0 > 5999 then (some 0) else (some (wrap64 ((Int.tmod a0 12) + 1))))
set_option maxHeartbeats 8000000 in
set_option maxRecDepth 100000 in
theorem priceofficeref05_Month.calls (a0 : Int) (r : Int) (w : World) (h : priceofficeref05_Month.f a0 = some r) :
    Calls Tryd.prog 24 #[.int .i64 a0] w fun e w' => e = .returned (.int .i64 r) ∧ Drawn0 w w' := by
  have H : (if a0 < 0 then (some 0) else (if a0 > 5999 then (some 0) else (some (wrap64 ((Int.tmod a0 12) + 1))))) = some r := h
  clear h
  by_cases c2 : a0 < 0
  · rw [if_pos c2] at H
    have c2b0 : decide (a0 < 0) = true := decide_eq_true c2
    clear c2
    obtain rfl := Option.some.inj H
    go_enter Tryd.func24, Tryd.ntmps24
    go_wp2
    go_ret
    exact ⟨by first | rfl | (simp; done) | (simp [*]; done), by repeat (first | exact Drawn0.refl _ | apply Drawn0.step)⟩
  · rw [if_neg c2] at H
    have c2b0 : decide (a0 < 0) = false := decide_eq_false c2
    clear c2
    by_cases c3 : a0 > 5999
    · rw [if_pos c3] at H
      have c3b0 : decide (5999 < a0) = true := decide_eq_true c3
      clear c3
      obtain rfl := Option.some.inj H
      go_enter Tryd.func24, Tryd.ntmps24
      go_wp2
      go_ret
      exact ⟨by first | rfl | (simp; done) | (simp [*]; done), by repeat (first | exact Drawn0.refl _ | apply Drawn0.step)⟩
    · rw [if_neg c3] at H
      have c3b0 : decide (5999 < a0) = false := decide_eq_false c3
      clear c3
      obtain rfl := Option.some.inj H
      go_enter Tryd.func24, Tryd.ntmps24
      go_wp2
      go_ret
      exact ⟨by first | rfl | (simp; done) | (simp [*]; done), by repeat (first | exact Drawn0.refl _ | apply Drawn0.step)⟩

/-! ### calendar_FirstDay: function 25 -/
def calendar_FirstDay.f (k : Nat) (a0 : Int) : Option (Int) := (calendar_Month.f a0).bind fun t168 => ((calendar_Number.f k (wrap64 (1900 + (wrap64 (Int.tdiv (mx a0 (-1)) 12)))) t168 1).bind fun t169 => (some t169))
theorem calendar_FirstDay.mono : ∀ a0 k, LeO (calendar_FirstDay.f k a0) (calendar_FirstDay.f (k + 1) a0) := by
  intro a0 k
  unfold calendar_FirstDay.f
  repeat' first
      | (with_reducible exact calendar_Number.mono _ _ _ _)
      | (with_reducible exact LeO.refl _)
      | (with_reducible exact LeO.none _)
      | (with_reducible refine LeO.ite ?_ ?_)
      | (with_reducible refine LeO.bind ?_ (fun _ => ?_))
      | exact calendar_Number.mono _ _ _ _
      | exact LeO.none _
      | refine LeO.ite ?_ ?_
      | refine LeO.bind ?_ (fun _ => ?_)
set_option maxHeartbeats 8000000 in
set_option maxRecDepth 100000 in
theorem calendar_FirstDay.calls (k : Nat) (a0 : Int) (r : Int) (w : World) (h : calendar_FirstDay.f k a0 = some r) :
    Calls Tryd.prog 25 #[.int .i64 a0] w fun e w' => e = .returned (.int .i64 r) ∧ Below w.heap.size w w' := by
  have hu23 := Tryd.underlying23
  have HB := Aside0.mk (Below.refl w.heap.size w)
  have H : ((calendar_Month.f a0).bind fun t168 => ((calendar_Number.f k (wrap64 (1900 + (wrap64 (Int.tdiv (mx a0 (-1)) 12)))) t168 1).bind fun t169 => (some t169))) = some r := h
  clear h
  obtain ⟨ji2, hji2⟩ : ∃ j_ : Int, (mx a0 (-1)) = j_ := ⟨_, rfl⟩
  replace H : ((calendar_Month.f a0).bind fun t168 => ((calendar_Number.f k (wrap64 (1900 + (wrap64 (Int.tdiv (ji2) 12)))) t168 1).bind fun t169 => (some t169))) = some r := by first | (rw [hji2] at H; exact H) | (simp only [hji2] at H ⊢; exact H)
  have hji2_ : (if a0 < (-1) then (-1) else a0) = ji2 := hji2
  replace H := Option.bind_eq_some_iff.mp H
  obtain ⟨t168, A30, H⟩ := H
  replace H : ((calendar_Number.f k (wrap64 (1900 + (wrap64 (Int.tdiv (ji2) 12)))) t168 1).bind fun t169 => (some t169)) = some r := H
  have A3 := Aside0.mk A30
  clear A30
  replace H := Option.bind_eq_some_iff.mp H
  obtain ⟨t169, A40, H⟩ := H
  replace H : (some t169) = some r := H
  have A4 := Aside0.mk A40
  clear A40
  obtain rfl := Option.some.inj H
  go_enter Tryd.func25, Tryd.ntmps25
  go_wp2_with (first | ((with_reducible refine gate_callee (f := 23) rfl ?_); refine goesL_ (some 8) rfl rfl Tryd.func23 (by kernel_rfl) rfl #[.int .i64 a0] rfl (by (try simp only [List.map_toArray, List.map_cons, List.map_nil]); first | done | rfl | (simp only [List.length_drop, List.length_take]; rfl)) ?_; (with_reducible refine (calendar_Month.calls a0 t168 _ A3.out).mono ?_); rintro e w' ⟨rfl, ⟨nd, rfl⟩⟩; refine ⟨_, rfl, ?_⟩) | ((with_reducible refine gate_callee (f := 16) rfl ?_); refine goesL_ (some 10) rfl rfl Tryd.func16 (by kernel_rfl) rfl #[.agg #[.int .i64 (wrap64 (1900 + (wrap64 (Int.tdiv (ji2) 12)))), .int .i64 t168, .int .i64 1]] rfl (by (try simp only [List.map_toArray, List.map_cons, List.map_nil]); first | done | (simp only [hji2]; rfl) | rfl | (simp only [List.length_drop, List.length_take]; rfl)) ?_; (with_reducible refine (calendar_Number.calls k (wrap64 (1900 + (wrap64 (Int.tdiv (ji2) 12)))) t168 1 t169 _ A4.out).mono ?_); rintro e w5 ⟨rfl, hb⟩; refine ⟨_, rfl, ?_⟩; have n0_ := Aside0.mk (below_step (by repeat (first | (with_reducible first | exact HB.out | apply below_alloc | apply pw_below_drewN | apply below_drew1) | exact HB.out)) hb); clear HB; have HB := n0_; clear n0_; (try clear hb); (try clear hb2); (try clear hk); (try clear hi)))
  go_ret
  exact ⟨by first | rfl | (simp [errW_none, errW_some] <;> rfl) | (simp only [← hji2]; first | rfl | (simp [errW_none, errW_some] <;> rfl)) | (simp [*, errW_none, errW_some] <;> rfl), by repeat (first | (with_reducible first | exact HB.out | apply below_alloc | apply pw_below_drewN | apply below_drew1) | exact HB.out)⟩

/-! ### calendar_LastDay: function 27 -/
def calendar_LastDay.f (k : Nat) (a0 : Int) : Option (Int) := (calendar_month.f a0).bind fun t170 => (if t170 = true then ((calendar_FirstDay.f k a0).bind fun t171 => ((calendar_Month.f a0).bind fun t172 => ((calendar_length.f (wrap64 (1900 + (wrap64 (Int.tdiv a0 12)))) t172).bind fun t173 => (some (wrap64 ((wrap64 (t171 + t173)) - 1)))))) else (some (-1)))
theorem calendar_LastDay.mono : ∀ a0 k, LeO (calendar_LastDay.f k a0) (calendar_LastDay.f (k + 1) a0) := by
  intro a0 k
  unfold calendar_LastDay.f
  repeat' first
      | (with_reducible exact calendar_FirstDay.mono _ _)
      | (with_reducible exact LeO.refl _)
      | (with_reducible exact LeO.none _)
      | (with_reducible refine LeO.ite ?_ ?_)
      | (with_reducible refine LeO.bind ?_ (fun _ => ?_))
      | exact calendar_FirstDay.mono _ _
      | exact LeO.none _
      | refine LeO.ite ?_ ?_
      | refine LeO.bind ?_ (fun _ => ?_)
set_option maxHeartbeats 8000000 in
set_option maxRecDepth 100000 in
theorem calendar_LastDay.calls (k : Nat) (a0 : Int) (r : Int) (w : World) (h : calendar_LastDay.f k a0 = some r) :
    Calls Tryd.prog 27 #[.int .i64 a0] w fun e w' => e = .returned (.int .i64 r) ∧ Below w.heap.size w w' := by
  have HB := Aside0.mk (Below.refl w.heap.size w)
  have H : ((calendar_month.f a0).bind fun t170 => (if t170 = true then ((calendar_FirstDay.f k a0).bind fun t171 => ((calendar_Month.f a0).bind fun t172 => ((calendar_length.f (wrap64 (1900 + (wrap64 (Int.tdiv a0 12)))) t172).bind fun t173 => (some (wrap64 ((wrap64 (t171 + t173)) - 1)))))) else (some (-1)))) = some r := h
  clear h
  replace H := Option.bind_eq_some_iff.mp H
  obtain ⟨t170, A20, H⟩ := H
  replace H : (if t170 = true then ((calendar_FirstDay.f k a0).bind fun t171 => ((calendar_Month.f a0).bind fun t172 => ((calendar_length.f (wrap64 (1900 + (wrap64 (Int.tdiv a0 12)))) t172).bind fun t173 => (some (wrap64 ((wrap64 (t171 + t173)) - 1)))))) else (some (-1))) = some r := H
  have A2 := Aside0.mk A20
  clear A20
  by_cases c3 : t170 = true
  · subst c3
    have H1 : ((calendar_FirstDay.f k a0).bind fun t171 => ((calendar_Month.f a0).bind fun t172 => ((calendar_length.f (wrap64 (1900 + (wrap64 (Int.tdiv a0 12)))) t172).bind fun t173 => (some (wrap64 ((wrap64 (t171 + t173)) - 1)))))) = some r := by rw [if_pos rfl] at H; exact H
    clear H
    have H := H1
    clear H1
    replace H := Option.bind_eq_some_iff.mp H
    obtain ⟨t171, A40, H⟩ := H
    replace H : ((calendar_Month.f a0).bind fun t172 => ((calendar_length.f (wrap64 (1900 + (wrap64 (Int.tdiv a0 12)))) t172).bind fun t173 => (some (wrap64 ((wrap64 (t171 + t173)) - 1))))) = some r := H
    have A4 := Aside0.mk A40
    clear A40
    replace H := Option.bind_eq_some_iff.mp H
    obtain ⟨t172, A50, H⟩ := H
    replace H : ((calendar_length.f (wrap64 (1900 + (wrap64 (Int.tdiv a0 12)))) t172).bind fun t173 => (some (wrap64 ((wrap64 (t171 + t173)) - 1)))) = some r := H
    have A5 := Aside0.mk A50
    clear A50
    replace H := Option.bind_eq_some_iff.mp H
    obtain ⟨t173, A60, H⟩ := H
    replace H : (some (wrap64 ((wrap64 (t171 + t173)) - 1))) = some r := H
    have A6 := Aside0.mk A60
    clear A60
    obtain rfl := Option.some.inj H
    go_enter Tryd.func27, Tryd.ntmps27
    go_wp2_with (first | ((with_reducible refine gate_callee (f := 54) rfl ?_); refine goesL_ (some 4) rfl rfl Tryd.func54 (by kernel_rfl) rfl #[.int .i64 a0] rfl (by (try simp only [List.map_toArray, List.map_cons, List.map_nil]); first | done | rfl | (simp only [List.length_drop, List.length_take]; rfl)) ?_; (with_reducible refine (calendar_month.calls a0 true _ A2.out).mono ?_); rintro e w' ⟨rfl, ⟨nd, rfl⟩⟩; refine ⟨_, rfl, ?_⟩) | ((with_reducible refine gate_callee (f := 25) rfl ?_); refine goesL_ (some 7) rfl rfl Tryd.func25 (by kernel_rfl) rfl #[.int .i64 a0] rfl (by (try simp only [List.map_toArray, List.map_cons, List.map_nil]); first | done | rfl | (simp only [List.length_drop, List.length_take]; rfl)) ?_; (with_reducible refine (calendar_FirstDay.calls k a0 t171 _ A4.out).mono ?_); rintro e w7 ⟨rfl, hb⟩; refine ⟨_, rfl, ?_⟩; have n0_ := Aside0.mk (below_step (by repeat (first | (with_reducible first | exact HB.out | apply below_alloc | apply pw_below_drewN | apply below_drew1) | exact HB.out)) hb); clear HB; have HB := n0_; clear n0_; (try clear hb); (try clear hb2); (try clear hk); (try clear hi)) | ((with_reducible refine gate_callee (f := 23) rfl ?_); refine goesL_ (some 12) rfl rfl Tryd.func23 (by kernel_rfl) rfl #[.int .i64 a0] rfl (by (try simp only [List.map_toArray, List.map_cons, List.map_nil]); first | done | rfl | (simp only [List.length_drop, List.length_take]; rfl)) ?_; (with_reducible refine (calendar_Month.calls a0 t172 _ A5.out).mono ?_); rintro e w' ⟨rfl, ⟨nd, rfl⟩⟩; refine ⟨_, rfl, ?_⟩) | ((with_reducible refine gate_callee (f := 47) rfl ?_); refine goesL_ (some 13) rfl rfl Tryd.func47 (by kernel_rfl) rfl #[.int .i64 (wrap64 (1900 + (wrap64 (Int.tdiv a0 12)))), .int .i64 t172] rfl (by (try simp only [List.map_toArray, List.map_cons, List.map_nil]); first | done | rfl | (simp only [List.length_drop, List.length_take]; rfl)) ?_; (with_reducible refine (calendar_length.calls (wrap64 (1900 + (wrap64 (Int.tdiv a0 12)))) t172 t173 _ A6.out).mono ?_); rintro e w8 ⟨rfl, hb⟩; refine ⟨_, rfl, ?_⟩; have n0_ := Aside0.mk (below_step (by repeat (first | (with_reducible first | exact HB.out | apply below_alloc | apply pw_below_drewN | apply below_drew1) | exact HB.out)) hb); clear HB; have HB := n0_; clear n0_; (try clear hb); (try clear hb2); (try clear hk); (try clear hi)))
    go_ret
    exact ⟨by first | rfl | (simp [errW_none, errW_some] <;> rfl) | (simp [*, errW_none, errW_some] <;> rfl), by repeat (first | (with_reducible first | exact HB.out | apply below_alloc | apply pw_below_drewN | apply below_drew1) | exact HB.out)⟩
  · replace c3 := Bool.eq_false_iff.mpr c3
    subst c3
    have H1 : (some (-1)) = some r := by rw [if_neg (show ¬ (false = true) by decide)] at H; exact H
    clear H
    have H := H1
    clear H1
    obtain rfl := Option.some.inj H
    go_enter Tryd.func27, Tryd.ntmps27
    go_wp2_with (first | ((with_reducible refine gate_callee (f := 54) rfl ?_); refine goesL_ (some 4) rfl rfl Tryd.func54 (by kernel_rfl) rfl #[.int .i64 a0] rfl (by (try simp only [List.map_toArray, List.map_cons, List.map_nil]); first | done | rfl | (simp only [List.length_drop, List.length_take]; rfl)) ?_; (with_reducible refine (calendar_month.calls a0 false _ A2.out).mono ?_); rintro e w' ⟨rfl, ⟨nd, rfl⟩⟩; refine ⟨_, rfl, ?_⟩))
    go_ret
    exact ⟨by first | rfl | (simp [errW_none, errW_some] <;> rfl) | (simp [*, errW_none, errW_some] <;> rfl), by repeat (first | (with_reducible first | exact HB.out | apply below_alloc | apply pw_below_drewN | apply below_drew1) | exact HB.out)⟩

/-! ### priceofficeref05_LastDay: function 28 -/
def priceofficeref05_LastDay.j0 : Nat → Int → Bool → Option (Int)
  | 0, _, _ => none
  | k + 1, x0, x8 => if x8 = true then (some (-1)) else ((priceofficeref05_FirstDay.f k x0).bind fun t174 => ((priceofficeref05_length.f k (wrap64 (1900 + (wrap64 (Int.tdiv x0 12)))) (wrap64 ((Int.tmod x0 12) + 1))).bind fun t175 => (some (wrap64 ((wrap64 (t174 + t175)) - 1)))))
def priceofficeref05_LastDay.f (k : Nat) (a0 : Int) : Option (Int) := if a0 < 0 then (priceofficeref05_LastDay.j0 k a0 true) else (priceofficeref05_LastDay.j0 k a0 (decide (a0 > 5999)))
theorem priceofficeref05_LastDay.mono_l : ∀ k, (∀ y0 y1, LeO (priceofficeref05_LastDay.j0 k y0 y1) (priceofficeref05_LastDay.j0 (k + 1) y0 y1))
  | 0 => fun _ _ r h => by simp [priceofficeref05_LastDay.j0] at h
  | k + 1 => by
    have ih0 := priceofficeref05_LastDay.mono_l k
    · intro y0 y1
      unfold priceofficeref05_LastDay.j0
      repeat' first
      | (with_reducible exact ih0 _ _)
      | (with_reducible exact priceofficeref05_FirstDay.mono _ _)
      | (with_reducible exact priceofficeref05_length.mono _ _ _)
      | (with_reducible exact LeO.refl _)
      | (with_reducible exact LeO.none _)
      | (with_reducible refine LeO.ite ?_ ?_)
      | (with_reducible refine LeO.bind ?_ (fun _ => ?_))
      | exact ih0 _ _
      | exact priceofficeref05_FirstDay.mono _ _
      | exact priceofficeref05_length.mono _ _ _
      | exact LeO.none _
      | refine LeO.ite ?_ ?_
      | refine LeO.bind ?_ (fun _ => ?_)
theorem priceofficeref05_LastDay.mono : ∀ a0 k, LeO (priceofficeref05_LastDay.f k a0) (priceofficeref05_LastDay.f (k + 1) a0) := by
  intro a0 k
  have ih0 := priceofficeref05_LastDay.mono_l k
  unfold priceofficeref05_LastDay.f
  repeat' first
      | (with_reducible exact ih0 _ _)
      | (with_reducible exact priceofficeref05_FirstDay.mono _ _)
      | (with_reducible exact priceofficeref05_length.mono _ _ _)
      | (with_reducible exact LeO.refl _)
      | (with_reducible exact LeO.none _)
      | (with_reducible refine LeO.ite ?_ ?_)
      | (with_reducible refine LeO.bind ?_ (fun _ => ?_))
      | exact ih0 _ _
      | exact priceofficeref05_FirstDay.mono _ _
      | exact priceofficeref05_length.mono _ _ _
      | exact LeO.none _
      | refine LeO.ite ?_ ?_
      | refine LeO.bind ?_ (fun _ => ?_)
set_option maxHeartbeats 8000000 in
set_option maxRecDepth 100000 in
theorem priceofficeref05_LastDay.calls (k : Nat) (a0 : Int) (r : Int) (w : World) (h : priceofficeref05_LastDay.f k a0 = some r) :
    Calls Tryd.prog 28 #[.int .i64 a0] w fun e w' => e = .returned (.int .i64 r) ∧ Drawn0 w w' := by
  have H : (if a0 < 0 then (priceofficeref05_LastDay.j0 k a0 true) else (priceofficeref05_LastDay.j0 k a0 (decide (a0 > 5999)))) = some r := h
  clear h
  have HC2 := Aside0.mk H
  clear H
  go_enter Tryd.func28, Tryd.ntmps28
  go_upto_region 1 with (fail)
  go_cut [8] (fun v8 wc => ∃ (kq : Nat) (x8_1 : Bool), v8 = .bool x8_1 ∧ Aside0 (priceofficeref05_LastDay.j0 kq a0 x8_1 = some r) ∧ Aside0 (kq ≤ k) ∧ Drawn0 w wc)
  case first =>
    have H := HC2.out
    clear HC2
    by_cases c3 : a0 < 0
    · rw [if_pos c3] at H
      have c3b0 : decide (a0 < 0) = true := decide_eq_true c3
      clear c3
      (first | rw [c3b0] | (simp only [i64_w, i32_w]; rw [c3b0]) | skip)
      have H' := Aside0.mk H
      clear H
      go_wp2
      go_meet
      case rel => exact ⟨_, (true), (by first | rfl | (simp; done) | (simp [*]; done)), H', ⟨by first | omega | exact Nat.le_refl _⟩, by repeat (first | exact Drawn0.refl _ | apply Drawn0.step)⟩
    · rw [if_neg c3] at H
      have c3b0 : decide (a0 < 0) = false := decide_eq_false c3
      clear c3
      (first | rw [c3b0] | (simp only [i64_w, i32_w]; rw [c3b0]) | skip)
      have H' := Aside0.mk H
      clear H
      go_wp2
      go_meet
      case rel => exact ⟨_, (decide (a0 > 5999)), (by first | rfl | (simp; done) | (simp [*]; done)), H', ⟨by first | omega | exact Nat.le_refl _⟩, by repeat (first | exact Drawn0.refl _ | apply Drawn0.step)⟩
  case rest =>
    clear HC2
    try clear c2
    try clear p2
    try clear c3
    try clear c3b0
    obtain ⟨kq, x8_1, rfl, HA, HJ1, ⟨mc1, rfl⟩⟩ := hcut
    cases kq with
    | zero => exact absurd HA.out (by simp [priceofficeref05_LastDay.j0])
    | succ kj1 =>
      have H := HA.out
      clear HA
      simp only [priceofficeref05_LastDay.j0] at H
      by_cases c4 : x8_1 = true
      · subst c4
        have H1 : (some (-1)) = some r := by rw [if_pos rfl] at H; exact H
        clear H
        have H := H1
        clear H1
        obtain rfl := Option.some.inj H
        go_wp2
        go_ret
        exact ⟨by first | rfl | (simp; done) | (simp [*]; done), by repeat (first | exact Drawn0.refl _ | apply Drawn0.step)⟩
      · replace c4 := Bool.eq_false_iff.mpr c4
        subst c4
        have H1 : ((priceofficeref05_FirstDay.f kj1 a0).bind fun t174 => ((priceofficeref05_length.f kj1 (wrap64 (1900 + (wrap64 (Int.tdiv a0 12)))) (wrap64 ((Int.tmod a0 12) + 1))).bind fun t175 => (some (wrap64 ((wrap64 (t174 + t175)) - 1))))) = some r := by rw [if_neg (show ¬ (false = true) by decide)] at H; exact H
        clear H
        have H := H1
        clear H1
        replace H := Option.bind_eq_some_iff.mp H
        obtain ⟨t174, A50, H⟩ := H
        replace H : ((priceofficeref05_length.f kj1 (wrap64 (1900 + (wrap64 (Int.tdiv a0 12)))) (wrap64 ((Int.tmod a0 12) + 1))).bind fun t175 => (some (wrap64 ((wrap64 (t174 + t175)) - 1)))) = some r := H
        have A5 := Aside0.mk A50
        clear A50
        replace H := Option.bind_eq_some_iff.mp H
        obtain ⟨t175, A60, H⟩ := H
        replace H : (some (wrap64 ((wrap64 (t174 + t175)) - 1))) = some r := H
        have A6 := Aside0.mk A60
        clear A60
        obtain rfl := Option.some.inj H
        go_wp2_with (first | ((with_reducible refine gate_callee (f := 26) rfl ?_); refine goesL_ (some 10) rfl rfl Tryd.func26 (by kernel_rfl) rfl #[.int .i64 a0] rfl (by (try simp only [List.map_toArray, List.map_cons, List.map_nil]); first | done | rfl | (simp only [List.length_drop, List.length_take]; rfl)) ?_; (with_reducible refine (priceofficeref05_FirstDay.calls kj1 a0 t174 _ A5.out).mono ?_); rintro e w' ⟨rfl, ⟨nd, rfl⟩⟩; refine ⟨_, rfl, ?_⟩) | ((with_reducible refine gate_callee (f := 48) rfl ?_); refine goesL_ (some 17) rfl rfl Tryd.func48 (by kernel_rfl) rfl #[.int .i64 (wrap64 (1900 + (wrap64 (Int.tdiv a0 12)))), .int .i64 (wrap64 ((Int.tmod a0 12) + 1))] rfl (by (try simp only [List.map_toArray, List.map_cons, List.map_nil]); first | done | rfl | (simp only [List.length_drop, List.length_take]; rfl)) ?_; (with_reducible refine (priceofficeref05_length.calls kj1 (wrap64 (1900 + (wrap64 (Int.tdiv a0 12)))) (wrap64 ((Int.tmod a0 12) + 1)) t175 _ A6.out).mono ?_); rintro e w' ⟨rfl, ⟨nd, rfl⟩⟩; refine ⟨_, rfl, ?_⟩))
        go_ret
        exact ⟨by first | rfl | (simp; done) | (simp [*]; done), by repeat (first | exact Drawn0.refl _ | apply Drawn0.step)⟩

/-! ### calendar_December: function 29 -/
def calendar_December.f (a0 : Int) : Option (Int) := (calendar_month.f a0).bind fun t176 => (if t176 = true then (some (mx (wrap64 ((wrap64 ((wrap64 (Int.tdiv a0 12)) * 12)) - 1)) (-1))) else (some (-1)))
set_option maxHeartbeats 8000000 in
set_option maxRecDepth 100000 in
theorem calendar_December.calls (a0 : Int) (r : Int) (w : World) (h : calendar_December.f a0 = some r) :
    Calls Tryd.prog 29 #[.int .i64 a0] w fun e w' => e = .returned (.int .i64 r) ∧ Below w.heap.size w w' := by
  have HB := Aside0.mk (Below.refl w.heap.size w)
  have H : ((calendar_month.f a0).bind fun t176 => (if t176 = true then (some (mx (wrap64 ((wrap64 ((wrap64 (Int.tdiv a0 12)) * 12)) - 1)) (-1))) else (some (-1)))) = some r := h
  clear h
  replace H := Option.bind_eq_some_iff.mp H
  obtain ⟨t176, A20, H⟩ := H
  replace H : (if t176 = true then (some (mx (wrap64 ((wrap64 ((wrap64 (Int.tdiv a0 12)) * 12)) - 1)) (-1))) else (some (-1))) = some r := H
  have A2 := Aside0.mk A20
  clear A20
  by_cases c3 : t176 = true
  · subst c3
    have H1 : (some (mx (wrap64 ((wrap64 ((wrap64 (Int.tdiv a0 12)) * 12)) - 1)) (-1))) = some r := by rw [if_pos rfl] at H; exact H
    clear H
    have H := H1
    clear H1
    obtain ⟨ji4, hji4⟩ : ∃ j_ : Int, (mx (wrap64 ((wrap64 ((wrap64 (Int.tdiv a0 12)) * 12)) - 1)) (-1)) = j_ := ⟨_, rfl⟩
    replace H : (some ji4) = some r := by first | (rw [hji4] at H; exact H) | (simp only [hji4] at H ⊢; exact H)
    (try rw [hji4] at A2)
    have hji4_ : (if (wrap64 ((wrap64 ((wrap64 (Int.tdiv a0 12)) * 12)) - 1)) < (-1) then (-1) else (wrap64 ((wrap64 ((wrap64 (Int.tdiv a0 12)) * 12)) - 1))) = ji4 := hji4
    obtain rfl := Option.some.inj H
    go_enter Tryd.func29, Tryd.ntmps29
    go_wp2_with (first | ((with_reducible refine gate_callee (f := 54) rfl ?_); refine goesL_ (some 4) rfl rfl Tryd.func54 (by kernel_rfl) rfl #[.int .i64 a0] rfl (by (try simp only [List.map_toArray, List.map_cons, List.map_nil]); first | done | rfl | (simp only [List.length_drop, List.length_take]; rfl)) ?_; (with_reducible refine (calendar_month.calls a0 true _ A2.out).mono ?_); rintro e w' ⟨rfl, ⟨nd, rfl⟩⟩; refine ⟨_, rfl, ?_⟩))
    go_ret
    exact ⟨by first | rfl | (simp [errW_none, errW_some] <;> rfl) | (simp only [← hji4]; first | rfl | (simp [errW_none, errW_some] <;> rfl)) | (simp [*, errW_none, errW_some] <;> rfl), by repeat (first | (with_reducible first | exact HB.out | apply below_alloc | apply pw_below_drewN | apply below_drew1) | exact HB.out)⟩
  · replace c3 := Bool.eq_false_iff.mpr c3
    subst c3
    have H1 : (some (-1)) = some r := by rw [if_neg (show ¬ (false = true) by decide)] at H; exact H
    clear H
    have H := H1
    clear H1
    obtain rfl := Option.some.inj H
    go_enter Tryd.func29, Tryd.ntmps29
    go_wp2_with (first | ((with_reducible refine gate_callee (f := 54) rfl ?_); refine goesL_ (some 4) rfl rfl Tryd.func54 (by kernel_rfl) rfl #[.int .i64 a0] rfl (by (try simp only [List.map_toArray, List.map_cons, List.map_nil]); first | done | rfl | (simp only [List.length_drop, List.length_take]; rfl)) ?_; (with_reducible refine (calendar_month.calls a0 false _ A2.out).mono ?_); rintro e w' ⟨rfl, ⟨nd, rfl⟩⟩; refine ⟨_, rfl, ?_⟩))
    go_ret
    exact ⟨by first | rfl | (simp [errW_none, errW_some] <;> rfl) | (simp [*, errW_none, errW_some] <;> rfl), by repeat (first | (with_reducible first | exact HB.out | apply below_alloc | apply pw_below_drewN | apply below_drew1) | exact HB.out)⟩

/-! ### priceofficeref05_December: function 30 -/
def priceofficeref05_December.f (a0 : Int) : Option (Int) := if a0 < 12 then (some (-1)) else (if a0 > 5999 then (some (-1)) else (some (wrap64 ((wrap64 ((wrap64 (Int.tdiv a0 12)) * 12)) - 1))))
set_option maxHeartbeats 8000000 in
set_option maxRecDepth 100000 in
theorem priceofficeref05_December.calls (a0 : Int) (r : Int) (w : World) (h : priceofficeref05_December.f a0 = some r) :
    Calls Tryd.prog 30 #[.int .i64 a0] w fun e w' => e = .returned (.int .i64 r) ∧ Drawn0 w w' := by
  have H : (if a0 < 12 then (some (-1)) else (if a0 > 5999 then (some (-1)) else (some (wrap64 ((wrap64 ((wrap64 (Int.tdiv a0 12)) * 12)) - 1))))) = some r := h
  clear h
  by_cases c2 : a0 < 12
  · rw [if_pos c2] at H
    have c2b0 : decide (a0 < 12) = true := decide_eq_true c2
    clear c2
    obtain rfl := Option.some.inj H
    go_enter Tryd.func30, Tryd.ntmps30
    go_wp2
    go_ret
    exact ⟨by first | rfl | (simp; done) | (simp [*]; done), by repeat (first | exact Drawn0.refl _ | apply Drawn0.step)⟩
  · rw [if_neg c2] at H
    have c2b0 : decide (a0 < 12) = false := decide_eq_false c2
    clear c2
    by_cases c3 : a0 > 5999
    · rw [if_pos c3] at H
      have c3b0 : decide (5999 < a0) = true := decide_eq_true c3
      clear c3
      obtain rfl := Option.some.inj H
      go_enter Tryd.func30, Tryd.ntmps30
      go_wp2
      go_ret
      exact ⟨by first | rfl | (simp; done) | (simp [*]; done), by repeat (first | exact Drawn0.refl _ | apply Drawn0.step)⟩
    · rw [if_neg c3] at H
      have c3b0 : decide (5999 < a0) = false := decide_eq_false c3
      clear c3
      obtain rfl := Option.some.inj H
      go_enter Tryd.func30, Tryd.ntmps30
      go_wp2
      go_ret
      exact ⟨by first | rfl | (simp; done) | (simp [*]; done), by repeat (first | exact Drawn0.refl _ | apply Drawn0.step)⟩

end Go.Proofs.YtpbkdbicdimfhaaDoor.P
