/- Lean functions with the same answers as the program's Go functions, and for each the proof that the call comes to these answers; written by a program of mine out of the translation, the functions marked 'by hand' by me. -/
import Derived.Test.YtpnoliognpmkmaaDoorP0
import Derived.Test.YtpnoliognpmkmaaDoorP2
import Derived.Test.YtpnoliognpmkmaaDoorP3
import Derived.Test.YtpnoliognpmkmaaDoorP4
import Derived.Test.YtpnoliognpmkmaaDoorP5
import Derived.Test.YtpnoliognpmkmaaDoorP22
import Derived.Test.YtpnoliognpmkmaaDoorP23
namespace Go.Proofs.YtpnoliognpmkmaaDoor.P
open Go.RowKit Go.Proofs.YtpnoliognpmkmaaDoorW.PrintWords Go.Proofs.YtpnoliognpmkmaaDoorW.PrintLast Go.Proofs.YtpnoliognpmkmaaDoorW.PrintMore
attribute [local go_sem] max2_int min2_int max_two min_two max_three min_three max_four min_four   -- for this text's walks alone
set_option linter.unusedVariables false
set_option linter.unusedSimpArgs false

/-! ### priceofficelaw06_ClassificationMeets: function 12 -/
mutual
def priceofficelaw06_ClassificationMeets.j0 : Nat → ByteArray → ByteArray → ByteArray → ByteArray → Bool → Option (Bool)
  | 0, _, _, _, _, _ => none
  | k + 1, x4, x5, x6, x7, x27 => if x27 = true then ((classification_Within.f k x4 x7).bind fun t551 => (if t551 = true then ((classification_Within.f k x5 x7).bind fun t552 => (priceofficelaw06_ClassificationMeets.j1 k x4 x5 x6 x7 (!t552))) else (priceofficelaw06_ClassificationMeets.j1 k x4 x5 x6 x7 true))) else ((classification_Within.f k x4 x5).bind fun t560 => (if t560 = true then ((classification_Compare.f k x5 x4).bind fun t561 => (if t561 ≤ 0 then ((priceofficelaw06_awake.f k).bind fun t562 => (some t562)) else (some false))) else ((priceofficelaw06_awake.f k).bind fun t563 => (some t563))))
def priceofficelaw06_ClassificationMeets.j1 : Nat → ByteArray → ByteArray → ByteArray → ByteArray → Bool → Option (Bool)
  | 0, _, _, _, _, _ => none
  | k + 1, x4, x5, x6, x7, x37 => if x37 = true then (some false) else ((classification_Within.f k x4 x6).bind fun t553 => (if t553 = true then ((classification_Within.f k x5 x6).bind fun t554 => (if t554 = true then ((classification_Within.f k x7 x6).bind fun t555 => (priceofficelaw06_ClassificationMeets.j2 k x4 x5 (!t555))) else (priceofficelaw06_ClassificationMeets.j2 k x4 x5 false))) else (priceofficelaw06_ClassificationMeets.j2 k x4 x5 false)))
def priceofficelaw06_ClassificationMeets.j2 : Nat → ByteArray → ByteArray → Bool → Option (Bool)
  | 0, _, _, _ => none
  | k + 1, x4, x5, x51 => if x51 = true then (some false) else ((classification_Within.f k x4 x5).bind fun t556 => (if t556 = true then ((classification_Compare.f k x5 x4).bind fun t557 => (if t557 ≤ 0 then ((priceofficelaw06_awake.f k).bind fun t558 => (some t558)) else (some false))) else ((priceofficelaw06_awake.f k).bind fun t559 => (some t559))))
end
def priceofficelaw06_ClassificationMeets.f (k : Nat) (l0 : List Int) : Option (Bool) := (priceofficelaw06_code.f k l0 0).bind fun bt542 => ((priceofficelaw06_code.f k l0 bt542.2).bind fun bt544 => ((priceofficelaw06_code.f k l0 bt544.2).bind fun bt546 => ((classification_Common.f k bt542.1 bt544.1).bind fun t548 => ((classification_Level.f k bt542.1).bind fun t549 => (if t549 ≥ 0 then ((classification_Level.f k bt544.1).bind fun t550 => (priceofficelaw06_ClassificationMeets.j0 k bt542.1 bt544.1 bt546.1 t548 (decide (t550 ≥ 0)))) else (priceofficelaw06_ClassificationMeets.j0 k bt542.1 bt544.1 bt546.1 t548 false))))))
theorem priceofficelaw06_ClassificationMeets.mono_l : ∀ k, (∀ y0 y1 y2 y3 y4, LeO (priceofficelaw06_ClassificationMeets.j0 k y0 y1 y2 y3 y4) (priceofficelaw06_ClassificationMeets.j0 (k + 1) y0 y1 y2 y3 y4)) ∧ (∀ y0 y1 y2 y3 y4, LeO (priceofficelaw06_ClassificationMeets.j1 k y0 y1 y2 y3 y4) (priceofficelaw06_ClassificationMeets.j1 (k + 1) y0 y1 y2 y3 y4)) ∧ (∀ y0 y1 y2, LeO (priceofficelaw06_ClassificationMeets.j2 k y0 y1 y2) (priceofficelaw06_ClassificationMeets.j2 (k + 1) y0 y1 y2))
  | 0 => ⟨fun _ _ _ _ _ r h => by simp [priceofficelaw06_ClassificationMeets.j0] at h, fun _ _ _ _ _ r h => by simp [priceofficelaw06_ClassificationMeets.j1] at h, fun _ _ _ r h => by simp [priceofficelaw06_ClassificationMeets.j2] at h⟩
  | k + 1 => by
    obtain ⟨ih0, ih1, ih2⟩ := priceofficelaw06_ClassificationMeets.mono_l k
    refine ⟨?_, ?_, ?_⟩
    · intro y0 y1 y2 y3 y4
      unfold priceofficelaw06_ClassificationMeets.j0
      repeat' first
      | (with_reducible exact ih0 _ _ _ _ _)
      | (with_reducible exact ih1 _ _ _ _ _)
      | (with_reducible exact ih2 _ _ _)
      | (with_reducible exact classification_Common.mono _ _ _)
      | (with_reducible exact classification_Compare.mono _ _ _)
      | (with_reducible exact classification_Level.mono _ _)
      | (with_reducible exact classification_Within.mono _ _ _)
      | (with_reducible exact priceofficelaw06_awake.mono _)
      | (with_reducible exact priceofficelaw06_code.mono _ _ _)
      | (with_reducible exact LeO.refl _)
      | (with_reducible exact LeO.none _)
      | (with_reducible refine LeO.ite ?_ ?_)
      | (with_reducible refine LeO.bind ?_ (fun _ => ?_))
      | exact ih0 _ _ _ _ _
      | exact ih1 _ _ _ _ _
      | exact ih2 _ _ _
      | exact classification_Common.mono _ _ _
      | exact classification_Compare.mono _ _ _
      | exact classification_Level.mono _ _
      | exact classification_Within.mono _ _ _
      | exact priceofficelaw06_awake.mono _
      | exact priceofficelaw06_code.mono _ _ _
      | exact LeO.none _
      | refine LeO.ite ?_ ?_
      | refine LeO.bind ?_ (fun _ => ?_)
    · intro y0 y1 y2 y3 y4
      unfold priceofficelaw06_ClassificationMeets.j1
      repeat' first
      | (with_reducible exact ih0 _ _ _ _ _)
      | (with_reducible exact ih1 _ _ _ _ _)
      | (with_reducible exact ih2 _ _ _)
      | (with_reducible exact classification_Common.mono _ _ _)
      | (with_reducible exact classification_Compare.mono _ _ _)
      | (with_reducible exact classification_Level.mono _ _)
      | (with_reducible exact classification_Within.mono _ _ _)
      | (with_reducible exact priceofficelaw06_awake.mono _)
      | (with_reducible exact priceofficelaw06_code.mono _ _ _)
      | (with_reducible exact LeO.refl _)
      | (with_reducible exact LeO.none _)
      | (with_reducible refine LeO.ite ?_ ?_)
      | (with_reducible refine LeO.bind ?_ (fun _ => ?_))
      | exact ih0 _ _ _ _ _
      | exact ih1 _ _ _ _ _
      | exact ih2 _ _ _
      | exact classification_Common.mono _ _ _
      | exact classification_Compare.mono _ _ _
      | exact classification_Level.mono _ _
      | exact classification_Within.mono _ _ _
      | exact priceofficelaw06_awake.mono _
      | exact priceofficelaw06_code.mono _ _ _
      | exact LeO.none _
      | refine LeO.ite ?_ ?_
      | refine LeO.bind ?_ (fun _ => ?_)
    · intro y0 y1 y2
      unfold priceofficelaw06_ClassificationMeets.j2
      repeat' first
      | (with_reducible exact ih0 _ _ _ _ _)
      | (with_reducible exact ih1 _ _ _ _ _)
      | (with_reducible exact ih2 _ _ _)
      | (with_reducible exact classification_Common.mono _ _ _)
      | (with_reducible exact classification_Compare.mono _ _ _)
      | (with_reducible exact classification_Level.mono _ _)
      | (with_reducible exact classification_Within.mono _ _ _)
      | (with_reducible exact priceofficelaw06_awake.mono _)
      | (with_reducible exact priceofficelaw06_code.mono _ _ _)
      | (with_reducible exact LeO.refl _)
      | (with_reducible exact LeO.none _)
      | (with_reducible refine LeO.ite ?_ ?_)
      | (with_reducible refine LeO.bind ?_ (fun _ => ?_))
      | exact ih0 _ _ _ _ _
      | exact ih1 _ _ _ _ _
      | exact ih2 _ _ _
      | exact classification_Common.mono _ _ _
      | exact classification_Compare.mono _ _ _
      | exact classification_Level.mono _ _
      | exact classification_Within.mono _ _ _
      | exact priceofficelaw06_awake.mono _
      | exact priceofficelaw06_code.mono _ _ _
      | exact LeO.none _
      | refine LeO.ite ?_ ?_
      | refine LeO.bind ?_ (fun _ => ?_)
theorem priceofficelaw06_ClassificationMeets.mono : ∀ a0 k, LeO (priceofficelaw06_ClassificationMeets.f k a0) (priceofficelaw06_ClassificationMeets.f (k + 1) a0) := by
  intro a0 k
  obtain ⟨ih0, ih1, ih2⟩ := priceofficelaw06_ClassificationMeets.mono_l k
  unfold priceofficelaw06_ClassificationMeets.f
  repeat' first
      | (with_reducible exact ih0 _ _ _ _ _)
      | (with_reducible exact ih1 _ _ _ _ _)
      | (with_reducible exact ih2 _ _ _)
      | (with_reducible exact classification_Common.mono _ _ _)
      | (with_reducible exact classification_Compare.mono _ _ _)
      | (with_reducible exact classification_Level.mono _ _)
      | (with_reducible exact classification_Within.mono _ _ _)
      | (with_reducible exact priceofficelaw06_awake.mono _)
      | (with_reducible exact priceofficelaw06_code.mono _ _ _)
      | (with_reducible exact LeO.refl _)
      | (with_reducible exact LeO.none _)
      | (with_reducible refine LeO.ite ?_ ?_)
      | (with_reducible refine LeO.bind ?_ (fun _ => ?_))
      | exact ih0 _ _ _ _ _
      | exact ih1 _ _ _ _ _
      | exact ih2 _ _ _
      | exact classification_Common.mono _ _ _
      | exact classification_Compare.mono _ _ _
      | exact classification_Level.mono _ _
      | exact classification_Within.mono _ _ _
      | exact priceofficelaw06_awake.mono _
      | exact priceofficelaw06_code.mono _ _ _
      | exact LeO.none _
      | refine LeO.ite ?_ ?_
      | refine LeO.bind ?_ (fun _ => ?_)
set_option maxHeartbeats 8000000 in
set_option maxRecDepth 100000 in
theorem priceofficelaw06_ClassificationMeets.calls (k : Nat) (A0 : Option Addr) (c0 : Nat) (l0 : List Int) (r : Bool) (w : World) (hr0 : Kd.C (Kd.int .i64) w A0 l0.length l0) (hc0 : l0.length ≤ c0) (hG : GL w) (h : priceofficelaw06_ClassificationMeets.f k l0 = some r) :
    Calls Tryd.prog 12 #[.slice A0 l0.length c0] w fun e w' => e = .returned (.bool r) ∧ Below w.heap.size w w' := by
  have HG := Aside0.mk hG
  clear hG
  have hu25 := Tryd.underlying25
  have HR0 := Aside0.mk hr0
  have HC0 := Aside0.mk hc0
  clear hr0 hc0
  have HB := Aside0.mk (Below.refl w.heap.size w)
  have H : ((priceofficelaw06_code.f k l0 0).bind fun bt542 => ((priceofficelaw06_code.f k l0 bt542.2).bind fun bt544 => ((priceofficelaw06_code.f k l0 bt544.2).bind fun bt546 => ((classification_Common.f k bt542.1 bt544.1).bind fun t548 => ((classification_Level.f k bt542.1).bind fun t549 => (if t549 ≥ 0 then ((classification_Level.f k bt544.1).bind fun t550 => (priceofficelaw06_ClassificationMeets.j0 k bt542.1 bt544.1 bt546.1 t548 (decide (t550 ≥ 0)))) else (priceofficelaw06_ClassificationMeets.j0 k bt542.1 bt544.1 bt546.1 t548 false))))))) = some r := h
  clear h
  replace H := Option.bind_eq_some_iff.mp H
  obtain ⟨⟨t542, t543⟩, A20, H⟩ := H
  replace H : ((priceofficelaw06_code.f k l0 t543).bind fun bt544 => ((priceofficelaw06_code.f k l0 bt544.2).bind fun bt546 => ((classification_Common.f k t542 bt544.1).bind fun t548 => ((classification_Level.f k t542).bind fun t549 => (if t549 ≥ 0 then ((classification_Level.f k bt544.1).bind fun t550 => (priceofficelaw06_ClassificationMeets.j0 k t542 bt544.1 bt546.1 t548 (decide (t550 ≥ 0)))) else (priceofficelaw06_ClassificationMeets.j0 k t542 bt544.1 bt546.1 t548 false)))))) = some r := H
  have A2 := Aside0.mk A20
  clear A20
  replace H := Option.bind_eq_some_iff.mp H
  obtain ⟨⟨t544, t545⟩, A30, H⟩ := H
  replace H : ((priceofficelaw06_code.f k l0 t545).bind fun bt546 => ((classification_Common.f k t542 t544).bind fun t548 => ((classification_Level.f k t542).bind fun t549 => (if t549 ≥ 0 then ((classification_Level.f k t544).bind fun t550 => (priceofficelaw06_ClassificationMeets.j0 k t542 t544 bt546.1 t548 (decide (t550 ≥ 0)))) else (priceofficelaw06_ClassificationMeets.j0 k t542 t544 bt546.1 t548 false))))) = some r := H
  have A3 := Aside0.mk A30
  clear A30
  replace H := Option.bind_eq_some_iff.mp H
  obtain ⟨⟨t546, t547⟩, A40, H⟩ := H
  replace H : ((classification_Common.f k t542 t544).bind fun t548 => ((classification_Level.f k t542).bind fun t549 => (if t549 ≥ 0 then ((classification_Level.f k t544).bind fun t550 => (priceofficelaw06_ClassificationMeets.j0 k t542 t544 t546 t548 (decide (t550 ≥ 0)))) else (priceofficelaw06_ClassificationMeets.j0 k t542 t544 t546 t548 false)))) = some r := H
  have A4 := Aside0.mk A40
  clear A40
  replace H := Option.bind_eq_some_iff.mp H
  obtain ⟨t548, A50, H⟩ := H
  replace H : ((classification_Level.f k t542).bind fun t549 => (if t549 ≥ 0 then ((classification_Level.f k t544).bind fun t550 => (priceofficelaw06_ClassificationMeets.j0 k t542 t544 t546 t548 (decide (t550 ≥ 0)))) else (priceofficelaw06_ClassificationMeets.j0 k t542 t544 t546 t548 false))) = some r := H
  have A5 := Aside0.mk A50
  clear A50
  have HC6 := Aside0.mk H
  clear H
  go_enter Tryd.func12, Tryd.ntmps12
  go_upto_region 4 with (first | ((with_reducible refine gate_dst (N := 10) rfl ?_); refine box_event ?hg (N := 10) ?hd (cs := #[.slice A0 l0.length c0, .int .i64 0]) (t := 25) ?hr ?_; (case hd => rfl); (case hg => rfl); (case hr => first | (go_simp; done) | (go_simp; rfl)); intro gb541 hg w7 hbox hb; have n0_ := Aside0.mk (below_step (by repeat (first | (with_reducible first | exact HB.out | apply below_alloc | apply pw_below_drewN | apply below_drew1) | exact HB.out)) hb); have n1_ := Aside0.mk (hbox); have n2_ := Aside0.mk ((by rw [hg]; exact (below_size (by repeat (first | (with_reducible first | exact HB.out | apply below_alloc | apply pw_below_drewN | apply below_drew1) | exact HB.out))) : w.heap.size ≤ gb541)); have n3_ := Aside0.mk ((by rw [hg]; exact (below_size (by repeat (first | (with_reducible first | exact HB.out | apply below_alloc | apply pw_below_drewN | apply below_drew1) | exact HB.out))) : w.heap.size ≤ gb541)); have n4_ := Aside0.mk ((show IsS25 w w7 gb541 l0 0 from ⟨_, _, hbox, (by rw [hg]; exact (below_size (by repeat (first | (with_reducible first | exact HB.out | apply below_alloc | apply pw_below_drewN | apply below_drew1) | exact HB.out))) : w.heap.size ≤ gb541), HR0.out⟩)); clear HB; have HB := n0_; have BK541 := n1_; have GW541 := n2_; have GE541 := n3_; have HI541 := n4_; clear n0_ n1_ n2_ n3_ n4_; clear hb hbox hg) | ((with_reducible refine gate_callee (f := 24) rfl ?_); refine goesL_ (some 12) rfl rfl Tryd.func24 (by kernel_rfl) rfl #[.pointer (some ⟨gb541, 0, none⟩)] rfl (by (try simp only [List.map_toArray, List.map_cons, List.map_nil]); first | done | rfl | (simp only [List.length_drop, List.length_take]; rfl)) ?_; (with_reducible refine (priceofficelaw06_code.calls k gb541 l0 0 t542 t543 w _ ?side1 ?side2 A2.out).mono ?_); (case side1 => repeat (first | (with_reducible first | exact HI541.out | apply IsS25.alloc | apply IsS25.drewN | apply IsS25.drew | apply IsS25.set_1) | exact HI541.out)); (case side2 => repeat (first | (with_reducible first | exact HB.out | apply below_alloc | apply pw_below_drewN | apply below_drew1 | refine below_set ?_ (IsS25.ge HI541.out)) | exact HB.out)); rintro e w8 ⟨rfl, hi, hb, hk⟩; refine ⟨_, rfl, ?_⟩; have n0_ := Aside0.mk (hb); have n1_ := Aside0.mk (hi); clear HB; clear HI541; have HB := n0_; have HI541 := n1_; clear n0_ n1_; (try clear hb); (try clear hb2); (try clear hk); (try clear hi)) | ((with_reducible refine gate_callee (f := 24) rfl ?_); refine goesL_ (some 14) rfl rfl Tryd.func24 (by kernel_rfl) rfl #[.pointer (some ⟨gb541, 0, none⟩)] rfl (by (try simp only [List.map_toArray, List.map_cons, List.map_nil]); first | done | rfl | (simp only [List.length_drop, List.length_take]; rfl)) ?_; (with_reducible refine (priceofficelaw06_code.calls k gb541 l0 t543 t544 t545 w _ ?side1 ?side2 A3.out).mono ?_); (case side1 => repeat (first | (with_reducible first | exact HI541.out | apply IsS25.alloc | apply IsS25.drewN | apply IsS25.drew | apply IsS25.set_1) | exact HI541.out)); (case side2 => repeat (first | (with_reducible first | exact HB.out | apply below_alloc | apply pw_below_drewN | apply below_drew1 | refine below_set ?_ (IsS25.ge HI541.out)) | exact HB.out)); rintro e w9 ⟨rfl, hi, hb, hk⟩; refine ⟨_, rfl, ?_⟩; have n0_ := Aside0.mk (hb); have n1_ := Aside0.mk (hi); clear HB; clear HI541; have HB := n0_; have HI541 := n1_; clear n0_ n1_; (try clear hb); (try clear hb2); (try clear hk); (try clear hi)) | ((with_reducible refine gate_callee (f := 24) rfl ?_); refine goesL_ (some 16) rfl rfl Tryd.func24 (by kernel_rfl) rfl #[.pointer (some ⟨gb541, 0, none⟩)] rfl (by (try simp only [List.map_toArray, List.map_cons, List.map_nil]); first | done | rfl | (simp only [List.length_drop, List.length_take]; rfl)) ?_; (with_reducible refine (priceofficelaw06_code.calls k gb541 l0 t545 t546 t547 w _ ?side1 ?side2 A4.out).mono ?_); (case side1 => repeat (first | (with_reducible first | exact HI541.out | apply IsS25.alloc | apply IsS25.drewN | apply IsS25.drew | apply IsS25.set_1) | exact HI541.out)); (case side2 => repeat (first | (with_reducible first | exact HB.out | apply below_alloc | apply pw_below_drewN | apply below_drew1 | refine below_set ?_ (IsS25.ge HI541.out)) | exact HB.out)); rintro e w10 ⟨rfl, hi, hb, hk⟩; refine ⟨_, rfl, ?_⟩; have n0_ := Aside0.mk (hb); have n1_ := Aside0.mk (hi); clear HB; clear HI541; have HB := n0_; have HI541 := n1_; clear n0_ n1_; (try clear hb); (try clear hb2); (try clear hk); (try clear hi)) | ((with_reducible refine gate_callee (f := 44) rfl ?_); refine goesL_ (some 19) rfl rfl Tryd.func44 (by kernel_rfl) rfl #[.string t542, .string t544] rfl (by (try simp only [List.map_toArray, List.map_cons, List.map_nil]); first | done | rfl | (simp only [List.length_drop, List.length_take]; rfl)) ?_; (with_reducible refine (classification_Common.calls k t542 t544 t548 _ ?side1 A5.out).mono ?_); (case side1 => first | exact HG.out | exact GL.below HG.out (by repeat (first | (with_reducible first | exact HB.out | apply below_alloc | apply pw_below_drewN | apply below_drew1 | refine below_set ?_ (IsS25.ge HI541.out)) | exact HB.out))); rintro e w11 ⟨rfl, hb⟩; refine ⟨_, rfl, ?_⟩; have n0_ := Aside0.mk (IsS25.below (by repeat (first | (with_reducible first | exact HI541.out | apply IsS25.alloc | apply IsS25.drewN | apply IsS25.drew | apply IsS25.set_1) | exact HI541.out)) hb); have n1_ := Aside0.mk (below_step (by repeat (first | (with_reducible first | exact HB.out | apply below_alloc | apply pw_below_drewN | apply below_drew1 | refine below_set ?_ (IsS25.ge HI541.out)) | exact HB.out)) hb); clear HI541; clear HB; have HI541 := n0_; have HB := n1_; clear n0_ n1_; (try clear hb); (try clear hb2); (try clear hk); (try clear hi)))
  (try simp only [Act.put, List.setIfInBounds_toArray, List.set_cons_zero, List.set_cons_succ])
  go_cut [27] (fun v27 wc => ∃ (kq : Nat) (x27_45 : Bool), v27 = .bool x27_45 ∧ Aside0 (priceofficelaw06_ClassificationMeets.j0 kq t542 t544 t546 t548 x27_45 = some r) ∧ Aside0 (kq ≤ k) ∧ Aside0 (Below w.heap.size w wc))
  case first =>
    have H := HC6.out
    clear HC6
    replace H := Option.bind_eq_some_iff.mp H
    obtain ⟨t549, A120, H⟩ := H
    replace H : (if t549 ≥ 0 then ((classification_Level.f k t544).bind fun t550 => (priceofficelaw06_ClassificationMeets.j0 k t542 t544 t546 t548 (decide (t550 ≥ 0)))) else (priceofficelaw06_ClassificationMeets.j0 k t542 t544 t546 t548 false)) = some r := H
    have A12 := Aside0.mk A120
    clear A120
    by_cases c13 : t549 ≥ 0
    · rw [if_pos c13] at H
      have c13b0 : decide (0 ≤ t549) = true := decide_eq_true c13
      clear c13
      (first | rw [c13b0] | (simp only [i64_w, i32_w]; rw [c13b0]) | skip)
      replace H := Option.bind_eq_some_iff.mp H
      obtain ⟨t550, A140, H⟩ := H
      replace H : (priceofficelaw06_ClassificationMeets.j0 k t542 t544 t546 t548 (decide (t550 ≥ 0))) = some r := H
      have A14 := Aside0.mk A140
      clear A140
      have H' := Aside0.mk H
      clear H
      go_wp2_with (first | ((with_reducible refine gate_callee (f := 32) rfl ?_); refine goesL_ (some 21) rfl rfl Tryd.func32 (by kernel_rfl) rfl #[.string t542] rfl (by (try simp only [List.map_toArray, List.map_cons, List.map_nil]); first | done | rfl | (simp only [List.length_drop, List.length_take]; rfl)) ?_; (with_reducible refine (classification_Level.calls k t542 t549 _ ?side1 A12.out).mono ?_); (case side1 => first | exact HG.out | exact GL.below HG.out (by repeat (first | (with_reducible first | exact HB.out | apply below_alloc | apply pw_below_drewN | apply below_drew1 | refine below_set ?_ (IsS25.ge HI541.out)) | exact HB.out))); rintro e w15 ⟨rfl, hb⟩; refine ⟨_, rfl, ?_⟩; have n0_ := Aside0.mk (IsS25.below (by repeat (first | (with_reducible first | exact HI541.out | apply IsS25.alloc | apply IsS25.drewN | apply IsS25.drew | apply IsS25.set_1) | exact HI541.out)) hb); have n1_ := Aside0.mk (below_step (by repeat (first | (with_reducible first | exact HB.out | apply below_alloc | apply pw_below_drewN | apply below_drew1 | refine below_set ?_ (IsS25.ge HI541.out)) | exact HB.out)) hb); clear HI541; clear HB; have HI541 := n0_; have HB := n1_; clear n0_ n1_; (try clear hb); (try clear hb2); (try clear hk); (try clear hi)) | (go_at_call 32; (with_reducible refine (classification_Level.calls k t544 t550 _ ?side1 A14.out).mono ?_); (case side1 => first | exact HG.out | exact GL.below HG.out (by repeat (first | (with_reducible first | exact HB.out | apply below_alloc | apply pw_below_drewN | apply below_drew1 | refine below_set ?_ (IsS25.ge HI541.out)) | exact HB.out))); rintro e w16 ⟨rfl, hb⟩; have n0_ := Aside0.mk (IsS25.below (by repeat (first | (with_reducible first | exact HI541.out | apply IsS25.alloc | apply IsS25.drewN | apply IsS25.drew | apply IsS25.set_1) | exact HI541.out)) hb); have n1_ := Aside0.mk (below_step (by repeat (first | (with_reducible first | exact HB.out | apply below_alloc | apply pw_below_drewN | apply below_drew1 | refine below_set ?_ (IsS25.ge HI541.out)) | exact HB.out)) hb); clear HI541; clear HB; have HI541 := n0_; have HB := n1_; clear n0_ n1_; (try clear hb); (try clear hb2); (try clear hk); (try clear hi)))
      go_meet
      case rel => exact ⟨_, (decide (t550 ≥ 0)), (by first | rfl | (simp; done) | (simp [*]; done)), H', ⟨by first | omega | exact Nat.le_refl _⟩, ⟨by repeat (first | (with_reducible first | exact HB.out | apply below_alloc | apply pw_below_drewN | apply below_drew1 | refine below_set ?_ (IsS25.ge HI541.out)) | exact HB.out)⟩⟩
    · rw [if_neg c13] at H
      have c13b0 : decide (0 ≤ t549) = false := decide_eq_false c13
      clear c13
      (first | rw [c13b0] | (simp only [i64_w, i32_w]; rw [c13b0]) | skip)
      have H' := Aside0.mk H
      clear H
      go_wp2_with (first | ((with_reducible refine gate_callee (f := 32) rfl ?_); refine goesL_ (some 21) rfl rfl Tryd.func32 (by kernel_rfl) rfl #[.string t542] rfl (by (try simp only [List.map_toArray, List.map_cons, List.map_nil]); first | done | rfl | (simp only [List.length_drop, List.length_take]; rfl)) ?_; (with_reducible refine (classification_Level.calls k t542 t549 _ ?side1 A12.out).mono ?_); (case side1 => first | exact HG.out | exact GL.below HG.out (by repeat (first | (with_reducible first | exact HB.out | apply below_alloc | apply pw_below_drewN | apply below_drew1 | refine below_set ?_ (IsS25.ge HI541.out)) | exact HB.out))); rintro e w17 ⟨rfl, hb⟩; refine ⟨_, rfl, ?_⟩; have n0_ := Aside0.mk (IsS25.below (by repeat (first | (with_reducible first | exact HI541.out | apply IsS25.alloc | apply IsS25.drewN | apply IsS25.drew | apply IsS25.set_1) | exact HI541.out)) hb); have n1_ := Aside0.mk (below_step (by repeat (first | (with_reducible first | exact HB.out | apply below_alloc | apply pw_below_drewN | apply below_drew1 | refine below_set ?_ (IsS25.ge HI541.out)) | exact HB.out)) hb); clear HI541; clear HB; have HI541 := n0_; have HB := n1_; clear n0_ n1_; (try clear hb); (try clear hb2); (try clear hk); (try clear hi)))
      go_meet
      case rel => exact ⟨_, (false), (by first | rfl | (simp; done) | (simp [*]; done)), H', ⟨by first | omega | exact Nat.le_refl _⟩, ⟨by repeat (first | (with_reducible first | exact HB.out | apply below_alloc | apply pw_below_drewN | apply below_drew1 | refine below_set ?_ (IsS25.ge HI541.out)) | exact HB.out)⟩⟩
  case rest =>
    clear HC6
    try clear c1
    try clear c2
    try clear p2
    try clear c3
    try clear c4
    try clear c12
    try clear c13
    try clear c13b0
    obtain ⟨kq, x27_45, rfl, HA, HJ45, HB⟩ := hcut
    cases kq with
    | zero => exact absurd HA.out (by simp [priceofficelaw06_ClassificationMeets.j0])
    | succ kj45 =>
      have H := HA.out
      clear HA
      simp only [priceofficelaw06_ClassificationMeets.j0] at H
      by_cases c18 : x27_45 = true
      · subst c18
        have H1 : ((classification_Within.f kj45 t542 t548).bind fun t551 => (if t551 = true then ((classification_Within.f kj45 t544 t548).bind fun t552 => (priceofficelaw06_ClassificationMeets.j1 kj45 t542 t544 t546 t548 (!t552))) else (priceofficelaw06_ClassificationMeets.j1 kj45 t542 t544 t546 t548 true))) = some r := by rw [if_pos rfl] at H; exact H
        clear H
        have H := H1
        clear H1
        have HC19 := Aside0.mk H
        clear H
        go_upto_region 5 with (fail)
        go_cut [37] (fun v37 wc => ∃ (kq : Nat) (x37_58 : Bool), v37 = .bool x37_58 ∧ Aside0 (priceofficelaw06_ClassificationMeets.j1 kq t542 t544 t546 t548 x37_58 = some r) ∧ Aside0 (kq ≤ kj45) ∧ Aside0 (Below w.heap.size w wc))
        case first =>
          have H := HC19.out
          clear HC19
          replace H := Option.bind_eq_some_iff.mp H
          obtain ⟨t551, A200, H⟩ := H
          replace H : (if t551 = true then ((classification_Within.f kj45 t544 t548).bind fun t552 => (priceofficelaw06_ClassificationMeets.j1 kj45 t542 t544 t546 t548 (!t552))) else (priceofficelaw06_ClassificationMeets.j1 kj45 t542 t544 t546 t548 true)) = some r := H
          have A20 := Aside0.mk A200
          clear A200
          by_cases c21 : t551 = true
          · subst c21
            have H1 : ((classification_Within.f kj45 t544 t548).bind fun t552 => (priceofficelaw06_ClassificationMeets.j1 kj45 t542 t544 t546 t548 (!t552))) = some r := by rw [if_pos rfl] at H; exact H
            clear H
            have H := H1
            clear H1
            replace H := Option.bind_eq_some_iff.mp H
            obtain ⟨t552, A220, H⟩ := H
            replace H : (priceofficelaw06_ClassificationMeets.j1 kj45 t542 t544 t546 t548 (!t552)) = some r := H
            have A22 := Aside0.mk A220
            clear A220
            have H' := Aside0.mk H
            clear H
            go_wp2_with (first | ((with_reducible refine gate_callee (f := 42) rfl ?_); refine goesL_ (some 30) rfl rfl Tryd.func42 (by kernel_rfl) rfl #[.string t542, .string t548] rfl (by (try simp only [List.map_toArray, List.map_cons, List.map_nil]); first | done | rfl | (simp only [List.length_drop, List.length_take]; rfl)) ?_; (with_reducible refine (classification_Within.calls kj45 t542 t548 true _ ?side1 A20.out).mono ?_); (case side1 => first | exact HG.out | exact GL.below HG.out (by repeat (first | (with_reducible first | exact HB.out | apply below_alloc | apply pw_below_drewN | apply below_drew1) | exact HB.out))); rintro e w23 ⟨rfl, hb⟩; refine ⟨_, rfl, ?_⟩; have n0_ := Aside0.mk (below_step (by repeat (first | (with_reducible first | exact HB.out | apply below_alloc | apply pw_below_drewN | apply below_drew1) | exact HB.out)) hb); clear HB; have HB := n0_; clear n0_; (try clear hb); (try clear hb2); (try clear hk); (try clear hi)) | (go_at_call 42; (with_reducible refine (classification_Within.calls kj45 t544 t548 t552 _ ?side1 A22.out).mono ?_); (case side1 => first | exact HG.out | exact GL.below HG.out (by repeat (first | (with_reducible first | exact HB.out | apply below_alloc | apply pw_below_drewN | apply below_drew1) | exact HB.out))); rintro e w24 ⟨rfl, hb⟩; have n0_ := Aside0.mk (below_step (by repeat (first | (with_reducible first | exact HB.out | apply below_alloc | apply pw_below_drewN | apply below_drew1) | exact HB.out)) hb); clear HB; have HB := n0_; clear n0_; (try clear hb); (try clear hb2); (try clear hk); (try clear hi)))
            go_meet
            case rel => exact ⟨_, (!t552), (by first | rfl | (simp; done) | (simp [*]; done)), H', ⟨by have := HJ45.out; first | omega | exact Nat.le_refl _⟩, ⟨by repeat (first | (with_reducible first | exact HB.out | apply below_alloc | apply pw_below_drewN | apply below_drew1) | exact HB.out)⟩⟩
          · replace c21 := Bool.eq_false_iff.mpr c21
            subst c21
            have H1 : (priceofficelaw06_ClassificationMeets.j1 kj45 t542 t544 t546 t548 true) = some r := by rw [if_neg (show ¬ (false = true) by decide)] at H; exact H
            clear H
            have H := H1
            clear H1
            have H' := Aside0.mk H
            clear H
            go_wp2_with (first | ((with_reducible refine gate_callee (f := 42) rfl ?_); refine goesL_ (some 30) rfl rfl Tryd.func42 (by kernel_rfl) rfl #[.string t542, .string t548] rfl (by (try simp only [List.map_toArray, List.map_cons, List.map_nil]); first | done | rfl | (simp only [List.length_drop, List.length_take]; rfl)) ?_; (with_reducible refine (classification_Within.calls kj45 t542 t548 false _ ?side1 A20.out).mono ?_); (case side1 => first | exact HG.out | exact GL.below HG.out (by repeat (first | (with_reducible first | exact HB.out | apply below_alloc | apply pw_below_drewN | apply below_drew1) | exact HB.out))); rintro e w25 ⟨rfl, hb⟩; refine ⟨_, rfl, ?_⟩; have n0_ := Aside0.mk (below_step (by repeat (first | (with_reducible first | exact HB.out | apply below_alloc | apply pw_below_drewN | apply below_drew1) | exact HB.out)) hb); clear HB; have HB := n0_; clear n0_; (try clear hb); (try clear hb2); (try clear hk); (try clear hi)))
            go_meet
            case rel => exact ⟨_, (true), (by first | rfl | (simp; done) | (simp [*]; done)), H', ⟨by have := HJ45.out; first | omega | exact Nat.le_refl _⟩, ⟨by repeat (first | (with_reducible first | exact HB.out | apply below_alloc | apply pw_below_drewN | apply below_drew1) | exact HB.out)⟩⟩
        case rest =>
          clear HC19
          try clear c1
          try clear c2
          try clear p2
          try clear c3
          try clear c4
          try clear c12
          try clear c13
          try clear c13b0
          try clear c18
          try clear c21
          try clear c24
          try clear p2
          obtain ⟨kq, x37_58, rfl, HA, HJ58, HB⟩ := hcut
          cases kq with
          | zero => exact absurd HA.out (by simp [priceofficelaw06_ClassificationMeets.j1])
          | succ kj58 =>
            have H := HA.out
            clear HA
            simp only [priceofficelaw06_ClassificationMeets.j1] at H
            by_cases c26 : x37_58 = true
            · subst c26
              have H1 : (some false) = some r := by rw [if_pos rfl] at H; exact H
              clear H
              have H := H1
              clear H1
              obtain rfl := Option.some.inj H
              go_wp2
              go_ret
              exact ⟨by first | rfl | (simp [errW_none, errW_some] <;> rfl) | (simp [*, errW_none, errW_some] <;> rfl), by repeat (first | (with_reducible first | exact HB.out | apply below_alloc | apply pw_below_drewN | apply below_drew1) | exact HB.out)⟩
            · replace c26 := Bool.eq_false_iff.mpr c26
              subst c26
              have H1 : ((classification_Within.f kj58 t542 t546).bind fun t553 => (if t553 = true then ((classification_Within.f kj58 t544 t546).bind fun t554 => (if t554 = true then ((classification_Within.f kj58 t548 t546).bind fun t555 => (priceofficelaw06_ClassificationMeets.j2 kj58 t542 t544 (!t555))) else (priceofficelaw06_ClassificationMeets.j2 kj58 t542 t544 false))) else (priceofficelaw06_ClassificationMeets.j2 kj58 t542 t544 false))) = some r := by rw [if_neg (show ¬ (false = true) by decide)] at H; exact H
              clear H
              have H := H1
              clear H1
              have HC27 := Aside0.mk H
              clear H
              go_upto_region 7 with (fail)
              go_cut [51] (fun v51 wc => ∃ (kq : Nat) (x51_66 : Bool), v51 = .bool x51_66 ∧ Aside0 (priceofficelaw06_ClassificationMeets.j2 kq t542 t544 x51_66 = some r) ∧ Aside0 (kq ≤ kj58) ∧ Aside0 (Below w.heap.size w wc))
              case first =>
                have H := HC27.out
                clear HC27
                replace H := Option.bind_eq_some_iff.mp H
                obtain ⟨t553, A280, H⟩ := H
                replace H : (if t553 = true then ((classification_Within.f kj58 t544 t546).bind fun t554 => (if t554 = true then ((classification_Within.f kj58 t548 t546).bind fun t555 => (priceofficelaw06_ClassificationMeets.j2 kj58 t542 t544 (!t555))) else (priceofficelaw06_ClassificationMeets.j2 kj58 t542 t544 false))) else (priceofficelaw06_ClassificationMeets.j2 kj58 t542 t544 false)) = some r := H
                have A28 := Aside0.mk A280
                clear A280
                by_cases c29 : t553 = true
                · subst c29
                  have H1 : ((classification_Within.f kj58 t544 t546).bind fun t554 => (if t554 = true then ((classification_Within.f kj58 t548 t546).bind fun t555 => (priceofficelaw06_ClassificationMeets.j2 kj58 t542 t544 (!t555))) else (priceofficelaw06_ClassificationMeets.j2 kj58 t542 t544 false))) = some r := by rw [if_pos rfl] at H; exact H
                  clear H
                  have H := H1
                  clear H1
                  replace H := Option.bind_eq_some_iff.mp H
                  obtain ⟨t554, A300, H⟩ := H
                  replace H : (if t554 = true then ((classification_Within.f kj58 t548 t546).bind fun t555 => (priceofficelaw06_ClassificationMeets.j2 kj58 t542 t544 (!t555))) else (priceofficelaw06_ClassificationMeets.j2 kj58 t542 t544 false)) = some r := H
                  have A30 := Aside0.mk A300
                  clear A300
                  by_cases c31 : t554 = true
                  · subst c31
                    have H1 : ((classification_Within.f kj58 t548 t546).bind fun t555 => (priceofficelaw06_ClassificationMeets.j2 kj58 t542 t544 (!t555))) = some r := by rw [if_pos rfl] at H; exact H
                    clear H
                    have H := H1
                    clear H1
                    replace H := Option.bind_eq_some_iff.mp H
                    obtain ⟨t555, A320, H⟩ := H
                    replace H : (priceofficelaw06_ClassificationMeets.j2 kj58 t542 t544 (!t555)) = some r := H
                    have A32 := Aside0.mk A320
                    clear A320
                    have H' := Aside0.mk H
                    clear H
                    go_wp2_with (first | ((with_reducible refine gate_callee (f := 42) rfl ?_); refine goesL_ (some 40) rfl rfl Tryd.func42 (by kernel_rfl) rfl #[.string t542, .string t546] rfl (by (try simp only [List.map_toArray, List.map_cons, List.map_nil]); first | done | rfl | (simp only [List.length_drop, List.length_take]; rfl)) ?_; (with_reducible refine (classification_Within.calls kj58 t542 t546 true _ ?side1 A28.out).mono ?_); (case side1 => first | exact HG.out | exact GL.below HG.out (by repeat (first | (with_reducible first | exact HB.out | apply below_alloc | apply pw_below_drewN | apply below_drew1) | exact HB.out))); rintro e w33 ⟨rfl, hb⟩; refine ⟨_, rfl, ?_⟩; have n0_ := Aside0.mk (below_step (by repeat (first | (with_reducible first | exact HB.out | apply below_alloc | apply pw_below_drewN | apply below_drew1) | exact HB.out)) hb); clear HB; have HB := n0_; clear n0_; (try clear hb); (try clear hb2); (try clear hk); (try clear hi)) | (go_at_call 42; (with_reducible refine (classification_Within.calls kj58 t544 t546 true _ ?side1 A30.out).mono ?_); (case side1 => first | exact HG.out | exact GL.below HG.out (by repeat (first | (with_reducible first | exact HB.out | apply below_alloc | apply pw_below_drewN | apply below_drew1) | exact HB.out))); rintro e w34 ⟨rfl, hb⟩; have n0_ := Aside0.mk (below_step (by repeat (first | (with_reducible first | exact HB.out | apply below_alloc | apply pw_below_drewN | apply below_drew1) | exact HB.out)) hb); clear HB; have HB := n0_; clear n0_; (try clear hb); (try clear hb2); (try clear hk); (try clear hi)) | (go_at_call 42; (with_reducible refine (classification_Within.calls kj58 t548 t546 t555 _ ?side1 A32.out).mono ?_); (case side1 => first | exact HG.out | exact GL.below HG.out (by repeat (first | (with_reducible first | exact HB.out | apply below_alloc | apply pw_below_drewN | apply below_drew1) | exact HB.out))); rintro e w35 ⟨rfl, hb⟩; have n0_ := Aside0.mk (below_step (by repeat (first | (with_reducible first | exact HB.out | apply below_alloc | apply pw_below_drewN | apply below_drew1) | exact HB.out)) hb); clear HB; have HB := n0_; clear n0_; (try clear hb); (try clear hb2); (try clear hk); (try clear hi)))
                    go_meet
                    case rel => exact ⟨_, (!t555), (by first | rfl | (simp; done) | (simp [*]; done)), H', ⟨by have := HJ45.out; have := HJ58.out; first | omega | exact Nat.le_refl _⟩, ⟨by repeat (first | (with_reducible first | exact HB.out | apply below_alloc | apply pw_below_drewN | apply below_drew1) | exact HB.out)⟩⟩
                  · replace c31 := Bool.eq_false_iff.mpr c31
                    subst c31
                    have H1 : (priceofficelaw06_ClassificationMeets.j2 kj58 t542 t544 false) = some r := by rw [if_neg (show ¬ (false = true) by decide)] at H; exact H
                    clear H
                    have H := H1
                    clear H1
                    have H' := Aside0.mk H
                    clear H
                    go_wp2_with (first | ((with_reducible refine gate_callee (f := 42) rfl ?_); refine goesL_ (some 40) rfl rfl Tryd.func42 (by kernel_rfl) rfl #[.string t542, .string t546] rfl (by (try simp only [List.map_toArray, List.map_cons, List.map_nil]); first | done | rfl | (simp only [List.length_drop, List.length_take]; rfl)) ?_; (with_reducible refine (classification_Within.calls kj58 t542 t546 true _ ?side1 A28.out).mono ?_); (case side1 => first | exact HG.out | exact GL.below HG.out (by repeat (first | (with_reducible first | exact HB.out | apply below_alloc | apply pw_below_drewN | apply below_drew1) | exact HB.out))); rintro e w36 ⟨rfl, hb⟩; refine ⟨_, rfl, ?_⟩; have n0_ := Aside0.mk (below_step (by repeat (first | (with_reducible first | exact HB.out | apply below_alloc | apply pw_below_drewN | apply below_drew1) | exact HB.out)) hb); clear HB; have HB := n0_; clear n0_; (try clear hb); (try clear hb2); (try clear hk); (try clear hi)) | (go_at_call 42; (with_reducible refine (classification_Within.calls kj58 t544 t546 false _ ?side1 A30.out).mono ?_); (case side1 => first | exact HG.out | exact GL.below HG.out (by repeat (first | (with_reducible first | exact HB.out | apply below_alloc | apply pw_below_drewN | apply below_drew1) | exact HB.out))); rintro e w37 ⟨rfl, hb⟩; have n0_ := Aside0.mk (below_step (by repeat (first | (with_reducible first | exact HB.out | apply below_alloc | apply pw_below_drewN | apply below_drew1) | exact HB.out)) hb); clear HB; have HB := n0_; clear n0_; (try clear hb); (try clear hb2); (try clear hk); (try clear hi)))
                    go_meet
                    case rel => exact ⟨_, (false), (by first | rfl | (simp; done) | (simp [*]; done)), H', ⟨by have := HJ45.out; have := HJ58.out; first | omega | exact Nat.le_refl _⟩, ⟨by repeat (first | (with_reducible first | exact HB.out | apply below_alloc | apply pw_below_drewN | apply below_drew1) | exact HB.out)⟩⟩
                · replace c29 := Bool.eq_false_iff.mpr c29
                  subst c29
                  have H1 : (priceofficelaw06_ClassificationMeets.j2 kj58 t542 t544 false) = some r := by rw [if_neg (show ¬ (false = true) by decide)] at H; exact H
                  clear H
                  have H := H1
                  clear H1
                  have H' := Aside0.mk H
                  clear H
                  go_wp2_with (first | ((with_reducible refine gate_callee (f := 42) rfl ?_); refine goesL_ (some 40) rfl rfl Tryd.func42 (by kernel_rfl) rfl #[.string t542, .string t546] rfl (by (try simp only [List.map_toArray, List.map_cons, List.map_nil]); first | done | rfl | (simp only [List.length_drop, List.length_take]; rfl)) ?_; (with_reducible refine (classification_Within.calls kj58 t542 t546 false _ ?side1 A28.out).mono ?_); (case side1 => first | exact HG.out | exact GL.below HG.out (by repeat (first | (with_reducible first | exact HB.out | apply below_alloc | apply pw_below_drewN | apply below_drew1) | exact HB.out))); rintro e w38 ⟨rfl, hb⟩; refine ⟨_, rfl, ?_⟩; have n0_ := Aside0.mk (below_step (by repeat (first | (with_reducible first | exact HB.out | apply below_alloc | apply pw_below_drewN | apply below_drew1) | exact HB.out)) hb); clear HB; have HB := n0_; clear n0_; (try clear hb); (try clear hb2); (try clear hk); (try clear hi)))
                  go_meet
                  case rel => exact ⟨_, (false), (by first | rfl | (simp; done) | (simp [*]; done)), H', ⟨by have := HJ45.out; have := HJ58.out; first | omega | exact Nat.le_refl _⟩, ⟨by repeat (first | (with_reducible first | exact HB.out | apply below_alloc | apply pw_below_drewN | apply below_drew1) | exact HB.out)⟩⟩
              case rest =>
                clear HC27
                try clear c1
                try clear c2
                try clear p2
                try clear c3
                try clear c4
                try clear c12
                try clear c13
                try clear c13b0
                try clear c18
                try clear c21
                try clear c24
                try clear c26
                try clear c29
                try clear c31
                try clear c32
                try clear p2
                obtain ⟨kq, x51_66, rfl, HA, HJ66, HB⟩ := hcut
                cases kq with
                | zero => exact absurd HA.out (by simp [priceofficelaw06_ClassificationMeets.j2])
                | succ kj66 =>
                  have H := HA.out
                  clear HA
                  simp only [priceofficelaw06_ClassificationMeets.j2] at H
                  by_cases c39 : x51_66 = true
                  · subst c39
                    have H1 : (some false) = some r := by rw [if_pos rfl] at H; exact H
                    clear H
                    have H := H1
                    clear H1
                    obtain rfl := Option.some.inj H
                    go_wp2
                    go_ret
                    exact ⟨by first | rfl | (simp [errW_none, errW_some] <;> rfl) | (simp [*, errW_none, errW_some] <;> rfl), by repeat (first | (with_reducible first | exact HB.out | apply below_alloc | apply pw_below_drewN | apply below_drew1) | exact HB.out)⟩
                  · replace c39 := Bool.eq_false_iff.mpr c39
                    subst c39
                    have H1 : ((classification_Within.f kj66 t542 t544).bind fun t556 => (if t556 = true then ((classification_Compare.f kj66 t544 t542).bind fun t557 => (if t557 ≤ 0 then ((priceofficelaw06_awake.f kj66).bind fun t558 => (some t558)) else (some false))) else ((priceofficelaw06_awake.f kj66).bind fun t559 => (some t559)))) = some r := by rw [if_neg (show ¬ (false = true) by decide)] at H; exact H
                    clear H
                    have H := H1
                    clear H1
                    replace H := Option.bind_eq_some_iff.mp H
                    obtain ⟨t556, A400, H⟩ := H
                    replace H : (if t556 = true then ((classification_Compare.f kj66 t544 t542).bind fun t557 => (if t557 ≤ 0 then ((priceofficelaw06_awake.f kj66).bind fun t558 => (some t558)) else (some false))) else ((priceofficelaw06_awake.f kj66).bind fun t559 => (some t559))) = some r := H
                    have A40 := Aside0.mk A400
                    clear A400
                    by_cases c41 : t556 = true
                    · subst c41
                      have H1 : ((classification_Compare.f kj66 t544 t542).bind fun t557 => (if t557 ≤ 0 then ((priceofficelaw06_awake.f kj66).bind fun t558 => (some t558)) else (some false))) = some r := by rw [if_pos rfl] at H; exact H
                      clear H
                      have H := H1
                      clear H1
                      replace H := Option.bind_eq_some_iff.mp H
                      obtain ⟨t557, A420, H⟩ := H
                      replace H : (if t557 ≤ 0 then ((priceofficelaw06_awake.f kj66).bind fun t558 => (some t558)) else (some false)) = some r := H
                      have A42 := Aside0.mk A420
                      clear A420
                      by_cases c43 : t557 ≤ 0
                      · rw [if_pos c43] at H
                        have c43b0 : decide (t557 ≤ 0) = true := decide_eq_true c43
                        clear c43
                        replace H := Option.bind_eq_some_iff.mp H
                        obtain ⟨t558, A440, H⟩ := H
                        replace H : (some t558) = some r := H
                        have A44 := Aside0.mk A440
                        clear A440
                        obtain rfl := Option.some.inj H
                        go_wp2_with (first | ((with_reducible refine gate_callee (f := 42) rfl ?_); refine goesL_ (some 54) rfl rfl Tryd.func42 (by kernel_rfl) rfl #[.string t542, .string t544] rfl (by (try simp only [List.map_toArray, List.map_cons, List.map_nil]); first | done | rfl | (simp only [List.length_drop, List.length_take]; rfl)) ?_; (with_reducible refine (classification_Within.calls kj66 t542 t544 true _ ?side1 A40.out).mono ?_); (case side1 => first | exact HG.out | exact GL.below HG.out (by repeat (first | (with_reducible first | exact HB.out | apply below_alloc | apply pw_below_drewN | apply below_drew1) | exact HB.out))); rintro e w45 ⟨rfl, hb⟩; refine ⟨_, rfl, ?_⟩; have n0_ := Aside0.mk (below_step (by repeat (first | (with_reducible first | exact HB.out | apply below_alloc | apply pw_below_drewN | apply below_drew1) | exact HB.out)) hb); clear HB; have HB := n0_; clear n0_; (try clear hb); (try clear hb2); (try clear hk); (try clear hi)) | (go_at_call 30; (with_reducible refine (classification_Compare.calls kj66 t544 t542 t557 _ ?side1 A42.out).mono ?_); (case side1 => first | exact HG.out | exact GL.below HG.out (by repeat (first | (with_reducible first | exact HB.out | apply below_alloc | apply pw_below_drewN | apply below_drew1) | exact HB.out))); rintro e w46 ⟨rfl, hb⟩; have n0_ := Aside0.mk (below_step (by repeat (first | (with_reducible first | exact HB.out | apply below_alloc | apply pw_below_drewN | apply below_drew1) | exact HB.out)) hb); clear HB; have HB := n0_; clear n0_; (try clear hb); (try clear hb2); (try clear hk); (try clear hi)) | (go_at_call 17; (with_reducible refine (priceofficelaw06_awake.calls kj66  t558 _ ?side1 A44.out).mono ?_); (case side1 => first | exact HG.out | exact GL.below HG.out (by repeat (first | (with_reducible first | exact HB.out | apply below_alloc | apply pw_below_drewN | apply below_drew1) | exact HB.out))); rintro e w47 ⟨rfl, hb⟩; have n0_ := Aside0.mk (below_step (by repeat (first | (with_reducible first | exact HB.out | apply below_alloc | apply pw_below_drewN | apply below_drew1) | exact HB.out)) hb); clear HB; have HB := n0_; clear n0_; (try clear hb); (try clear hb2); (try clear hk); (try clear hi)))
                        go_ret
                        exact ⟨by first | rfl | (simp [errW_none, errW_some] <;> rfl) | (simp [*, errW_none, errW_some] <;> rfl), by repeat (first | (with_reducible first | exact HB.out | apply below_alloc | apply pw_below_drewN | apply below_drew1) | exact HB.out)⟩
                      · rw [if_neg c43] at H
                        have c43b0 : decide (t557 ≤ 0) = false := decide_eq_false c43
                        clear c43
                        obtain rfl := Option.some.inj H
                        go_wp2_with (first | ((with_reducible refine gate_callee (f := 42) rfl ?_); refine goesL_ (some 54) rfl rfl Tryd.func42 (by kernel_rfl) rfl #[.string t542, .string t544] rfl (by (try simp only [List.map_toArray, List.map_cons, List.map_nil]); first | done | rfl | (simp only [List.length_drop, List.length_take]; rfl)) ?_; (with_reducible refine (classification_Within.calls kj66 t542 t544 true _ ?side1 A40.out).mono ?_); (case side1 => first | exact HG.out | exact GL.below HG.out (by repeat (first | (with_reducible first | exact HB.out | apply below_alloc | apply pw_below_drewN | apply below_drew1) | exact HB.out))); rintro e w48 ⟨rfl, hb⟩; refine ⟨_, rfl, ?_⟩; have n0_ := Aside0.mk (below_step (by repeat (first | (with_reducible first | exact HB.out | apply below_alloc | apply pw_below_drewN | apply below_drew1) | exact HB.out)) hb); clear HB; have HB := n0_; clear n0_; (try clear hb); (try clear hb2); (try clear hk); (try clear hi)) | (go_at_call 30; (with_reducible refine (classification_Compare.calls kj66 t544 t542 t557 _ ?side1 A42.out).mono ?_); (case side1 => first | exact HG.out | exact GL.below HG.out (by repeat (first | (with_reducible first | exact HB.out | apply below_alloc | apply pw_below_drewN | apply below_drew1) | exact HB.out))); rintro e w49 ⟨rfl, hb⟩; have n0_ := Aside0.mk (below_step (by repeat (first | (with_reducible first | exact HB.out | apply below_alloc | apply pw_below_drewN | apply below_drew1) | exact HB.out)) hb); clear HB; have HB := n0_; clear n0_; (try clear hb); (try clear hb2); (try clear hk); (try clear hi)))
                        go_ret
                        exact ⟨by first | rfl | (simp [errW_none, errW_some] <;> rfl) | (simp [*, errW_none, errW_some] <;> rfl), by repeat (first | (with_reducible first | exact HB.out | apply below_alloc | apply pw_below_drewN | apply below_drew1) | exact HB.out)⟩
                    · replace c41 := Bool.eq_false_iff.mpr c41
                      subst c41
                      have H1 : ((priceofficelaw06_awake.f kj66).bind fun t559 => (some t559)) = some r := by rw [if_neg (show ¬ (false = true) by decide)] at H; exact H
                      clear H
                      have H := H1
                      clear H1
                      replace H := Option.bind_eq_some_iff.mp H
                      obtain ⟨t559, A500, H⟩ := H
                      replace H : (some t559) = some r := H
                      have A50 := Aside0.mk A500
                      clear A500
                      obtain rfl := Option.some.inj H
                      go_wp2_with (first | ((with_reducible refine gate_callee (f := 42) rfl ?_); refine goesL_ (some 54) rfl rfl Tryd.func42 (by kernel_rfl) rfl #[.string t542, .string t544] rfl (by (try simp only [List.map_toArray, List.map_cons, List.map_nil]); first | done | rfl | (simp only [List.length_drop, List.length_take]; rfl)) ?_; (with_reducible refine (classification_Within.calls kj66 t542 t544 false _ ?side1 A40.out).mono ?_); (case side1 => first | exact HG.out | exact GL.below HG.out (by repeat (first | (with_reducible first | exact HB.out | apply below_alloc | apply pw_below_drewN | apply below_drew1) | exact HB.out))); rintro e w51 ⟨rfl, hb⟩; refine ⟨_, rfl, ?_⟩; have n0_ := Aside0.mk (below_step (by repeat (first | (with_reducible first | exact HB.out | apply below_alloc | apply pw_below_drewN | apply below_drew1) | exact HB.out)) hb); clear HB; have HB := n0_; clear n0_; (try clear hb); (try clear hb2); (try clear hk); (try clear hi)) | (go_at_call 17; (with_reducible refine (priceofficelaw06_awake.calls kj66  t559 _ ?side1 A50.out).mono ?_); (case side1 => first | exact HG.out | exact GL.below HG.out (by repeat (first | (with_reducible first | exact HB.out | apply below_alloc | apply pw_below_drewN | apply below_drew1) | exact HB.out))); rintro e w52 ⟨rfl, hb⟩; have n0_ := Aside0.mk (below_step (by repeat (first | (with_reducible first | exact HB.out | apply below_alloc | apply pw_below_drewN | apply below_drew1) | exact HB.out)) hb); clear HB; have HB := n0_; clear n0_; (try clear hb); (try clear hb2); (try clear hk); (try clear hi)))
                      go_ret
                      exact ⟨by first | rfl | (simp [errW_none, errW_some] <;> rfl) | (simp [*, errW_none, errW_some] <;> rfl), by repeat (first | (with_reducible first | exact HB.out | apply below_alloc | apply pw_below_drewN | apply below_drew1) | exact HB.out)⟩
      · replace c18 := Bool.eq_false_iff.mpr c18
        subst c18
        have H1 : ((classification_Within.f kj45 t542 t544).bind fun t560 => (if t560 = true then ((classification_Compare.f kj45 t544 t542).bind fun t561 => (if t561 ≤ 0 then ((priceofficelaw06_awake.f kj45).bind fun t562 => (some t562)) else (some false))) else ((priceofficelaw06_awake.f kj45).bind fun t563 => (some t563)))) = some r := by rw [if_neg (show ¬ (false = true) by decide)] at H; exact H
        clear H
        have H := H1
        clear H1
        replace H := Option.bind_eq_some_iff.mp H
        obtain ⟨t560, A530, H⟩ := H
        replace H : (if t560 = true then ((classification_Compare.f kj45 t544 t542).bind fun t561 => (if t561 ≤ 0 then ((priceofficelaw06_awake.f kj45).bind fun t562 => (some t562)) else (some false))) else ((priceofficelaw06_awake.f kj45).bind fun t563 => (some t563))) = some r := H
        have A53 := Aside0.mk A530
        clear A530
        by_cases c54 : t560 = true
        · subst c54
          have H1 : ((classification_Compare.f kj45 t544 t542).bind fun t561 => (if t561 ≤ 0 then ((priceofficelaw06_awake.f kj45).bind fun t562 => (some t562)) else (some false))) = some r := by rw [if_pos rfl] at H; exact H
          clear H
          have H := H1
          clear H1
          replace H := Option.bind_eq_some_iff.mp H
          obtain ⟨t561, A550, H⟩ := H
          replace H : (if t561 ≤ 0 then ((priceofficelaw06_awake.f kj45).bind fun t562 => (some t562)) else (some false)) = some r := H
          have A55 := Aside0.mk A550
          clear A550
          by_cases c56 : t561 ≤ 0
          · rw [if_pos c56] at H
            have c56b0 : decide (t561 ≤ 0) = true := decide_eq_true c56
            clear c56
            replace H := Option.bind_eq_some_iff.mp H
            obtain ⟨t562, A570, H⟩ := H
            replace H : (some t562) = some r := H
            have A57 := Aside0.mk A570
            clear A570
            obtain rfl := Option.some.inj H
            go_wp2_with (first | ((with_reducible refine gate_callee (f := 42) rfl ?_); refine goesL_ (some 54) rfl rfl Tryd.func42 (by kernel_rfl) rfl #[.string t542, .string t544] rfl (by (try simp only [List.map_toArray, List.map_cons, List.map_nil]); first | done | rfl | (simp only [List.length_drop, List.length_take]; rfl)) ?_; (with_reducible refine (classification_Within.calls kj45 t542 t544 true _ ?side1 A53.out).mono ?_); (case side1 => first | exact HG.out | exact GL.below HG.out (by repeat (first | (with_reducible first | exact HB.out | apply below_alloc | apply pw_below_drewN | apply below_drew1) | exact HB.out))); rintro e w58 ⟨rfl, hb⟩; refine ⟨_, rfl, ?_⟩; have n0_ := Aside0.mk (below_step (by repeat (first | (with_reducible first | exact HB.out | apply below_alloc | apply pw_below_drewN | apply below_drew1) | exact HB.out)) hb); clear HB; have HB := n0_; clear n0_; (try clear hb); (try clear hb2); (try clear hk); (try clear hi)) | (go_at_call 30; (with_reducible refine (classification_Compare.calls kj45 t544 t542 t561 _ ?side1 A55.out).mono ?_); (case side1 => first | exact HG.out | exact GL.below HG.out (by repeat (first | (with_reducible first | exact HB.out | apply below_alloc | apply pw_below_drewN | apply below_drew1) | exact HB.out))); rintro e w59 ⟨rfl, hb⟩; have n0_ := Aside0.mk (below_step (by repeat (first | (with_reducible first | exact HB.out | apply below_alloc | apply pw_below_drewN | apply below_drew1) | exact HB.out)) hb); clear HB; have HB := n0_; clear n0_; (try clear hb); (try clear hb2); (try clear hk); (try clear hi)) | (go_at_call 17; (with_reducible refine (priceofficelaw06_awake.calls kj45  t562 _ ?side1 A57.out).mono ?_); (case side1 => first | exact HG.out | exact GL.below HG.out (by repeat (first | (with_reducible first | exact HB.out | apply below_alloc | apply pw_below_drewN | apply below_drew1) | exact HB.out))); rintro e w60 ⟨rfl, hb⟩; have n0_ := Aside0.mk (below_step (by repeat (first | (with_reducible first | exact HB.out | apply below_alloc | apply pw_below_drewN | apply below_drew1) | exact HB.out)) hb); clear HB; have HB := n0_; clear n0_; (try clear hb); (try clear hb2); (try clear hk); (try clear hi)))
            go_ret
            exact ⟨by first | rfl | (simp [errW_none, errW_some] <;> rfl) | (simp [*, errW_none, errW_some] <;> rfl), by repeat (first | (with_reducible first | exact HB.out | apply below_alloc | apply pw_below_drewN | apply below_drew1) | exact HB.out)⟩
          · rw [if_neg c56] at H
            have c56b0 : decide (t561 ≤ 0) = false := decide_eq_false c56
            clear c56
            obtain rfl := Option.some.inj H
            go_wp2_with (first | ((with_reducible refine gate_callee (f := 42) rfl ?_); refine goesL_ (some 54) rfl rfl Tryd.func42 (by kernel_rfl) rfl #[.string t542, .string t544] rfl (by (try simp only [List.map_toArray, List.map_cons, List.map_nil]); first | done | rfl | (simp only [List.length_drop, List.length_take]; rfl)) ?_; (with_reducible refine (classification_Within.calls kj45 t542 t544 true _ ?side1 A53.out).mono ?_); (case side1 => first | exact HG.out | exact GL.below HG.out (by repeat (first | (with_reducible first | exact HB.out | apply below_alloc | apply pw_below_drewN | apply below_drew1) | exact HB.out))); rintro e w61 ⟨rfl, hb⟩; refine ⟨_, rfl, ?_⟩; have n0_ := Aside0.mk (below_step (by repeat (first | (with_reducible first | exact HB.out | apply below_alloc | apply pw_below_drewN | apply below_drew1) | exact HB.out)) hb); clear HB; have HB := n0_; clear n0_; (try clear hb); (try clear hb2); (try clear hk); (try clear hi)) | (go_at_call 30; (with_reducible refine (classification_Compare.calls kj45 t544 t542 t561 _ ?side1 A55.out).mono ?_); (case side1 => first | exact HG.out | exact GL.below HG.out (by repeat (first | (with_reducible first | exact HB.out | apply below_alloc | apply pw_below_drewN | apply below_drew1) | exact HB.out))); rintro e w62 ⟨rfl, hb⟩; have n0_ := Aside0.mk (below_step (by repeat (first | (with_reducible first | exact HB.out | apply below_alloc | apply pw_below_drewN | apply below_drew1) | exact HB.out)) hb); clear HB; have HB := n0_; clear n0_; (try clear hb); (try clear hb2); (try clear hk); (try clear hi)))
            go_ret
            exact ⟨by first | rfl | (simp [errW_none, errW_some] <;> rfl) | (simp [*, errW_none, errW_some] <;> rfl), by repeat (first | (with_reducible first | exact HB.out | apply below_alloc | apply pw_below_drewN | apply below_drew1) | exact HB.out)⟩
        · replace c54 := Bool.eq_false_iff.mpr c54
          subst c54
          have H1 : ((priceofficelaw06_awake.f kj45).bind fun t563 => (some t563)) = some r := by rw [if_neg (show ¬ (false = true) by decide)] at H; exact H
          clear H
          have H := H1
          clear H1
          replace H := Option.bind_eq_some_iff.mp H
          obtain ⟨t563, A630, H⟩ := H
          replace H : (some t563) = some r := H
          have A63 := Aside0.mk A630
          clear A630
          obtain rfl := Option.some.inj H
          go_wp2_with (first | ((with_reducible refine gate_callee (f := 42) rfl ?_); refine goesL_ (some 54) rfl rfl Tryd.func42 (by kernel_rfl) rfl #[.string t542, .string t544] rfl (by (try simp only [List.map_toArray, List.map_cons, List.map_nil]); first | done | rfl | (simp only [List.length_drop, List.length_take]; rfl)) ?_; (with_reducible refine (classification_Within.calls kj45 t542 t544 false _ ?side1 A53.out).mono ?_); (case side1 => first | exact HG.out | exact GL.below HG.out (by repeat (first | (with_reducible first | exact HB.out | apply below_alloc | apply pw_below_drewN | apply below_drew1) | exact HB.out))); rintro e w64 ⟨rfl, hb⟩; refine ⟨_, rfl, ?_⟩; have n0_ := Aside0.mk (below_step (by repeat (first | (with_reducible first | exact HB.out | apply below_alloc | apply pw_below_drewN | apply below_drew1) | exact HB.out)) hb); clear HB; have HB := n0_; clear n0_; (try clear hb); (try clear hb2); (try clear hk); (try clear hi)) | (go_at_call 17; (with_reducible refine (priceofficelaw06_awake.calls kj45  t563 _ ?side1 A63.out).mono ?_); (case side1 => first | exact HG.out | exact GL.below HG.out (by repeat (first | (with_reducible first | exact HB.out | apply below_alloc | apply pw_below_drewN | apply below_drew1) | exact HB.out))); rintro e w65 ⟨rfl, hb⟩; have n0_ := Aside0.mk (below_step (by repeat (first | (with_reducible first | exact HB.out | apply below_alloc | apply pw_below_drewN | apply below_drew1) | exact HB.out)) hb); clear HB; have HB := n0_; clear n0_; (try clear hb); (try clear hb2); (try clear hk); (try clear hi)))
          go_ret
          exact ⟨by first | rfl | (simp [errW_none, errW_some] <;> rfl) | (simp [*, errW_none, errW_some] <;> rfl), by repeat (first | (with_reducible first | exact HB.out | apply below_alloc | apply pw_below_drewN | apply below_drew1) | exact HB.out)⟩

end Go.Proofs.YtpnoliognpmkmaaDoor.P
