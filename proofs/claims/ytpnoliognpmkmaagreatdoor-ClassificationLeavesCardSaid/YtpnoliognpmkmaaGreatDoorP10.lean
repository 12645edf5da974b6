/- Lean functions with the same answers as the program's Go functions, and for each the proof that the call comes to these answers; written by a program of mine out of the translation, the functions marked 'by hand' by me. -/
import Derived.Test.YtpnoliognpmkmaaGreatDoorP0
import Derived.Test.YtpnoliognpmkmaaGreatDoorP9
namespace Go.Proofs.YtpnoliognpmkmaaGreatDoor.P
open Go.RowKit Go.Proofs.YtpnoliognpmkmaaGreatDoorW.PrintWords Go.Proofs.YtpnoliognpmkmaaGreatDoorW.PrintLast Go.Proofs.YtpnoliognpmkmaaGreatDoorW.PrintMore
attribute [local go_sem] max2_int min2_int max_two min_two max_three min_three max_four min_four   -- for this text's walks alone
set_option linter.unusedVariables false
set_option linter.unusedSimpArgs false

/-! ### c_Validate: function 43 -/
mutual
def c_Validate.j0 : Nat → Bool → ByteArray → List ByteArray → Option (Int)
 | 0, _, _, _ => none
 | k + 1, x16, x331000, x331001 => if x16 = true then (some 61) else (c_Validate.l0 k x331001 (x331001.length : Int) 0 x331000 x331001)
def c_Validate.l0 : Nat → List ByteArray → Int → Int → ByteArray → List ByteArray → Option (Int)
 | 0, _, _, _, _, _ => none
 | k + 1, x18, x19, x20, x331000, x331001 => if x20 < x19 then (if 0 ≤ x20 then (if x20 < (x18.length : Int) then ((c_Parent.f k (rdOf ByteArray.empty x18 x20)).bind fun bt332 => (if bt332.2 = true then (if x20 > 0 then (if 0 ≤ (wrap64 (x20 - 1)) then (if (wrap64 (x20 - 1)) < (x331001.length : Int) then ((c_Compare.f k (rdOf ByteArray.empty x331001 (wrap64 (x20 - 1))) (rdOf ByteArray.empty x18 x20)).bind fun t335 => (c_Validate.j2 k x20 bt332.1 x18 x19 x20 (decide (t335 ≥ 0)) x331000 x331001)) else (none)) else (none)) else (c_Validate.j2 k x20 bt332.1 x18 x19 x20 false x331000 x331001)) else (some 60))) else (none)) else (none)) else (some 0)
def c_Validate.j2 : Nat → Int → ByteArray → List ByteArray → Int → Int → Bool → ByteArray → List ByteArray → Option (Int)
 | 0, _, _, _, _, _, _, _, _ => none
 | k + 1, x3, x5, x18, x19, x20, x33, x331000, x331001 => if x33 = true then (some 62) else (if x5.toList = ([] : List UInt8) then (c_Validate.l0 k x18 x19 (wrap64 (x20 + 1)) x331000 x331001) else (if 0 ≤ x3 then (if x3 ≤ (x331001.length : Int) then ((slices_Contains_string_string.f k (x331001.take (x3 : Int).toNat) x5).bind fun t337 => (if t337 = true then (c_Validate.l0 k x18 x19 (wrap64 (x20 + 1)) x331000 x331001) else (some 63))) else (none)) else (none)))
end
def c_Validate.f (k : Nat) (a0_0 : ByteArray) (l0_1 : List ByteArray) : Option (Int) := if (l0_1.length : Int) < 1 then (c_Validate.j0 k true a0_0 l0_1) else (c_Validate.j0 k (decide ((l0_1.length : Int) > 200)) a0_0 l0_1)
theorem c_Validate.mono_l : ∀ k, (∀ y0 y1 y2, LeO (c_Validate.j0 k y0 y1 y2) (c_Validate.j0 (k + 1) y0 y1 y2)) ∧ (∀ y0 y1 y2 y3 y4, LeO (c_Validate.l0 k y0 y1 y2 y3 y4) (c_Validate.l0 (k + 1) y0 y1 y2 y3 y4)) ∧ (∀ y0 y1 y2 y3 y4 y5 y6 y7, LeO (c_Validate.j2 k y0 y1 y2 y3 y4 y5 y6 y7) (c_Validate.j2 (k + 1) y0 y1 y2 y3 y4 y5 y6 y7))
 | 0 => ⟨fun _ _ _ r h => by simp [c_Validate.j0] at h, fun _ _ _ _ _ r h => by simp [c_Validate.l0] at h, fun _ _ _ _ _ _ _ _ r h => by simp [c_Validate.j2] at h⟩
 | k + 1 => by
  obtain ⟨ih0, ih1, ih2⟩ := c_Validate.mono_l k
  refine ⟨?_, ?_, ?_⟩
  ·intro y0 y1 y2
   unfold c_Validate.j0
   repeat' first
   | (with_reducible exact ih0 _ _ _)
   | (with_reducible exact ih1 _ _ _ _ _)
   | (with_reducible exact ih2 _ _ _ _ _ _ _ _)
   | (with_reducible exact c_Compare.mono _ _ _)
   | (with_reducible exact c_Parent.mono _ _)
   | (with_reducible exact slices_Contains_string_string.mono _ _ _)
   | (with_reducible exact LeO.refl _)
   | (with_reducible exact LeO.none _)
   | (with_reducible refine LeO.ite ?_ ?_)
   | (with_reducible refine LeO.bind ?_ (fun _ => ?_))
  ·intro y0 y1 y2 y3 y4
   unfold c_Validate.l0
   repeat' first
   | (with_reducible exact ih0 _ _ _)
   | (with_reducible exact ih1 _ _ _ _ _)
   | (with_reducible exact ih2 _ _ _ _ _ _ _ _)
   | (with_reducible exact c_Compare.mono _ _ _)
   | (with_reducible exact c_Parent.mono _ _)
   | (with_reducible exact slices_Contains_string_string.mono _ _ _)
   | (with_reducible exact LeO.refl _)
   | (with_reducible exact LeO.none _)
   | (with_reducible refine LeO.ite ?_ ?_)
   | (with_reducible refine LeO.bind ?_ (fun _ => ?_))
  ·intro y0 y1 y2 y3 y4 y5 y6 y7
   unfold c_Validate.j2
   repeat' first
   | (with_reducible exact ih0 _ _ _)
   | (with_reducible exact ih1 _ _ _ _ _)
   | (with_reducible exact ih2 _ _ _ _ _ _ _ _)
   | (with_reducible exact c_Compare.mono _ _ _)
   | (with_reducible exact c_Parent.mono _ _)
   | (with_reducible exact slices_Contains_string_string.mono _ _ _)
   | (with_reducible exact LeO.refl _)
   | (with_reducible exact LeO.none _)
   | (with_reducible refine LeO.ite ?_ ?_)
   | (with_reducible refine LeO.bind ?_ (fun _ => ?_))
theorem c_Validate.mono : ∀ a0 a1 k, LeO (c_Validate.f k a0 a1) (c_Validate.f (k + 1) a0 a1) := by
 intro a0 a1 k
 obtain ⟨ih0, ih1, ih2⟩ := c_Validate.mono_l k
 unfold c_Validate.f
 repeat' first
   | (with_reducible exact ih0 _ _ _)
   | (with_reducible exact ih1 _ _ _ _ _)
   | (with_reducible exact ih2 _ _ _ _ _ _ _ _)
   | (with_reducible exact c_Compare.mono _ _ _)
   | (with_reducible exact c_Parent.mono _ _)
   | (with_reducible exact slices_Contains_string_string.mono _ _ _)
   | (with_reducible exact LeO.refl _)
   | (with_reducible exact LeO.none _)
   | (with_reducible refine LeO.ite ?_ ?_)
   | (with_reducible refine LeO.bind ?_ (fun _ => ?_))
set_option maxHeartbeats 8000000 in
set_option maxRecDepth 100000 in
theorem c_Validate.calls (k : Nat) (a0_0 : ByteArray) (A0_1 : Option Addr) (c0_1 : Nat) (l0_1 : List ByteArray) (r : Int) (w : World) (hr0_1 : Kd.C Kd.string w A0_1 l0_1.length l0_1) (hc0_1 : l0_1.length ≤ c0_1) (hG : GL w) (h : c_Validate.f k a0_0 l0_1 = some r) :
  Calls Tryz.prog 43 #[.agg #[.string a0_0, .slice A0_1 l0_1.length c0_1]] w fun e w' => e = .returned (.int .i64 r) ∧ Below w.heap.size w w' := by
 have HG := mk0 hG
 clear hG
 have hu24 := Tryz.underlying24
 have HR0_1 := mk0 hr0_1
 have HC0_1 := mk0 hc0_1
 clear hr0_1 hc0_1
 have HB := mk0 (Below.refl w.heap.size w)
 have H : (if (l0_1.length : Int) < 1 then (c_Validate.j0 k true a0_0 l0_1) else (c_Validate.j0 k (decide ((l0_1.length : Int) > 200)) a0_0 l0_1)) = some r := h
 clear h
 have HC2 := mk0 H
 clear H
 go_enter Tryz.func43, Tryz.ntmps43
 go_upto_region 1 with (first | ((with_reducible refine gate_dst (N := 1) rfl ?_); refine box_event ?hg (N := 1) ?hd (cs := #[.string a0_0, .slice A0_1 l0_1.length c0_1]) (t := 24) ?hr ?_; (case hd => rfl); (case hg => rfl); (case hr => first | (go_simp; done) | (go_simp; rfl)); intro gb330 hg w3 hbox hb; have n0_ := mk0 (below_step (by repeat (with_reducible first | exact HB.out | apply b_a | apply b_n | apply b_d)) hb); have n1_ := mk0 (hbox); have n2_ := mk0 ((by rw [hg]; exact (below_size (by repeat (with_reducible first | exact HB.out | apply b_a | apply b_n | apply b_d))) : w.heap.size ≤ gb330)); have n3_ := mk0 ((by rw [hg]; exact (below_size (by repeat (with_reducible first | exact HB.out | apply b_a | apply b_n | apply b_d))) : w.heap.size ≤ gb330)); clear HB; have HB := n0_; have BK330 := n1_; have GW330 := n2_; have GE330 := n3_; clear n0_ n1_ n2_ n3_; clear hb hbox hg))
 (try simp only [Act.put, List.setIfInBounds_toArray, List.set_cons_zero, List.set_cons_succ])
 go_cut [16] (fun v16 wc => ∃ (kq : Nat) (x16_41 : Bool), v16 = .bool x16_41 ∧ Aside0 (c_Validate.j0 kq x16_41 a0_0 l0_1 = some r) ∧ Aside0 (kq ≤ k) ∧ Aside0 (wc.heap[gb330]? = some (.cells #[.string a0_0, (.slice A0_1 l0_1.length c0_1)] 24 (0, 0))) ∧ Aside0 (Below w.heap.size w wc))
 case first =>
  have H := HC2.out
  clear HC2
  by_cases c4 : (l0_1.length : Int) < 1
  ·rw [if_pos c4] at H
   have c4b0 : decide ((l0_1.length : Int) < 1) = true := decide_eq_true c4
   have c4b1 : decide (l0_1.length < 1) = true := decide_eq_true (by omega)
   clear c4
   (first | rw [c4b0] | (simp only [i64_w, i32_w]; rw [c4b0]) | skip)
   have H' := mk0 H
   clear H
   have hcz5_0 : w3.cell? ⟨gb330, 0, none⟩ = some (.string a0_0) := (blk_cell BK330.out 0).trans rfl
   have hcz5_1 : w3.cell? ⟨gb330, 1, none⟩ = some (.slice A0_1 l0_1.length c0_1) := (blk_cell BK330.out 1).trans rfl
   have hfz5_0 := blk_frozen BK330.out 0
   have hfz5_1 := blk_frozen BK330.out 1
   go_wp2
   go_meet
   case rel => exact ⟨_, (true), (by first | rfl | (simp; done) | (simp [*]; done)), H', ⟨by first | omega | exact Nat.le_refl _⟩, ⟨by (with_reducible repeat (first | refine blk_drewN ?_ _ | refine blk_drew ?_ | refine blk_alloc ?_ _)); exact BK330.out⟩, ⟨by repeat (first | (with_reducible first | exact HB.out | apply b_a | apply b_n | apply b_d | refine below_set ?_ GE330.out) | exact HB.out)⟩⟩
  ·rw [if_neg c4] at H
   have c4b0 : decide ((l0_1.length : Int) < 1) = false := decide_eq_false c4
   have c4b1 : decide (l0_1.length < 1) = false := decide_eq_false (by omega)
   clear c4
   (first | rw [c4b0] | (simp only [i64_w, i32_w]; rw [c4b0]) | skip)
   have H' := mk0 H
   clear H
   have hcz6_0 : w3.cell? ⟨gb330, 0, none⟩ = some (.string a0_0) := (blk_cell BK330.out 0).trans rfl
   have hcz6_1 : w3.cell? ⟨gb330, 1, none⟩ = some (.slice A0_1 l0_1.length c0_1) := (blk_cell BK330.out 1).trans rfl
   have hfz6_0 := blk_frozen BK330.out 0
   have hfz6_1 := blk_frozen BK330.out 1
   go_wp2
   go_meet
   case rel => exact ⟨_, (decide ((l0_1.length : Int) > 200)), (by first | rfl | (simp; done) | (simp [*]; done)), H', ⟨by first | omega | exact Nat.le_refl _⟩, ⟨by (with_reducible repeat (first | refine blk_drewN ?_ _ | refine blk_drew ?_ | refine blk_alloc ?_ _)); exact BK330.out⟩, ⟨by repeat (first | (with_reducible first | exact HB.out | apply b_a | apply b_n | apply b_d | refine below_set ?_ GE330.out) | exact HB.out)⟩⟩
 case rest =>
  clear HC2
  try clear p2
  try clear c4
  try clear c4b0
  try clear c4b1
  try clear hcz5_0
  try clear hcz5_1
  try clear hcz6_0
  try clear hcz6_1
  try clear hfz5_0
  try clear hfz5_1
  try clear hfz6_0
  try clear hfz6_1
  obtain ⟨kq, x16_41, rfl, HA, HJ41, BK330, HB⟩ := hcut
  cases kq with
  | zero => exact absurd HA.out (by simp [c_Validate.j0])
  | succ kj41 =>
   have H := HA.out
   clear HA
   simp only [c_Validate.j0] at H
   by_cases c7 : x16_41 = true
   ·subst c7
    have H1 : (some 61) = some r := by rw [if_pos rfl] at H; exact H
    clear H
    have H := H1
    clear H1
    obtain rfl := Option.some.inj H
    go_wp2
    go_ret
    exact ⟨by first | rfl | (simp [errW_none, errW_some] <;> rfl) | (simp [*, errW_none, errW_some] <;> rfl), by repeat (first | (with_reducible first | exact HB.out | apply b_a | apply b_n | apply b_d | refine below_set ?_ GE330.out) | exact HB.out)⟩
   ·replace c7 := Bool.eq_false_iff.mpr c7
    subst c7
    have H1 : (c_Validate.l0 kj41 l0_1 (l0_1.length : Int) 0 a0_0 l0_1) = some r := by rw [if_neg (show ¬ (false = true) by decide)] at H; exact H
    clear H
    have H := H1
    clear H1
    have H' := mk0 H
    clear H
    have hcz8_0 : wc.cell? ⟨gb330, 0, none⟩ = some (.string a0_0) := (blk_cell BK330.out 0).trans rfl
    have hcz8_1 : wc.cell? ⟨gb330, 1, none⟩ = some (.slice A0_1 l0_1.length c0_1) := (blk_cell BK330.out 1).trans rfl
    have hfz8_0 := blk_frozen BK330.out 0
    have hfz8_1 := blk_frozen BK330.out 1
    go_wp2
    go_loopg [20] kj41 (fun kq v20 w' => ∃ (x20_2 : Int), v20 = .int .i64 x20_2 ∧ Aside0 (c_Validate.l0 kq l0_1 (l0_1.length : Int) x20_2 a0_0 l0_1 = some r) ∧ Aside0 (kq ≤ kj41) ∧ Aside0 (w'.heap[gb330]? = some (.cells #[.string a0_0, (.slice A0_1 l0_1.length c0_1)] 24 (0, 0))) ∧ Aside0 (Below w.heap.size w w'))
    case atStart => exact ⟨(0), (by first | rfl | (simp; done) | (simp [*]; done)), H', ⟨Nat.le_refl _⟩, ⟨by (with_reducible repeat (first | refine blk_drewN ?_ _ | refine blk_drew ?_ | refine blk_alloc ?_ _)); exact BK330.out⟩, ⟨by repeat (first | (with_reducible first | exact HB.out | apply b_a | apply b_n | apply b_d | refine below_set ?_ GE330.out) | exact HB.out)⟩⟩
    case round =>
     clear H'
     try clear p2
     try clear c4
     try clear c4b0
     try clear c4b1
     try clear c7
     try clear hcz5_0
     try clear hcz5_1
     try clear hcz6_0
     try clear hcz6_1
     try clear hcz8_0
     try clear hcz8_1
     try clear hfz5_0
     try clear hfz5_1
     try clear hfz6_0
     try clear hfz6_1
     try clear hfz8_0
     try clear hfz8_1
     try clear p2
     obtain ⟨x20_2, rfl, HA, HK2, BK330, HB⟩ := hrel
     cases gk with
     | zero => exact absurd HA.out (by simp [c_Validate.l0])
     | succ k2 =>
      have H := HA.out
      clear HA
      simp only [c_Validate.l0] at H
      by_cases c9 : x20_2 < (l0_1.length : Int)
      ·rw [if_pos c9] at H
       have c9b0 : decide (x20_2 < (l0_1.length : Int)) = true := decide_eq_true c9
       clear c9
       by_cases c10 : 0 ≤ x20_2
       ·rw [if_pos c10] at H
        have c10b0 : decide (0 ≤ x20_2) = true := decide_eq_true c10
        clear c10
        by_cases c11 : x20_2 < (l0_1.length : Int)
        ·rw [if_pos c11] at H
         have c11b0 : decide (x20_2 < (l0_1.length : Int)) = true := decide_eq_true c11
         clear c11
         replace H := Option.bind_eq_some_iff.mp H
         obtain ⟨⟨t332, t333⟩, A120, H⟩ := H
         replace H : (if t333 = true then (if x20_2 > 0 then (if 0 ≤ (wrap64 (x20_2 - 1)) then (if (wrap64 (x20_2 - 1)) < (l0_1.length : Int) then ((c_Compare.f k2 (rdOf ByteArray.empty l0_1 (wrap64 (x20_2 - 1))) (rdOf ByteArray.empty l0_1 x20_2)).bind fun t335 => (c_Validate.j2 k2 x20_2 t332 l0_1 (l0_1.length : Int) x20_2 (decide (t335 ≥ 0)) a0_0 l0_1)) else (none)) else (none)) else (c_Validate.j2 k2 x20_2 t332 l0_1 (l0_1.length : Int) x20_2 false a0_0 l0_1)) else (some 60)) = some r := H
         have A12 := mk0 A120
         clear A120
         by_cases c13 : t333 = true
         ·subst c13
          have H1 : (if x20_2 > 0 then (if 0 ≤ (wrap64 (x20_2 - 1)) then (if (wrap64 (x20_2 - 1)) < (l0_1.length : Int) then ((c_Compare.f k2 (rdOf ByteArray.empty l0_1 (wrap64 (x20_2 - 1))) (rdOf ByteArray.empty l0_1 x20_2)).bind fun t335 => (c_Validate.j2 k2 x20_2 t332 l0_1 (l0_1.length : Int) x20_2 (decide (t335 ≥ 0)) a0_0 l0_1)) else (none)) else (none)) else (c_Validate.j2 k2 x20_2 t332 l0_1 (l0_1.length : Int) x20_2 false a0_0 l0_1)) = some r := by rw [if_pos rfl] at H; exact H
          clear H
          have H := H1
          clear H1
          have HC14 := mk0 H
          clear H
          have p331 : 0 ≤ (x20_2 : Int) := of_decide_eq_true (by assumption)
          have q331 : x20_2 < (l0_1.length : Int) := of_decide_eq_true (by assumption)
          obtain ⟨ad331, e331, hx331_0⟩ := Kd.at_string HR0_1.out x20_2 p331 q331
          cases e331
          replace hx331_0 := (HB.out.cell (World.block_lt_of_cell? w _ hx331_0)).trans hx331_0
          replace p331 := eq_true p331
          replace q331 := eq_true q331
          go_upto_region 9 with (first | ((with_reducible refine gate_callee (f := 22) rfl ?_); refine goesL_ (some 27) rfl rfl Tryz.func22 (by kernel_rfl) rfl #[.string (rdOf ByteArray.empty l0_1 x20_2)] rfl (by (try simp only [List.map_toArray, List.map_cons, List.map_nil]); first | done | rfl) ?_; (with_reducible refine (c_Parent.calls k2 (rdOf ByteArray.empty l0_1 x20_2) t332 true _ ?side1 A12.out).mono ?_); (case side1 => first | exact HG.out | exact GL.below HG.out (by repeat (with_reducible first | exact HB.out | apply b_a | apply b_n | apply b_d | refine below_set ?_ GE330.out))); rintro e w15 ⟨rfl, hb⟩; refine ⟨_, rfl, ?_⟩; have n0_ := mk0 (blk_below (g := gb330) (o := .cells #[.string a0_0, .slice (some ad331) l0_1.length c0_1] 24 (0, 0)) (by (with_reducible repeat (first | refine blk_drewN ?_ _ | refine blk_drew ?_ | refine blk_alloc ?_ _)); exact BK330.out) hb); have n1_ := mk0 (below_step (by repeat (with_reducible first | exact HB.out | apply b_a | apply b_n | apply b_d | refine below_set ?_ GE330.out)) hb); clear BK330; clear HB; have BK330 := n0_; have HB := n1_; clear n0_ n1_; (try clear hb)))
          (try simp only [Act.put, List.setIfInBounds_toArray, List.set_cons_zero, List.set_cons_succ])
          go_cut [33] (fun v33 wc => ∃ (kq : Nat) (x33_53 : Bool), v33 = .bool x33_53 ∧ Aside0 (c_Validate.j2 kq x20_2 t332 l0_1 (l0_1.length : Int) x20_2 x33_53 a0_0 l0_1 = some r) ∧ Aside0 (kq ≤ k2) ∧ Aside0 (wc.heap[gb330]? = some (.cells #[.string a0_0, (.slice (some ad331) l0_1.length c0_1)] 24 (0, 0))) ∧ Aside0 (Below w.heap.size w wc))
          case first =>
           have H := HC14.out
           clear HC14
           by_cases c16 : x20_2 > 0
           ·rw [if_pos c16] at H
            have c16b0 : decide (0 < x20_2) = true := decide_eq_true c16
            clear c16
            (first | rw [c16b0] | (simp only [i64_w, i32_w]; rw [c16b0]) | skip)
            obtain ⟨ji17, hji17⟩ : ∃ j_ : Int, (wrap64 (x20_2 - 1)) = j_ := ⟨_, rfl⟩
            replace H : (if 0 ≤ (ji17) then (if (ji17) < (l0_1.length : Int) then ((c_Compare.f k2 (rdOf ByteArray.empty l0_1 (ji17)) (rdOf ByteArray.empty l0_1 x20_2)).bind fun t335 => (c_Validate.j2 k2 x20_2 t332 l0_1 (l0_1.length : Int) x20_2 (decide (t335 ≥ 0)) a0_0 l0_1)) else (none)) else (none)) = some r := by first | (rw [hji17] at H; exact H) | (simp only [hji17] at H ⊢; exact H)
            have hji17w : (IntKind.i64.wrap (x20_2 - 1)) = ji17 := (i64_w _).trans hji17
            by_cases c18 : 0 ≤ (ji17)
            ·rw [if_pos c18] at H
             have c18b0 : decide (0 ≤ (ji17)) = true := decide_eq_true c18
             clear c18
             by_cases c19 : (ji17) < (l0_1.length : Int)
             ·rw [if_pos c19] at H
              have c19b0 : decide ((ji17) < (l0_1.length : Int)) = true := decide_eq_true c19
              clear c19
              replace H := Option.bind_eq_some_iff.mp H
              obtain ⟨t335, A200, H⟩ := H
              replace H : (c_Validate.j2 k2 x20_2 t332 l0_1 (l0_1.length : Int) x20_2 (decide (t335 ≥ 0)) a0_0 l0_1) = some r := H
              have A20 := mk0 A200
              clear A200
              have H' := mk0 H
              clear H
              have hcz21_0 : w15.cell? ⟨gb330, 0, none⟩ = some (.string a0_0) := (blk_cell BK330.out 0).trans rfl
              have hcz21_1 : w15.cell? ⟨gb330, 1, none⟩ = some (.slice (some ad331) l0_1.length c0_1) := (blk_cell BK330.out 1).trans rfl
              have hfz21_0 := blk_frozen BK330.out 0
              have hfz21_1 := blk_frozen BK330.out 1
              have p334 : 0 ≤ ((ji17) : Int) := of_decide_eq_true (by assumption)
              have q334 : (ji17) < (l0_1.length : Int) := of_decide_eq_true (by assumption)
              obtain ⟨ad334, e334, hx334_0⟩ := Kd.at_string HR0_1.out (ji17) p334 q334
              obtain rfl : ad331 = ad334 := (by injection e334)
              replace hx334_0 := (HB.out.cell (World.block_lt_of_cell? w _ hx334_0)).trans hx334_0
              replace p334 := eq_true p334
              replace q334 := eq_true q334
              go_wp2_with (first | (go_at_call 25; (with_reducible refine (c_Compare.calls k2 (rdOf ByteArray.empty l0_1 (ji17)) (rdOf ByteArray.empty l0_1 x20_2) t335 _ ?side1 A20.out).mono ?_); (case side1 => first | exact HG.out | exact GL.below HG.out (by repeat (with_reducible first | exact HB.out | apply b_a | apply b_n | apply b_d | refine below_set ?_ GE330.out))); rintro e w22 ⟨rfl, hb⟩; have n0_ := mk0 (blk_below (g := gb330) (o := .cells #[.string a0_0, .slice (some ad331) l0_1.length c0_1] 24 (0, 0)) (by (with_reducible repeat (first | refine blk_drewN ?_ _ | refine blk_drew ?_ | refine blk_alloc ?_ _)); exact BK330.out) hb); have n1_ := mk0 (below_step (by repeat (with_reducible first | exact HB.out | apply b_a | apply b_n | apply b_d | refine below_set ?_ GE330.out)) hb); clear BK330; clear HB; have BK330 := n0_; have HB := n1_; clear n0_ n1_; (try clear hb); (try clear hb2); (try clear hk); (try clear hi)))
              go_meet
              case rel => exact ⟨_, (decide (t335 ≥ 0)), (by first | rfl | (simp; done) | (simp [*]; done)), H', ⟨by have := HJ41.out; have := HK2.out; first | omega | exact Nat.le_refl _⟩, ⟨by (with_reducible repeat (first | refine blk_drewN ?_ _ | refine blk_drew ?_ | refine blk_alloc ?_ _)); exact BK330.out⟩, ⟨by repeat (first | (with_reducible first | exact HB.out | apply b_a | apply b_n | apply b_d | refine below_set ?_ GE330.out) | exact HB.out)⟩⟩
             ·rw [if_neg c19] at H
              exact absurd H (by simp)
            ·rw [if_neg c18] at H
             exact absurd H (by simp)
           ·rw [if_neg c16] at H
            have c16b0 : decide (0 < x20_2) = false := decide_eq_false c16
            clear c16
            (first | rw [c16b0] | (simp only [i64_w, i32_w]; rw [c16b0]) | skip)
            have H' := mk0 H
            clear H
            go_wp2
            go_meet
            case rel => exact ⟨_, (false), (by first | rfl | (simp; done) | (simp [*]; done)), H', ⟨by have := HJ41.out; have := HK2.out; first | omega | exact Nat.le_refl _⟩, ⟨by (with_reducible repeat (first | refine blk_drewN ?_ _ | refine blk_drew ?_ | refine blk_alloc ?_ _)); exact BK330.out⟩, ⟨by repeat (first | (with_reducible first | exact HB.out | apply b_a | apply b_n | apply b_d | refine below_set ?_ GE330.out) | exact HB.out)⟩⟩
          case rest =>
           clear HC14
           try clear c1
           try clear c2
           try clear p2
           try clear p3
           try clear q3
           try clear hx3
           try clear c4
           try clear c4b0
           try clear c4b1
           try clear p6
           try clear c7
           try clear c9
           try clear c9b0
           try clear c10
           try clear c10b0
           try clear c11
           try clear c11b0
           try clear c13
           try clear c16
           try clear c16b0
           try clear c18
           try clear c18b0
           try clear c19
           try clear c19b0
           try clear c22
           try clear hcz21_0
           try clear hcz21_1
           try clear hcz5_0
           try clear hcz5_1
           try clear hcz6_0
           try clear hcz6_1
           try clear hcz8_0
           try clear hcz8_1
           try clear hfz21_0
           try clear hfz21_1
           try clear hfz5_0
           try clear hfz5_1
           try clear hfz6_0
           try clear hfz6_1
           try clear hfz8_0
           try clear hfz8_1
           try clear hx331_0
           try clear hx334_0
           try clear p2
           try clear p331
           try clear p334
           try clear q331
           try clear q334
           obtain ⟨kq, x33_53, rfl, HA, HJ53, BK330, HB⟩ := hcut
           cases kq with
           | zero => exact absurd HA.out (by simp [c_Validate.j2])
           | succ kj53 =>
            have H := HA.out
            clear HA
            simp only [c_Validate.j2] at H
            by_cases c23 : x33_53 = true
            ·subst c23
             have H1 : (some 62) = some r := by rw [if_pos rfl] at H; exact H
             clear H
             have H := H1
             clear H1
             obtain rfl := Option.some.inj H
             go_wp2
             go_ret
             exact ⟨by first | rfl | (simp [errW_none, errW_some] <;> rfl) | (simp [*, errW_none, errW_some] <;> rfl), by repeat (first | (with_reducible first | exact HB.out | apply b_a | apply b_n | apply b_d | refine below_set ?_ GE330.out) | exact HB.out)⟩
            ·replace c23 := Bool.eq_false_iff.mpr c23
             subst c23
             have H1 : (if t332.toList = ([] : List UInt8) then (c_Validate.l0 kj53 l0_1 (l0_1.length : Int) (wrap64 (x20_2 + 1)) a0_0 l0_1) else (if 0 ≤ x20_2 then (if x20_2 ≤ (l0_1.length : Int) then ((slices_Contains_string_string.f kj53 (l0_1.take (x20_2 : Int).toNat) t332).bind fun t337 => (if t337 = true then (c_Validate.l0 kj53 l0_1 (l0_1.length : Int) (wrap64 (x20_2 + 1)) a0_0 l0_1) else (some 63))) else (none)) else (none))) = some r := by rw [if_neg (show ¬ (false = true) by decide)] at H; exact H
             clear H
             have H := H1
             clear H1
             by_cases c24 : t332.toList = ([] : List UInt8)
             ·rw [if_pos c24] at H
              have c24b0 : (t332.toList == ([] : List UInt8)) = true := beq_iff_eq.mpr c24
              have c24b1 : (t332.toList != ([] : List UInt8)) = false := bne_eq_false_iff_eq.mpr c24
              clear c24
              have H' := mk0 H
              clear H
              go_wp2
              go_roundg kj53
              case measure => have := HJ41.out; have := HK2.out; have := HJ53.out; omega
              case rel => exact ⟨(wrap64 (x20_2 + 1)), (by first | rfl | (simp; done) | (simp [*]; done)), H', ⟨by have := HJ41.out; have := HK2.out; have := HJ53.out; omega⟩, ⟨by (with_reducible repeat (first | refine blk_drewN ?_ _ | refine blk_drew ?_ | refine blk_alloc ?_ _)); exact BK330.out⟩, ⟨by repeat (first | (with_reducible first | exact HB.out | apply b_a | apply b_n | apply b_d | refine below_set ?_ GE330.out) | exact HB.out)⟩⟩
             ·rw [if_neg c24] at H
              have c24b0 : (t332.toList == ([] : List UInt8)) = false := beq_eq_false_iff_ne.mpr c24
              have c24b1 : (t332.toList != ([] : List UInt8)) = true := bne_iff_ne.mpr c24
              by_cases c25 : 0 ≤ x20_2
              ·rw [if_pos c25] at H
               have c25b0 := eq_true c25
               have c25b1 : decide (0 ≤ x20_2) = true := decide_eq_true c25
               clear c25
               by_cases c26 : x20_2 ≤ (l0_1.length : Int)
               ·rw [if_pos c26] at H
                have c26b0 := eq_true c26
                have c26b1 : decide (x20_2 ≤ (l0_1.length : Int)) = true := decide_eq_true c26
                clear c26
                replace H := Option.bind_eq_some_iff.mp H
                obtain ⟨t337, A270, H⟩ := H
                replace H : (if t337 = true then (c_Validate.l0 kj53 l0_1 (l0_1.length : Int) (wrap64 (x20_2 + 1)) a0_0 l0_1) else (some 63)) = some r := H
                have A27 := mk0 A270
                clear A270
                by_cases c28 : t337 = true
                ·subst c28
                 have H1 : (c_Validate.l0 kj53 l0_1 (l0_1.length : Int) (wrap64 (x20_2 + 1)) a0_0 l0_1) = some r := by rw [if_pos rfl] at H; exact H
                 clear H
                 have H := H1
                 clear H1
                 have H' := mk0 H
                 clear H
                 have hcz29_0 : wc.cell? ⟨gb330, 0, none⟩ = some (.string a0_0) := (blk_cell BK330.out 0).trans rfl
                 have hcz29_1 : wc.cell? ⟨gb330, 1, none⟩ = some (.slice (some ad331) l0_1.length c0_1) := (blk_cell BK330.out 1).trans rfl
                 have hfz29_0 := blk_frozen BK330.out 0
                 have hfz29_1 := blk_frozen BK330.out 1
                 obtain ⟨i030, hi030, _, hsz30, _⟩ := info_parts info9
                 obtain ⟨hcut30, hA30, hC30⟩ := print_take_of (P := Tryz.prog) Value.string (⟨#[]⟩ : ByteArray) 22 9 .i64 Tryz.underlying22 hi030 hsz30 (some ad331) c0_1 l0_1 x20_2 (of_decide_eq_true (by assumption)) (of_decide_eq_true (by assumption)) HC0_1.out
                 have HR336 := mk0 (Kd.C_of_reads (h1 := fun _ => rfl) (hA30 _ (Kd.reads_of_C HR0_1.out)))
                 have HC336 := mk0 hC30
                 clear hA30 hC30 hi030 hsz30
                 go_wp2_with (first | (go_at_call 44; refine calls_of_args (args' := #[.slice (some ad331) (l0_1.take (x20_2 : Int).toNat).length c0_1, .string t332]) (by have hq_ : x20_2 ≤ (l0_1.length : Int) := of_decide_eq_true (by assumption); rw [show (l0_1.take (x20_2 : Int).toNat).length = (x20_2 : Int).toNat from by rw [List.length_take]; omega]) ?_; (with_reducible refine (slices_Contains_string_string.calls kj53 _ _ (l0_1.take (x20_2 : Int).toNat) t332 true _ ?side1 ?side2 A27.out).mono ?_); (case side1 => repeat (first | exact (Kd.C_below HR336.out HB.out) | (with_reducible refine Kd.C_alloc ?_ _) | (with_reducible refine Kd.C_drewN ?_ _) | (with_reducible refine Kd.C_drew ?_))); (case side2 => exact HC336.out); rintro e w' ⟨rfl, ⟨nd, rfl⟩⟩))
                 go_roundg kj53
                 case measure => have := HJ41.out; have := HK2.out; have := HJ53.out; omega
                 case rel => exact ⟨(wrap64 (x20_2 + 1)), (by first | rfl | (simp; done) | (simp [*]; done)), H', ⟨by have := HJ41.out; have := HK2.out; have := HJ53.out; omega⟩, ⟨by (with_reducible repeat (first | refine blk_drewN ?_ _ | refine blk_drew ?_ | refine blk_alloc ?_ _)); exact BK330.out⟩, ⟨by repeat (first | (with_reducible first | exact HB.out | apply b_a | apply b_n | apply b_d | refine below_set ?_ GE330.out) | exact HB.out)⟩⟩
                ·replace c28 := Bool.eq_false_iff.mpr c28
                 subst c28
                 have H1 : (some 63) = some r := by rw [if_neg (show ¬ (false = true) by decide)] at H; exact H
                 clear H
                 have H := H1
                 clear H1
                 obtain rfl := Option.some.inj H
                 have hcz31_0 : wc.cell? ⟨gb330, 0, none⟩ = some (.string a0_0) := (blk_cell BK330.out 0).trans rfl
                 have hcz31_1 : wc.cell? ⟨gb330, 1, none⟩ = some (.slice (some ad331) l0_1.length c0_1) := (blk_cell BK330.out 1).trans rfl
                 have hfz31_0 := blk_frozen BK330.out 0
                 have hfz31_1 := blk_frozen BK330.out 1
                 obtain ⟨i032, hi032, _, hsz32, _⟩ := info_parts info9
                 obtain ⟨hcut32, hA32, hC32⟩ := print_take_of (P := Tryz.prog) Value.string (⟨#[]⟩ : ByteArray) 22 9 .i64 Tryz.underlying22 hi032 hsz32 (some ad331) c0_1 l0_1 x20_2 (of_decide_eq_true (by assumption)) (of_decide_eq_true (by assumption)) HC0_1.out
                 have HR336 := mk0 (Kd.C_of_reads (h1 := fun _ => rfl) (hA32 _ (Kd.reads_of_C HR0_1.out)))
                 have HC336 := mk0 hC32
                 clear hA32 hC32 hi032 hsz32
                 go_wp2_with (first | (go_at_call 44; refine calls_of_args (args' := #[.slice (some ad331) (l0_1.take (x20_2 : Int).toNat).length c0_1, .string t332]) (by have hq_ : x20_2 ≤ (l0_1.length : Int) := of_decide_eq_true (by assumption); rw [show (l0_1.take (x20_2 : Int).toNat).length = (x20_2 : Int).toNat from by rw [List.length_take]; omega]) ?_; (with_reducible refine (slices_Contains_string_string.calls kj53 _ _ (l0_1.take (x20_2 : Int).toNat) t332 false _ ?side1 ?side2 A27.out).mono ?_); (case side1 => repeat (first | exact (Kd.C_below HR336.out HB.out) | (with_reducible refine Kd.C_alloc ?_ _) | (with_reducible refine Kd.C_drewN ?_ _) | (with_reducible refine Kd.C_drew ?_))); (case side2 => exact HC336.out); rintro e w' ⟨rfl, ⟨nd, rfl⟩⟩))
                 go_ret
                 exact ⟨by first | rfl | (simp [errW_none, errW_some] <;> rfl) | (simp [*, errW_none, errW_some] <;> rfl), by repeat (first | (with_reducible first | exact HB.out | apply b_a | apply b_n | apply b_d | refine below_set ?_ GE330.out) | exact HB.out)⟩
               ·rw [if_neg c26] at H
                exact absurd H (by simp)
              ·rw [if_neg c25] at H
               exact absurd H (by simp)
         ·replace c13 := Bool.eq_false_iff.mpr c13
          subst c13
          have H1 : (some 60) = some r := by rw [if_neg (show ¬ (false = true) by decide)] at H; exact H
          clear H
          have H := H1
          clear H1
          obtain rfl := Option.some.inj H
          have p331 : 0 ≤ (x20_2 : Int) := of_decide_eq_true (by assumption)
          have q331 : x20_2 < (l0_1.length : Int) := of_decide_eq_true (by assumption)
          obtain ⟨ad331, e331, hx331_0⟩ := Kd.at_string HR0_1.out x20_2 p331 q331
          cases e331
          replace hx331_0 := (HB.out.cell (World.block_lt_of_cell? w _ hx331_0)).trans hx331_0
          replace p331 := eq_true p331
          replace q331 := eq_true q331
          go_wp2_with (first | ((with_reducible refine gate_callee (f := 22) rfl ?_); refine goesL_ (some 27) rfl rfl Tryz.func22 (by kernel_rfl) rfl #[.string (rdOf ByteArray.empty l0_1 x20_2)] rfl (by (try simp only [List.map_toArray, List.map_cons, List.map_nil]); first | done | rfl) ?_; (with_reducible refine (c_Parent.calls k2 (rdOf ByteArray.empty l0_1 x20_2) t332 false _ ?side1 A12.out).mono ?_); (case side1 => first | exact HG.out | exact GL.below HG.out (by repeat (with_reducible first | exact HB.out | apply b_a | apply b_n | apply b_d | refine below_set ?_ GE330.out))); rintro e w33 ⟨rfl, hb⟩; refine ⟨_, rfl, ?_⟩; have n0_ := mk0 (blk_below (g := gb330) (o := .cells #[.string a0_0, .slice (some ad331) l0_1.length c0_1] 24 (0, 0)) (by (with_reducible repeat (first | refine blk_drewN ?_ _ | refine blk_drew ?_ | refine blk_alloc ?_ _)); exact BK330.out) hb); have n1_ := mk0 (below_step (by repeat (with_reducible first | exact HB.out | apply b_a | apply b_n | apply b_d | refine below_set ?_ GE330.out)) hb); clear BK330; clear HB; have BK330 := n0_; have HB := n1_; clear n0_ n1_; (try clear hb)))
          go_ret
          exact ⟨by first | rfl | (simp [errW_none, errW_some] <;> rfl) | (simp [*, errW_none, errW_some] <;> rfl), by repeat (first | (with_reducible first | exact HB.out | apply b_a | apply b_n | apply b_d | refine below_set ?_ GE330.out) | exact HB.out)⟩
        ·rw [if_neg c11] at H
         exact absurd H (by simp)
       ·rw [if_neg c10] at H
        exact absurd H (by simp)
      ·rw [if_neg c9] at H
       have c9b0 : decide (x20_2 < (l0_1.length : Int)) = false := decide_eq_false c9
       clear c9
       obtain rfl := Option.some.inj H
       go_wp2
       go_ret
       exact ⟨by first | rfl | (simp [errW_none, errW_some] <;> rfl) | (simp [*, errW_none, errW_some] <;> rfl), by repeat (first | (with_reducible first | exact HB.out | apply b_a | apply b_n | apply b_d | refine below_set ?_ GE330.out) | exact HB.out)⟩

/-! ### c_has: function 28 -/
def c_has.f (k : Nat) (a0_0 : ByteArray) (l0_1 : List ByteArray) (a1 : ByteArray) : Option (Bool) := (c_Validate.f k a0_0 l0_1).bind fun t339 => (if t339 = 0 then (if a1.toList = ([] : List UInt8) then (some true) else ((slices_Contains_string_string.f k l0_1 a1).bind fun t340 => (some t340))) else (some false))
theorem c_has.mono : ∀ a0 a1 a2 k, LeO (c_has.f k a0 a1 a2) (c_has.f (k + 1) a0 a1 a2) := by
 intro a0 a1 a2 k
 unfold c_has.f
 repeat' first
   | (with_reducible exact c_Validate.mono _ _ _)
   | (with_reducible exact slices_Contains_string_string.mono _ _ _)
   | (with_reducible exact LeO.refl _)
   | (with_reducible exact LeO.none _)
   | (with_reducible refine LeO.ite ?_ ?_)
   | (with_reducible refine LeO.bind ?_ (fun _ => ?_))
set_option maxHeartbeats 8000000 in
set_option maxRecDepth 100000 in
theorem c_has.calls (k : Nat) (a0_0 : ByteArray) (A0_1 : Option Addr) (c0_1 : Nat) (l0_1 : List ByteArray) (a1 : ByteArray) (r : Bool) (w : World) (hr0_1 : Kd.C Kd.string w A0_1 l0_1.length l0_1) (hc0_1 : l0_1.length ≤ c0_1) (hG : GL w) (h : c_has.f k a0_0 l0_1 a1 = some r) :
  Calls Tryz.prog 28 #[.agg #[.string a0_0, .slice A0_1 l0_1.length c0_1], .string a1] w fun e w' => e = .returned (.bool r) ∧ Below w.heap.size w w' := by
 have HG := mk0 hG
 clear hG
 have hu24 := Tryz.underlying24
 have HR0_1 := mk0 hr0_1
 have HC0_1 := mk0 hc0_1
 clear hr0_1 hc0_1
 have HB := mk0 (Below.refl w.heap.size w)
 have H : ((c_Validate.f k a0_0 l0_1).bind fun t339 => (if t339 = 0 then (if a1.toList = ([] : List UInt8) then (some true) else ((slices_Contains_string_string.f k l0_1 a1).bind fun t340 => (some t340))) else (some false))) = some r := h
 clear h
 replace H := Option.bind_eq_some_iff.mp H
 obtain ⟨t339, A30, H⟩ := H
 replace H : (if t339 = 0 then (if a1.toList = ([] : List UInt8) then (some true) else ((slices_Contains_string_string.f k l0_1 a1).bind fun t340 => (some t340))) else (some false)) = some r := H
 have A3 := mk0 A30
 clear A30
 by_cases c4 : t339 = 0
 ·rw [if_pos c4] at H
  have c4b0 : (t339 == 0) = true := beq_iff_eq.mpr c4
  have c4b1 : (t339 != 0) = false := bne_eq_false_iff_eq.mpr c4
  clear c4
  by_cases c5 : a1.toList = ([] : List UInt8)
  ·rw [if_pos c5] at H
   have c5b0 : (a1.toList == ([] : List UInt8)) = true := beq_iff_eq.mpr c5
   have c5b1 : (a1.toList != ([] : List UInt8)) = false := bne_eq_false_iff_eq.mpr c5
   clear c5
   obtain rfl := Option.some.inj H
   go_enter Tryz.func28, Tryz.ntmps28
   go_wp2_with (first | ((with_reducible refine gate_dst (N := 2) rfl ?_); refine box_event ?hg (N := 2) ?hd (cs := #[.string a0_0, .slice A0_1 l0_1.length c0_1]) (t := 24) ?hr ?_; (case hd => rfl); (case hg => rfl); (case hr => first | (go_simp; done) | (go_simp; rfl)); intro gb338 hg w6 hbox hb; have n0_ := mk0 (below_step (by repeat (with_reducible first | exact HB.out | apply b_a | apply b_n | apply b_d)) hb); have n1_ := mk0 (hbox); have n2_ := mk0 ((by rw [hg]; exact (below_size (by repeat (with_reducible first | exact HB.out | apply b_a | apply b_n | apply b_d))) : w.heap.size ≤ gb338)); have n3_ := mk0 ((by rw [hg]; exact (below_size (by repeat (with_reducible first | exact HB.out | apply b_a | apply b_n | apply b_d))) : w.heap.size ≤ gb338)); clear HB; have HB := n0_; have BK338 := n1_; have GW338 := n2_; have GE338 := n3_; clear n0_ n1_ n2_ n3_; clear hb hbox hg; have hcz7_0 : w6.cell? ⟨gb338, 0, none⟩ = some (.string a0_0) := (blk_cell BK338.out 0).trans rfl; have hcz7_1 : w6.cell? ⟨gb338, 1, none⟩ = some (.slice A0_1 l0_1.length c0_1) := (blk_cell BK338.out 1).trans rfl; have hfz7_0 := blk_frozen BK338.out 0; have hfz7_1 := blk_frozen BK338.out 1) | ((with_reducible refine gate_callee (f := 43) rfl ?_); refine goesL_ (some 6) rfl rfl Tryz.func43 (by kernel_rfl) rfl #[.agg #[.string a0_0, .slice A0_1 l0_1.length c0_1]] rfl (by (try simp only [List.map_toArray, List.map_cons, List.map_nil]); first | done | rfl) ?_; (with_reducible refine (c_Validate.calls k a0_0 _ _ l0_1 t339 _ ?side1 ?side2 ?side3 A3.out).mono ?_); (case side1 => repeat (first | exact (Kd.C_below HR0_1.out HB.out) | (with_reducible refine Kd.C_alloc ?_ _) | (with_reducible refine Kd.C_drewN ?_ _) | (with_reducible refine Kd.C_drew ?_))); (case side2 => exact HC0_1.out); (case side3 => first | exact HG.out | exact GL.below HG.out (by repeat (with_reducible first | exact HB.out | apply b_a | apply b_n | apply b_d | refine below_set ?_ GE338.out))); rintro e w8 ⟨rfl, hb⟩; refine ⟨_, rfl, ?_⟩; have n0_ := mk0 (blk_below (g := gb338) (o := .cells #[.string a0_0, .slice A0_1 l0_1.length c0_1] 24 (0, 0)) (by (with_reducible repeat (first | refine blk_drewN ?_ _ | refine blk_drew ?_ | refine blk_alloc ?_ _)); exact BK338.out) hb); have n1_ := mk0 (below_step (by repeat (with_reducible first | exact HB.out | apply b_a | apply b_n | apply b_d | refine below_set ?_ GE338.out)) hb); clear BK338; clear HB; have BK338 := n0_; have HB := n1_; clear n0_ n1_; (try clear hb)))
   go_ret
   exact ⟨by first | rfl | (simp [errW_none, errW_some] <;> rfl) | (simp [*, errW_none, errW_some] <;> rfl), by repeat (first | (with_reducible first | exact HB.out | apply b_a | apply b_n | apply b_d | refine below_set ?_ GE338.out) | exact HB.out)⟩
  ·rw [if_neg c5] at H
   have c5b0 : (a1.toList == ([] : List UInt8)) = false := beq_eq_false_iff_ne.mpr c5
   have c5b1 : (a1.toList != ([] : List UInt8)) = true := bne_iff_ne.mpr c5
   replace H := Option.bind_eq_some_iff.mp H
   obtain ⟨t340, A90, H⟩ := H
   replace H : (some t340) = some r := H
   have A9 := mk0 A90
   clear A90
   obtain rfl := Option.some.inj H
   go_enter Tryz.func28, Tryz.ntmps28
   go_wp2_with (first | ((with_reducible refine gate_dst (N := 2) rfl ?_); refine box_event ?hg (N := 2) ?hd (cs := #[.string a0_0, .slice A0_1 l0_1.length c0_1]) (t := 24) ?hr ?_; (case hd => rfl); (case hg => rfl); (case hr => first | (go_simp; done) | (go_simp; rfl)); intro gb338 hg w10 hbox hb; have n0_ := mk0 (below_step (by repeat (with_reducible first | exact HB.out | apply b_a | apply b_n | apply b_d)) hb); have n1_ := mk0 (hbox); have n2_ := mk0 ((by rw [hg]; exact (below_size (by repeat (with_reducible first | exact HB.out | apply b_a | apply b_n | apply b_d))) : w.heap.size ≤ gb338)); have n3_ := mk0 ((by rw [hg]; exact (below_size (by repeat (with_reducible first | exact HB.out | apply b_a | apply b_n | apply b_d))) : w.heap.size ≤ gb338)); clear HB; have HB := n0_; have BK338 := n1_; have GW338 := n2_; have GE338 := n3_; clear n0_ n1_ n2_ n3_; clear hb hbox hg; have hcz11_0 : w10.cell? ⟨gb338, 0, none⟩ = some (.string a0_0) := (blk_cell BK338.out 0).trans rfl; have hcz11_1 : w10.cell? ⟨gb338, 1, none⟩ = some (.slice A0_1 l0_1.length c0_1) := (blk_cell BK338.out 1).trans rfl; have hfz11_0 := blk_frozen BK338.out 0; have hfz11_1 := blk_frozen BK338.out 1) | ((with_reducible refine gate_callee (f := 43) rfl ?_); refine goesL_ (some 6) rfl rfl Tryz.func43 (by kernel_rfl) rfl #[.agg #[.string a0_0, .slice A0_1 l0_1.length c0_1]] rfl (by (try simp only [List.map_toArray, List.map_cons, List.map_nil]); first | done | rfl) ?_; (with_reducible refine (c_Validate.calls k a0_0 _ _ l0_1 t339 _ ?side1 ?side2 ?side3 A3.out).mono ?_); (case side1 => repeat (first | exact (Kd.C_below HR0_1.out HB.out) | (with_reducible refine Kd.C_alloc ?_ _) | (with_reducible refine Kd.C_drewN ?_ _) | (with_reducible refine Kd.C_drew ?_))); (case side2 => exact HC0_1.out); (case side3 => first | exact HG.out | exact GL.below HG.out (by repeat (with_reducible first | exact HB.out | apply b_a | apply b_n | apply b_d | refine below_set ?_ GE338.out))); rintro e w12 ⟨rfl, hb⟩; refine ⟨_, rfl, ?_⟩; have n0_ := mk0 (blk_below (g := gb338) (o := .cells #[.string a0_0, .slice A0_1 l0_1.length c0_1] 24 (0, 0)) (by (with_reducible repeat (first | refine blk_drewN ?_ _ | refine blk_drew ?_ | refine blk_alloc ?_ _)); exact BK338.out) hb); have n1_ := mk0 (below_step (by repeat (with_reducible first | exact HB.out | apply b_a | apply b_n | apply b_d | refine below_set ?_ GE338.out)) hb); clear BK338; clear HB; have BK338 := n0_; have HB := n1_; clear n0_ n1_; (try clear hb); have hcz13_0 : w12.cell? ⟨gb338, 0, none⟩ = some (.string a0_0) := (blk_cell BK338.out 0).trans rfl; have hcz13_1 : w12.cell? ⟨gb338, 1, none⟩ = some (.slice A0_1 l0_1.length c0_1) := (blk_cell BK338.out 1).trans rfl; have hfz13_0 := blk_frozen BK338.out 0; have hfz13_1 := blk_frozen BK338.out 1) | (go_at_call 44; (with_reducible refine (slices_Contains_string_string.calls k _ _ l0_1 a1 t340 _ ?side1 ?side2 A9.out).mono ?_); (case side1 => repeat (first | exact (Kd.C_below HR0_1.out HB.out) | (with_reducible refine Kd.C_alloc ?_ _) | (with_reducible refine Kd.C_drewN ?_ _) | (with_reducible refine Kd.C_drew ?_))); (case side2 => exact HC0_1.out); rintro e w' ⟨rfl, ⟨nd, rfl⟩⟩))
   go_ret
   exact ⟨by first | rfl | (simp [errW_none, errW_some] <;> rfl) | (simp [*, errW_none, errW_some] <;> rfl), by repeat (first | (with_reducible first | exact HB.out | apply b_a | apply b_n | apply b_d | refine below_set ?_ GE338.out) | exact HB.out)⟩
 ·rw [if_neg c4] at H
  have c4b0 : (t339 == 0) = false := beq_eq_false_iff_ne.mpr c4
  have c4b1 : (t339 != 0) = true := bne_iff_ne.mpr c4
  obtain rfl := Option.some.inj H
  go_enter Tryz.func28, Tryz.ntmps28
  go_wp2_with (first | ((with_reducible refine gate_dst (N := 2) rfl ?_); refine box_event ?hg (N := 2) ?hd (cs := #[.string a0_0, .slice A0_1 l0_1.length c0_1]) (t := 24) ?hr ?_; (case hd => rfl); (case hg => rfl); (case hr => first | (go_simp; done) | (go_simp; rfl)); intro gb338 hg w14 hbox hb; have n0_ := mk0 (below_step (by repeat (with_reducible first | exact HB.out | apply b_a | apply b_n | apply b_d)) hb); have n1_ := mk0 (hbox); have n2_ := mk0 ((by rw [hg]; exact (below_size (by repeat (with_reducible first | exact HB.out | apply b_a | apply b_n | apply b_d))) : w.heap.size ≤ gb338)); have n3_ := mk0 ((by rw [hg]; exact (below_size (by repeat (with_reducible first | exact HB.out | apply b_a | apply b_n | apply b_d))) : w.heap.size ≤ gb338)); clear HB; have HB := n0_; have BK338 := n1_; have GW338 := n2_; have GE338 := n3_; clear n0_ n1_ n2_ n3_; clear hb hbox hg; have hcz15_0 : w14.cell? ⟨gb338, 0, none⟩ = some (.string a0_0) := (blk_cell BK338.out 0).trans rfl; have hcz15_1 : w14.cell? ⟨gb338, 1, none⟩ = some (.slice A0_1 l0_1.length c0_1) := (blk_cell BK338.out 1).trans rfl; have hfz15_0 := blk_frozen BK338.out 0; have hfz15_1 := blk_frozen BK338.out 1) | ((with_reducible refine gate_callee (f := 43) rfl ?_); refine goesL_ (some 6) rfl rfl Tryz.func43 (by kernel_rfl) rfl #[.agg #[.string a0_0, .slice A0_1 l0_1.length c0_1]] rfl (by (try simp only [List.map_toArray, List.map_cons, List.map_nil]); first | done | rfl) ?_; (with_reducible refine (c_Validate.calls k a0_0 _ _ l0_1 t339 _ ?side1 ?side2 ?side3 A3.out).mono ?_); (case side1 => repeat (first | exact (Kd.C_below HR0_1.out HB.out) | (with_reducible refine Kd.C_alloc ?_ _) | (with_reducible refine Kd.C_drewN ?_ _) | (with_reducible refine Kd.C_drew ?_))); (case side2 => exact HC0_1.out); (case side3 => first | exact HG.out | exact GL.below HG.out (by repeat (with_reducible first | exact HB.out | apply b_a | apply b_n | apply b_d | refine below_set ?_ GE338.out))); rintro e w16 ⟨rfl, hb⟩; refine ⟨_, rfl, ?_⟩; have n0_ := mk0 (blk_below (g := gb338) (o := .cells #[.string a0_0, .slice A0_1 l0_1.length c0_1] 24 (0, 0)) (by (with_reducible repeat (first | refine blk_drewN ?_ _ | refine blk_drew ?_ | refine blk_alloc ?_ _)); exact BK338.out) hb); have n1_ := mk0 (below_step (by repeat (with_reducible first | exact HB.out | apply b_a | apply b_n | apply b_d | refine below_set ?_ GE338.out)) hb); clear BK338; clear HB; have BK338 := n0_; have HB := n1_; clear n0_ n1_; (try clear hb)))
  go_ret
  exact ⟨by first | rfl | (simp [errW_none, errW_some] <;> rfl) | (simp [*, errW_none, errW_some] <;> rfl), by repeat (first | (with_reducible first | exact HB.out | apply b_a | apply b_n | apply b_d | refine below_set ?_ GE338.out) | exact HB.out)⟩

/-! ### c_chosen: function 16 -/
def c_chosen.l0 (p : ByteArray → Option Bool) : Nat → List ByteArray → List ByteArray → Int → Int → Option (List ByteArray)
 | 0, _, _, _, _ => none
 | k + 1, x7, x15, x16, x17 => if x17 < x16 then (if 0 ≤ x17 then (if x17 < (x15.length : Int) then ((p (rdOf ByteArray.empty x15 x17)).bind fun t344 => (if t344 = true then (if x7.length < 8796093022208 then (c_chosen.l0 p k (x7 ++ [rdOf ByteArray.empty x15 x17]) x15 x16 (wrap64 (x17 + 1))) else (none)) else (c_chosen.l0 p k x7 x15 x16 (wrap64 (x17 + 1))))) else (none)) else (none)) else (some x7)
def c_chosen.f (p : ByteArray → Option Bool) (k : Nat) (a0_0 : ByteArray) (l0_1 : List ByteArray) (a1 : ByteArray) : Option (List ByteArray) := (c_has.f k a0_0 l0_1 a1).bind fun t342 => (if t342 = true then (c_chosen.l0 p k ([] : List ByteArray) l0_1 (l0_1.length : Int) 0) else (some ([] : List ByteArray)))
theorem c_chosen.mono_l {p p' : ByteArray → Option Bool} (hpp : ∀ x, LeO (p x) (p' x)) : ∀ k, (∀ y0 y1 y2 y3, LeO (c_chosen.l0 p k y0 y1 y2 y3) (c_chosen.l0 p' (k + 1) y0 y1 y2 y3))
 | 0 => fun _ _ _ _ r h => by simp [c_chosen.l0] at h
 | k + 1 => by
  have ih0 := c_chosen.mono_l hpp k
  ·intro y0 y1 y2 y3
   unfold c_chosen.l0
   repeat' first
   | (with_reducible exact ih0 _ _ _ _)
   | (with_reducible exact hpp _)
   | (with_reducible exact LeO.refl _)
   | (with_reducible exact LeO.none _)
   | (with_reducible refine LeO.ite ?_ ?_)
   | (with_reducible refine LeO.bind ?_ (fun _ => ?_))
theorem c_chosen.mono {p p' : ByteArray → Option Bool} (hpp : ∀ x, LeO (p x) (p' x)) : ∀ a0 a1 a2 k, LeO (c_chosen.f p k a0 a1 a2) (c_chosen.f p' (k + 1) a0 a1 a2) := by
 intro a0 a1 a2 k
 have ih0 := c_chosen.mono_l hpp k
 unfold c_chosen.f
 repeat' first
   | (with_reducible exact ih0 _ _ _ _)
   | (with_reducible exact c_has.mono _ _ _ _)
   | (with_reducible exact LeO.refl _)
   | (with_reducible exact LeO.none _)
   | (with_reducible refine LeO.ite ?_ ?_)
   | (with_reducible refine LeO.bind ?_ (fun _ => ?_))
set_option maxHeartbeats 8000000 in
set_option maxRecDepth 100000 in
theorem c_chosen.calls (p : ByteArray → Option Bool) (fc : FuncId) (fn : Func) (lb : Array Value) (hfc : Tryz.prog.funcs[fc]? = some fn) (hname : (fn.name == "runtime.NumGoroutine") = false) (hbody : fn.body.isSome = true) (k : Nat) (a0_0 : ByteArray) (A0_1 : Option Addr) (c0_1 : Nat) (l0_1 : List ByteArray) (a1 : ByteArray) (r : List ByteArray) (w : World)
  (hp : ∀ x b W, Below w.heap.size w W → p x = some b → Calls Tryz.prog fc (#[.string x] ++ lb) W fun e W' => e = .returned (.bool b) ∧ Below W.heap.size W W') (hr0_1 : Kd.C Kd.string w A0_1 l0_1.length l0_1) (hc0_1 : l0_1.length ≤ c0_1) (hG : GL w) (h : c_chosen.f p k a0_0 l0_1 a1 = some r) :
  Calls Tryz.prog 16 #[.agg #[.string a0_0, .slice A0_1 l0_1.length c0_1], .string a1, .func (.func fc) #[] lb] w fun e w' => ∃ v0_ : Value, e = .returned (v0_) ∧ Kd.R Kd.string 9 w' w.heap.size (fun _ => True) v0_ r ∧ Below w.heap.size w w' := by
 have HG := mk0 hG
 clear hG
 have HP := mk0 hp
 have HFC := mk0 hfc
 have HNM := mk0 hname
 have HBD := mk0 hbody
 clear hp hfc hname hbody
 have hu24 := Tryz.underlying24
 have HR0_1 := mk0 hr0_1
 have HC0_1 := mk0 hc0_1
 clear hr0_1 hc0_1
 have HB := mk0 (Below.refl w.heap.size w)
 have H : ((c_has.f k a0_0 l0_1 a1).bind fun t342 => (if t342 = true then (c_chosen.l0 p k ([] : List ByteArray) l0_1 (l0_1.length : Int) 0) else (some ([] : List ByteArray)))) = some r := h
 clear h
 replace H := Option.bind_eq_some_iff.mp H
 obtain ⟨t342, A40, H⟩ := H
 replace H : (if t342 = true then (c_chosen.l0 p k ([] : List ByteArray) l0_1 (l0_1.length : Int) 0) else (some ([] : List ByteArray))) = some r := H
 have A4 := mk0 A40
 clear A40
 by_cases c5 : t342 = true
 ·subst c5
  have H1 : (c_chosen.l0 p k ([] : List ByteArray) l0_1 (l0_1.length : Int) 0) = some r := by rw [if_pos rfl] at H; exact H
  clear H
  have H := H1
  clear H1
  have H' := mk0 H
  clear H
  go_enter Tryz.func16, Tryz.ntmps16
  go_wp2_with (first | ((with_reducible refine gate_dst (N := 3) rfl ?_); refine box_event ?hg (N := 3) ?hd (cs := #[.string a0_0, .slice A0_1 l0_1.length c0_1]) (t := 24) ?hr ?_; (case hd => rfl); (case hg => rfl); (case hr => first | (go_simp; done) | (go_simp; rfl)); intro gb341 hg w6 hbox hb; have n0_ := mk0 (below_step (by repeat (with_reducible first | exact HB.out | apply b_a | apply b_n | apply b_d)) hb); have n1_ := mk0 (hbox); have n2_ := mk0 ((by rw [hg]; exact (below_size (by repeat (with_reducible first | exact HB.out | apply b_a | apply b_n | apply b_d))) : w.heap.size ≤ gb341)); have n3_ := mk0 ((by rw [hg]; exact (below_size (by repeat (with_reducible first | exact HB.out | apply b_a | apply b_n | apply b_d))) : w.heap.size ≤ gb341)); clear HB; have HB := n0_; have BK341 := n1_; have GW341 := n2_; have GE341 := n3_; clear n0_ n1_ n2_ n3_; clear hb hbox hg; have hcz7_0 : w6.cell? ⟨gb341, 0, none⟩ = some (.string a0_0) := (blk_cell BK341.out 0).trans rfl; have hcz7_1 : w6.cell? ⟨gb341, 1, none⟩ = some (.slice A0_1 l0_1.length c0_1) := (blk_cell BK341.out 1).trans rfl; have hfz7_0 := blk_frozen BK341.out 0; have hfz7_1 := blk_frozen BK341.out 1) | ((with_reducible refine gate_callee (f := 28) rfl ?_); refine goesL_ (some 12) rfl rfl Tryz.func28 (by kernel_rfl) rfl #[.agg #[.string a0_0, .slice A0_1 l0_1.length c0_1], .string a1] rfl (by (try simp only [List.map_toArray, List.map_cons, List.map_nil]); first | done | rfl) ?_; (with_reducible refine (c_has.calls k a0_0 _ _ l0_1 a1 true _ ?side1 ?side2 ?side3 A4.out).mono ?_); (case side1 => repeat (first | exact (Kd.C_below HR0_1.out HB.out) | (with_reducible refine Kd.C_alloc ?_ _) | (with_reducible refine Kd.C_drewN ?_ _) | (with_reducible refine Kd.C_drew ?_))); (case side2 => exact HC0_1.out); (case side3 => first | exact HG.out | exact GL.below HG.out (by repeat (with_reducible first | exact HB.out | apply b_a | apply b_n | apply b_d | refine below_set ?_ GE341.out))); rintro e w8 ⟨rfl, hb⟩; refine ⟨_, rfl, ?_⟩; have n0_ := mk0 (blk_below (g := gb341) (o := .cells #[.string a0_0, .slice A0_1 l0_1.length c0_1] 24 (0, 0)) (by (with_reducible repeat (first | refine blk_drewN ?_ _ | refine blk_drew ?_ | refine blk_alloc ?_ _)); exact BK341.out) hb); have n1_ := mk0 (below_step (by repeat (with_reducible first | exact HB.out | apply b_a | apply b_n | apply b_d | refine below_set ?_ GE341.out)) hb); clear BK341; clear HB; have BK341 := n0_; have HB := n1_; clear n0_ n1_; (try clear hb); have hcz9_0 : w8.cell? ⟨gb341, 0, none⟩ = some (.string a0_0) := (blk_cell BK341.out 0).trans rfl; have hcz9_1 : w8.cell? ⟨gb341, 1, none⟩ = some (.slice A0_1 l0_1.length c0_1) := (blk_cell BK341.out 1).trans rfl; have hfz9_0 := blk_frozen BK341.out 0; have hfz9_1 := blk_frozen BK341.out 1))
  go_loopg [7, 17] k (fun kq v7 v17 w' => ∃ (x7_1 : List ByteArray) (x17_1 : Int), v17 = .int .i64 x17_1 ∧ Aside0 (c_chosen.l0 p kq x7_1 l0_1 (l0_1.length : Int) x17_1 = some r) ∧ Aside0 (kq ≤ k) ∧ Aside0 (Kd.R Kd.string 9 w' w.heap.size (fun _ => True) v7 x7_1) ∧ Aside0 (w'.heap[gb341]? = some (.cells #[.string a0_0, (.slice A0_1 l0_1.length c0_1)] 24 (0, 0))) ∧ Aside0 (Below w.heap.size w w'))
  case atStart => exact ⟨(([] : List ByteArray)), (0), (by first | rfl | (simp; done) | (simp [*]; done)), H', ⟨Nat.le_refl _⟩, ⟨by first | exact Kd.R_nil _ _ _ _ _ | exact Kd.N_nil _ _ _ _ _ | exact Kd.V_nil _ _ _ _ _ | exact Kd.Q_nil _ _ _ _ _ | exact Kd.S_nil _ _ _ _ _⟩, ⟨by (with_reducible repeat (first | refine blk_drewN ?_ _ | refine blk_drew ?_ | refine blk_alloc ?_ _)); exact BK341.out⟩, ⟨by repeat (first | (with_reducible first | exact HB.out | apply b_a | apply b_n | apply b_d | refine below_set ?_ GE341.out) | exact HB.out)⟩⟩
  case round =>
   clear H'
   try clear c1
   try clear c2
   try clear p2
   try clear c5
   try clear hcz7_0
   try clear hcz7_1
   try clear hcz9_0
   try clear hcz9_1
   try clear hfz7_0
   try clear hfz7_1
   try clear hfz9_0
   try clear hfz9_1
   obtain ⟨x7_1, x17_1, rfl, HA, HK1, HO_7, BK341, HB⟩ := hrel
   cases gk with
   | zero => exact absurd HA.out (by simp [c_chosen.l0])
   | succ k1 =>
    have H := HA.out
    clear HA
    simp only [c_chosen.l0] at H
    by_cases c10 : x17_1 < (l0_1.length : Int)
    ·rw [if_pos c10] at H
     have c10b0 : decide (x17_1 < (l0_1.length : Int)) = true := decide_eq_true c10
     clear c10
     by_cases c11 : 0 ≤ x17_1
     ·rw [if_pos c11] at H
      have c11b0 : decide (0 ≤ x17_1) = true := decide_eq_true c11
      clear c11
      by_cases c12 : x17_1 < (l0_1.length : Int)
      ·rw [if_pos c12] at H
       have c12b0 : decide (x17_1 < (l0_1.length : Int)) = true := decide_eq_true c12
       clear c12
       replace H := Option.bind_eq_some_iff.mp H
       obtain ⟨t344, A130, H⟩ := H
       replace H : (if t344 = true then (if x7_1.length < 8796093022208 then (c_chosen.l0 p k1 (x7_1 ++ [rdOf ByteArray.empty l0_1 x17_1]) l0_1 (l0_1.length : Int) (wrap64 (x17_1 + 1))) else (none)) else (c_chosen.l0 p k1 x7_1 l0_1 (l0_1.length : Int) (wrap64 (x17_1 + 1)))) = some r := H
       have A13 := mk0 A130
       clear A130
       by_cases c14 : t344 = true
       ·subst c14
        have H1 : (if x7_1.length < 8796093022208 then (c_chosen.l0 p k1 (x7_1 ++ [rdOf ByteArray.empty l0_1 x17_1]) l0_1 (l0_1.length : Int) (wrap64 (x17_1 + 1))) else (none)) = some r := by rw [if_pos rfl] at H; exact H
        clear H
        have H := H1
        clear H1
        by_cases c15 : x7_1.length < 8796093022208
        ·rw [if_pos c15] at H
         have LMc15 := mk0 c15
         clear c15
         obtain ⟨y345, hy345⟩ : ∃ y_ : List ByteArray, y_ = (x7_1 ++ [rdOf ByteArray.empty l0_1 x17_1]) := ⟨_, rfl⟩
         replace H : (c_chosen.l0 p k1 y345 l0_1 (l0_1.length : Int) (wrap64 (x17_1 + 1))) = some r := by first | (rw [hy345]; with_reducible exact H) | (have H2_ := (Option.bind_some _ _).symm.trans H; rw [hy345]; with_reducible exact H2_) | (have H2_ := (Option.bind_some _ _).symm.trans H; with_reducible exact H2_) | with_reducible exact H | (rw [hy345]; exact H) | exact H
         have Ny345 := mk0 hy345
         clear hy345
         have H' := mk0 H
         clear H
         have p343 : 0 ≤ (x17_1 : Int) := of_decide_eq_true (by assumption)
         have q343 : x17_1 < (l0_1.length : Int) := of_decide_eq_true (by assumption)
         obtain ⟨ad343, e343, hx343_0⟩ := Kd.at_string HR0_1.out x17_1 p343 q343
         cases e343
         replace hx343_0 := (HB.out.cell (World.block_lt_of_cell? w _ hx343_0)).trans hx343_0
         replace p343 := eq_true p343
         replace q343 := eq_true q343
         go_wp2_with (first | ((with_reducible refine gate_calleeT rfl ?_); refine goesLC_ (some 23) rfl rfl HFC.out HNM.out HBD.out #[.string (rdOf ByteArray.empty l0_1 x17_1)] lb rfl rfl (by (try simp only [List.map_toArray, List.map_cons, List.map_nil]); first | done | rfl) ?_; (with_reducible refine (HP.out (rdOf ByteArray.empty l0_1 x17_1) true _ ?side0 A13.out).mono ?_); (case side0 => exact (by repeat (with_reducible first | exact HB.out | apply b_a | apply b_n | apply b_d | refine below_set ?_ GE341.out))); rintro e w16 ⟨rfl, hb⟩; refine ⟨_, rfl, ?_⟩; have n0_ := mk0 (Kd.R_below (by (with_reducible repeat (first | apply r_a | apply r_n | apply r_d)); exact HO_7.out) hb); have n1_ := mk0 (blk_below (g := gb341) (o := .cells #[.string a0_0, .slice (some ad343) l0_1.length c0_1] 24 (0, 0)) (by (with_reducible repeat (first | refine blk_drewN ?_ _ | refine blk_drew ?_ | refine blk_alloc ?_ _)); exact BK341.out) hb); have n2_ := mk0 (below_step (by repeat (with_reducible first | exact HB.out | apply b_a | apply b_n | apply b_d | refine below_set ?_ GE341.out)) hb); clear HO_7; clear BK341; clear HB; have HO_7 := n0_; have BK341 := n1_; have HB := n2_; clear n0_ n1_ n2_; (try clear hb)) | ((with_reducible refine gate_builtin (b := .append) (xs := #[.tmp 24, .tmp 26]) rfl ?_); at_builtin; refine Kd.R_append Kd.string (w0 := w) w.heap.size rfl (.tmp 24) (.tmp 26) 22 9 (.string ⟨#[]⟩) 16 rfl Tryz.underlying22 info9 rfl (by decide) (by omega) u7 x7_1 (rdOf ByteArray.empty l0_1 x17_1) [.string (rdOf ByteArray.empty l0_1 x17_1)] (fun _ => True) (fun _ => False) rfl rfl ?aP (fun _ hk => hk.elim) ?aF ?aO ?aB ?aS ?aL ?_; (case aP => exact rfl); (case aB => exact (by repeat (with_reducible first | exact HB.out | apply b_a | apply b_n | apply b_d | refine below_set ?_ GE341.out))); (case aF => exact (fun _ _ => trivial)); (case aO => exact (by (with_reducible repeat (first | apply r_a | apply r_n | apply r_d)); exact HO_7.out)); (case aS => exact (below_size (by repeat (with_reducible first | exact HB.out | apply b_a | apply b_n | apply b_d | refine below_set ?_ GE341.out)))); (case aL => have := LMc15.out; omega); intro v346 w17 ho hb hg hat; rw [← Ny345.out] at ho; have n0_ := mk0 (blk_grown (g := gb341) (o := .cells #[.string a0_0, .slice (some ad343) l0_1.length c0_1] 24 (0, 0)) (by (with_reducible repeat (first | refine blk_drewN ?_ _ | refine blk_drew ?_ | refine blk_alloc ?_ _)); exact BK341.out) hg (Kd.R_ne HO_7.out BK341.out (by decide))); have n1_ := mk0 (hb); have n2_ := mk0 (ho); clear BK341; clear HB; clear HO_7; have BK341 := n0_; have HB := n1_; have HO347 := n2_; clear n0_ n1_ n2_; clear ho hb hg hat))
         go_roundg k1
         case measure => have := HK1.out; omega
         case rel => exact ⟨(y345), (wrap64 (x17_1 + 1)), (by first | rfl | (simp; done) | (simp [*]; done)), H', ⟨by have := HK1.out; omega⟩, ⟨by (with_reducible repeat (first | apply r_a | apply r_n | apply r_d)); exact HO347.out⟩, ⟨by (with_reducible repeat (first | refine blk_drewN ?_ _ | refine blk_drew ?_ | refine blk_alloc ?_ _)); exact BK341.out⟩, ⟨by repeat (first | (with_reducible first | exact HB.out | apply b_a | apply b_n | apply b_d | refine below_set ?_ GE341.out) | exact HB.out)⟩⟩
        ·rw [if_neg c15] at H
         exact absurd H (by simp)
       ·replace c14 := Bool.eq_false_iff.mpr c14
        subst c14
        have H1 : (c_chosen.l0 p k1 x7_1 l0_1 (l0_1.length : Int) (wrap64 (x17_1 + 1))) = some r := by rw [if_neg (show ¬ (false = true) by decide)] at H; exact H
        clear H
        have H := H1
        clear H1
        have H' := mk0 H
        clear H
        have p343 : 0 ≤ (x17_1 : Int) := of_decide_eq_true (by assumption)
        have q343 : x17_1 < (l0_1.length : Int) := of_decide_eq_true (by assumption)
        obtain ⟨ad343, e343, hx343_0⟩ := Kd.at_string HR0_1.out x17_1 p343 q343
        cases e343
        replace hx343_0 := (HB.out.cell (World.block_lt_of_cell? w _ hx343_0)).trans hx343_0
        replace p343 := eq_true p343
        replace q343 := eq_true q343
        go_wp2_with (first | ((with_reducible refine gate_calleeT rfl ?_); refine goesLC_ (some 23) rfl rfl HFC.out HNM.out HBD.out #[.string (rdOf ByteArray.empty l0_1 x17_1)] lb rfl rfl (by (try simp only [List.map_toArray, List.map_cons, List.map_nil]); first | done | rfl) ?_; (with_reducible refine (HP.out (rdOf ByteArray.empty l0_1 x17_1) false _ ?side0 A13.out).mono ?_); (case side0 => exact (by repeat (with_reducible first | exact HB.out | apply b_a | apply b_n | apply b_d | refine below_set ?_ GE341.out))); rintro e w18 ⟨rfl, hb⟩; refine ⟨_, rfl, ?_⟩; have n0_ := mk0 (Kd.R_below (by (with_reducible repeat (first | apply r_a | apply r_n | apply r_d)); exact HO_7.out) hb); have n1_ := mk0 (blk_below (g := gb341) (o := .cells #[.string a0_0, .slice (some ad343) l0_1.length c0_1] 24 (0, 0)) (by (with_reducible repeat (first | refine blk_drewN ?_ _ | refine blk_drew ?_ | refine blk_alloc ?_ _)); exact BK341.out) hb); have n2_ := mk0 (below_step (by repeat (with_reducible first | exact HB.out | apply b_a | apply b_n | apply b_d | refine below_set ?_ GE341.out)) hb); clear HO_7; clear BK341; clear HB; have HO_7 := n0_; have BK341 := n1_; have HB := n2_; clear n0_ n1_ n2_; (try clear hb)))
        go_roundg k1
        case measure => have := HK1.out; omega
        case rel => exact ⟨(x7_1), (wrap64 (x17_1 + 1)), (by first | rfl | (simp; done) | (simp [*]; done)), H', ⟨by have := HK1.out; omega⟩, ⟨by (with_reducible repeat (first | apply r_a | apply r_n | apply r_d)); exact HO_7.out⟩, ⟨by (with_reducible repeat (first | refine blk_drewN ?_ _ | refine blk_drew ?_ | refine blk_alloc ?_ _)); exact BK341.out⟩, ⟨by repeat (first | (with_reducible first | exact HB.out | apply b_a | apply b_n | apply b_d | refine below_set ?_ GE341.out) | exact HB.out)⟩⟩
      ·rw [if_neg c12] at H
       exact absurd H (by simp)
     ·rw [if_neg c11] at H
      exact absurd H (by simp)
    ·rw [if_neg c10] at H
     have c10b0 : decide (x17_1 < (l0_1.length : Int)) = false := decide_eq_false c10
     clear c10
     obtain rfl := Option.some.inj H
     go_wp2
     go_ret
     exact ⟨_, by first | rfl | (simp [errW_none, errW_some] <;> rfl) | (simp [*, errW_none, errW_some] <;> rfl), by (with_reducible repeat (first | apply r_a | apply r_n | apply r_d)); exact HO_7.out, by repeat (first | (with_reducible first | exact HB.out | apply b_a | apply b_n | apply b_d | refine below_set ?_ GE341.out) | exact HB.out)⟩
 ·replace c5 := Bool.eq_false_iff.mpr c5
  subst c5
  have H1 : (some ([] : List ByteArray)) = some r := by rw [if_neg (show ¬ (false = true) by decide)] at H; exact H
  clear H
  have H := H1
  clear H1
  obtain rfl := Option.some.inj H
  go_enter Tryz.func16, Tryz.ntmps16
  go_wp2_with (first | ((with_reducible refine gate_dst (N := 3) rfl ?_); refine box_event ?hg (N := 3) ?hd (cs := #[.string a0_0, .slice A0_1 l0_1.length c0_1]) (t := 24) ?hr ?_; (case hd => rfl); (case hg => rfl); (case hr => first | (go_simp; done) | (go_simp; rfl)); intro gb341 hg w19 hbox hb; have n0_ := mk0 (below_step (by repeat (with_reducible first | exact HB.out | apply b_a | apply b_n | apply b_d)) hb); have n1_ := mk0 (hbox); have n2_ := mk0 ((by rw [hg]; exact (below_size (by repeat (with_reducible first | exact HB.out | apply b_a | apply b_n | apply b_d))) : w.heap.size ≤ gb341)); have n3_ := mk0 ((by rw [hg]; exact (below_size (by repeat (with_reducible first | exact HB.out | apply b_a | apply b_n | apply b_d))) : w.heap.size ≤ gb341)); clear HB; have HB := n0_; have BK341 := n1_; have GW341 := n2_; have GE341 := n3_; clear n0_ n1_ n2_ n3_; clear hb hbox hg; have hcz20_0 : w19.cell? ⟨gb341, 0, none⟩ = some (.string a0_0) := (blk_cell BK341.out 0).trans rfl; have hcz20_1 : w19.cell? ⟨gb341, 1, none⟩ = some (.slice A0_1 l0_1.length c0_1) := (blk_cell BK341.out 1).trans rfl; have hfz20_0 := blk_frozen BK341.out 0; have hfz20_1 := blk_frozen BK341.out 1) | ((with_reducible refine gate_callee (f := 28) rfl ?_); refine goesL_ (some 12) rfl rfl Tryz.func28 (by kernel_rfl) rfl #[.agg #[.string a0_0, .slice A0_1 l0_1.length c0_1], .string a1] rfl (by (try simp only [List.map_toArray, List.map_cons, List.map_nil]); first | done | rfl) ?_; (with_reducible refine (c_has.calls k a0_0 _ _ l0_1 a1 false _ ?side1 ?side2 ?side3 A4.out).mono ?_); (case side1 => repeat (first | exact (Kd.C_below HR0_1.out HB.out) | (with_reducible refine Kd.C_alloc ?_ _) | (with_reducible refine Kd.C_drewN ?_ _) | (with_reducible refine Kd.C_drew ?_))); (case side2 => exact HC0_1.out); (case side3 => first | exact HG.out | exact GL.below HG.out (by repeat (with_reducible first | exact HB.out | apply b_a | apply b_n | apply b_d | refine below_set ?_ GE341.out))); rintro e w21 ⟨rfl, hb⟩; refine ⟨_, rfl, ?_⟩; have n0_ := mk0 (blk_below (g := gb341) (o := .cells #[.string a0_0, .slice A0_1 l0_1.length c0_1] 24 (0, 0)) (by (with_reducible repeat (first | refine blk_drewN ?_ _ | refine blk_drew ?_ | refine blk_alloc ?_ _)); exact BK341.out) hb); have n1_ := mk0 (below_step (by repeat (with_reducible first | exact HB.out | apply b_a | apply b_n | apply b_d | refine below_set ?_ GE341.out)) hb); clear BK341; clear HB; have BK341 := n0_; have HB := n1_; clear n0_ n1_; (try clear hb)))
  go_ret
  exact ⟨_, by first | rfl | (simp [errW_none, errW_some] <;> rfl) | (simp [*, errW_none, errW_some] <;> rfl), by first | exact Kd.R_nil _ _ _ _ _ | exact Kd.N_nil _ _ _ _ _ | exact Kd.V_nil _ _ _ _ _ | exact Kd.Q_nil _ _ _ _ _ | exact Kd.S_nil _ _ _ _ _, by repeat (first | (with_reducible first | exact HB.out | apply b_a | apply b_n | apply b_d | refine below_set ?_ GE341.out) | exact HB.out)⟩

/-! ### stringslite_HasPrefix: function 45 -/
def stringslite_HasPrefix.f (a0 : ByteArray) (a1 : ByteArray) : Option (Bool) := if (a0.size : Int) ≥ (a1.size : Int) then (if 0 ≤ (a1.size : Int) then (if (a1.size : Int) ≤ (a0.size : Int) then (some ((a0.extract 0 ((a1.size : Int) : Int).toNat).toList == a1.toList)) else (none)) else (none)) else (some false)
set_option maxHeartbeats 8000000 in
set_option maxRecDepth 100000 in
theorem stringslite_HasPrefix.calls (a0 : ByteArray) (a1 : ByteArray) (r : Bool) (w : World) (h : stringslite_HasPrefix.f a0 a1 = some r) :
  Calls Tryz.prog 45 #[.string a0, .string a1] w fun e w' => e = .returned (.bool r) ∧ Drawn0 w w' := by
 have H : (if (a0.size : Int) ≥ (a1.size : Int) then (if 0 ≤ (a1.size : Int) then (if (a1.size : Int) ≤ (a0.size : Int) then (some ((a0.extract 0 ((a1.size : Int) : Int).toNat).toList == a1.toList)) else (none)) else (none)) else (some false)) = some r := h
 clear h
 by_cases c3 : (a0.size : Int) ≥ (a1.size : Int)
 ·rw [if_pos c3] at H
  have c3b0 : decide ((a1.size : Int) ≤ (a0.size : Int)) = true := decide_eq_true c3
  have c3b1 : decide (a1.size ≤ a0.size) = true := decide_eq_true (Int.ofNat_le.mp c3)
  clear c3
  by_cases c4 : 0 ≤ (a1.size : Int)
  ·rw [if_pos c4] at H
   have c4b0 := eq_true c4
   have c4b1 : decide (0 ≤ (a1.size : Int)) = true := decide_eq_true c4
   clear c4
   by_cases c5 : (a1.size : Int) ≤ (a0.size : Int)
   ·rw [if_pos c5] at H
    have c5b0 := eq_true c5
    have c5b1 : decide ((a1.size : Int) ≤ (a0.size : Int)) = true := decide_eq_true c5
    clear c5
    obtain rfl := Option.some.inj H
    go_enter Tryz.func45, Tryz.ntmps45
    go_wp2
    go_ret
    exact ⟨by first | rfl | (simp; done) | (simp [*]; done), by repeat (first | exact Drawn0.refl _ | apply Drawn0.step)⟩
   ·rw [if_neg c5] at H
    exact absurd H (by simp)
  ·rw [if_neg c4] at H
   exact absurd H (by simp)
 ·rw [if_neg c3] at H
  have c3b0 : decide ((a1.size : Int) ≤ (a0.size : Int)) = false := decide_eq_false c3
  have c3b1 : decide (a1.size ≤ a0.size) = false := decide_eq_false (fun h => c3 (Int.ofNat_le.mpr h))
  clear c3
  obtain rfl := Option.some.inj H
  go_enter Tryz.func45, Tryz.ntmps45
  go_wp2
  go_ret
  exact ⟨by first | rfl | (simp; done) | (simp [*]; done), by repeat (first | exact Drawn0.refl _ | apply Drawn0.step)⟩

/-! ### strings_HasPrefix: function 30 -/
def strings_HasPrefix.f (a0 : ByteArray) (a1 : ByteArray) : Option (Bool) := (stringslite_HasPrefix.f a0 a1).bind fun t348 => (some t348)
set_option maxHeartbeats 8000000 in
set_option maxRecDepth 100000 in
theorem strings_HasPrefix.calls (a0 : ByteArray) (a1 : ByteArray) (r : Bool) (w : World) (h : strings_HasPrefix.f a0 a1 = some r) :
  Calls Tryz.prog 30 #[.string a0, .string a1] w fun e w' => e = .returned (.bool r) ∧ Drawn0 w w' := by
 have H : ((stringslite_HasPrefix.f a0 a1).bind fun t348 => (some t348)) = some r := h
 clear h
 replace H := Option.bind_eq_some_iff.mp H
 obtain ⟨t348, A30, H⟩ := H
 replace H : (some t348) = some r := H
 have A3 := mk0 A30
 clear A30
 obtain rfl := Option.some.inj H
 go_enter Tryz.func30, Tryz.ntmps30
 go_wp2_with (first | ((with_reducible refine gate_callee (f := 45) rfl ?_); refine goesL_ (some 7) rfl rfl Tryz.func45 (by kernel_rfl) rfl #[.string a0, .string a1] rfl (by (try simp only [List.map_toArray, List.map_cons, List.map_nil]); first | done | rfl) ?_; (with_reducible refine (stringslite_HasPrefix.calls a0 a1 t348 _ A3.out).mono ?_); rintro e w' ⟨rfl, ⟨nd, rfl⟩⟩; refine ⟨_, rfl, ?_⟩))
 go_ret
 exact ⟨by first | rfl | (simp; done) | (simp [*]; done), by repeat (first | exact Drawn0.refl _ | apply Drawn0.step)⟩

end Go.Proofs.YtpnoliognpmkmaaGreatDoor.P
