/- Lean functions with the same answers as the program's Go functions, and for each the proof that the call comes to these answers; written by a program of mine out of the translation, the functions marked 'by hand' by me. -/
import Derived.Test.YtpnoliognpmkmaaGreatDoorP0
import Derived.Test.YtpnoliognpmkmaaGreatDoorP10
import Derived.Test.YtpnoliognpmkmaaGreatDoorP11
namespace Go.Proofs.YtpnoliognpmkmaaGreatDoor.P
open Go.RowKit Go.Proofs.YtpnoliognpmkmaaGreatDoorW.PrintWords Go.Proofs.YtpnoliognpmkmaaGreatDoorW.PrintLast Go.Proofs.YtpnoliognpmkmaaGreatDoorW.PrintMore
attribute [local go_sem] max2_int min2_int max_two min_two max_three min_three max_four min_four   -- for this text's walks alone
set_option linter.unusedVariables false
set_option linter.unusedSimpArgs false

/-! ### c_Children: function 8 (by hand) -/

section
open Go.RowKit Go.Proofs.YtpnoliognpmkmaaGreatDoorW.PrintWords Go.Proofs.YtpnoliognpmkmaaGreatDoorW.PrintLast Go.Proofs.YtpnoliognpmkmaaGreatDoorW.PrintMore
def c_ChildIn.f (k : Nat) (u x : ByteArray) : Option Bool := (c_Within.f k x u).bind fun t => if t = true then (c_Level.f k x).bind fun a => (c_Level.f k u).bind fun b => some (a == IntKind.i64.wrap (b + 1)) else some false
theorem c_ChildIn.mono (u : ByteArray) (k : Nat) (x : ByteArray) : LeO (c_ChildIn.f k u x) (c_ChildIn.f (k + 1) u x) := by
 unfold c_ChildIn.f
 refine LeO.bind (c_Within.mono _ _ _) fun t => LeO.ite (LeO.bind (c_Level.mono _ _) fun a => LeO.bind (c_Level.mono _ _) fun b => LeO.refl _) (LeO.refl _)
theorem first_below {A : Prop} {w w' : World} (h : A ∧ Below w.heap.size w w') : Below w.heap.size w w' := h.2
set_option maxRecDepth 100000 in
set_option maxHeartbeats 4000000 in
theorem c_ChildIn.calls (k : Nat) (u x : ByteArray) (r : Bool) (B : Nat) (w : World) (hG : GL w) (hB : w.cell? ⟨B, 0, none⟩ = some (.string u)) (h : c_ChildIn.f k u x = some r) :
  Calls Tryz.prog 17 #[.string x, .pointer (some ⟨B, 0, none⟩)] w fun e w' => e = .returned (.bool r) ∧ Below w.heap.size w w' := by
 obtain ⟨t, ht, h⟩ := Option.bind_eq_some_iff.1 h
 have HT := Lib.hid ht
 clear ht
 cases t with
 | true =>
  rw [if_pos rfl] at h
  obtain ⟨a, ha, h⟩ := Option.bind_eq_some_iff.1 h
  obtain ⟨b, hb, h⟩ := Option.bind_eq_some_iff.1 h
  obtain rfl := Option.some.inj h
  have HA := Lib.hid ha
  have HB := Lib.hid hb
  clear ha hb h
  have hS0 : Below w.heap.size w w := Below.refl _ _
  go_enter Tryz.func17, Tryz.ntmps17
  go_wp2
  go_region_held3 (fun w' => w'.cell? ⟨B, 0, none⟩ = some (.string u) ∧ Below w.heap.size w w') (refine And.intro ?_ ?_ <;> first | assumption | exact b_d (by assumption) | exact pw_cell_below (b_d (Below.refl _ _)) (by assumption) | exact pw_cell_below (by assumption) (And.left (by assumption)) | exact below_step (And.right (by assumption)) (by assumption) | exact pw_cell_below (by assumption) (by assumption) | exact below_step (by assumption) (by assumption) | (trace_state; fail))
   (first | (go_at_call 18; refine (c_Within.calls k x u true _ (hG.below (first_below (by assumption))) HT.out).mono ?_; rintro e w' ⟨rfl, hb'⟩) | (go_at_call_of 19 (Value.string x); refine (c_Level.calls k x a _ (hG.below (first_below (by assumption))) HA.out).mono ?_; rintro e w' ⟨rfl, hb'⟩) | (go_at_call_of 19 (Value.string u); refine (c_Level.calls k u b _ (hG.below (first_below (by assumption))) HB.out).mono ?_; rintro e w' ⟨rfl, hb'⟩))
  have hBe := first_below (by assumption)
  go_wp2
  go_ret
  exact ⟨rfl, hBe⟩
 | false =>
  rw [if_neg (by decide)] at h
  obtain rfl := Option.some.inj h
  clear h
  go_enter Tryz.func17, Tryz.ntmps17
  go_wp2
  refine wp_region_held_drew (S := fun w' => w'.cell? ⟨B, 0, none⟩ = some (.string u) ∧ Below w.heap.size w w') (by kernel_rfl) ⟨hB, b_d (Below.refl _ _)⟩ (fun hH => ?_)
  refine wpAnyH_take (i := 0) (v := .string x) rfl (by kernel_rfl) (by kernel_rfl) (by kernel_rfl) (fun _ _ _ h => h) (Or.inl ⟨by rfl, fun w _ => rfl⟩) hH ?_
  simp only [Act.put, List.setIfInBounds_toArray, List.set_cons_zero, List.set_cons_succ]
  refine wpAnyH_take (i := 1) (v := .string u) rfl (by kernel_rfl) (by kernel_rfl) (by kernel_rfl) (fun _ _ _ h => h) (Or.inl ⟨by rfl, fun w hSw => by (have hSc := hSw.1; clear hSw; go_simp)⟩) hH ?_
  simp only [Act.put, List.setIfInBounds_toArray, List.set_cons_zero, List.set_cons_succ]
  refine wpAnyH_ready (rs := [2]) (by kernel_rfl) (by simp) ?_
  refine AllReadyH.cons (o := _) rfl (fun K hK => ?_) AllReadyH.nil
  go_simp
  go_at_call 18
  refine (c_Within.calls k x u false _ (hG.below hH.2) HT.out).mono ?_
  rintro e w' ⟨rfl, hb'⟩
  refine hK.out _ _ ⟨pw_cell_below hb' hH.1, below_step hH.2 hb'⟩ (fun hH => ?_)
  clear hK K
  refine wpAnyH_take (i := 3) (oi := { dst := some 7, op := .move (.tmp 6), type := 4, pos := _, after := _, guard := none }) (v := .bool false) rfl (by kernel_rfl) (by kernel_rfl) (by kernel_rfl) (fun _ _ _ h => h) (Or.inl ⟨by rfl, fun w _ => rfl⟩) hH ?_
  simp only [Act.put, List.setIfInBounds_toArray, List.set_cons_zero, List.set_cons_succ]
  refine wpAnyH_take (i := 4) (oi := { dst := some 8, op := .move (.tmp 0), type := 9, pos := _, after := _, guard := some (3, true) }) (v := undef) rfl (by kernel_rfl) (by kernel_rfl) (by kernel_rfl) (fun _ _ _ h => h) (Or.inr ⟨by rfl, rfl⟩) hH ?_
  simp only [Act.put, List.setIfInBounds_toArray, List.set_cons_zero, List.set_cons_succ]
  refine wpAnyH_take (i := 5) (oi := { dst := some 9, op := .call { callee := .value (.func 19), args := #[.tmp 8], argTypes := #[9] }, type := 3, pos := _, after := _, guard := some (3, true) }) (v := undef) rfl (by kernel_rfl) (by kernel_rfl) (by kernel_rfl) (fun _ _ _ h => h) (Or.inr ⟨by rfl, rfl⟩) hH ?_
  simp only [Act.put, List.setIfInBounds_toArray, List.set_cons_zero, List.set_cons_succ]
  refine wpAnyH_take (i := 6) (oi := { dst := some 10, op := .load 9 (.tmp 1), type := 9, pos := _, after := _, guard := some (3, true) }) (v := undef) rfl (by kernel_rfl) (by kernel_rfl) (by kernel_rfl) (fun _ _ _ h => h) (Or.inr ⟨by rfl, rfl⟩) hH ?_
  simp only [Act.put, List.setIfInBounds_toArray, List.set_cons_zero, List.set_cons_succ]
  refine wpAnyH_take (i := 7) (oi := { dst := some 11, op := .call { callee := .value (.func 19), args := #[.tmp 10], argTypes := #[9] }, type := 3, pos := _, after := _, guard := some (3, true) }) (v := undef) rfl (by kernel_rfl) (by kernel_rfl) (by kernel_rfl) (fun _ _ _ h => h) (Or.inr ⟨by rfl, rfl⟩) hH ?_
  simp only [Act.put, List.setIfInBounds_toArray, List.set_cons_zero, List.set_cons_succ]
  refine wpAnyH_take (i := 8) (oi := { dst := some 12, op := .binOp .add 3 (.tmp 11) (.const (.int .i64 1)) 3, type := 3, pos := _, after := _, guard := some (3, true) }) (v := undef) rfl (by kernel_rfl) (by kernel_rfl) (by kernel_rfl) (fun _ _ _ h => h) (Or.inr ⟨by rfl, rfl⟩) hH ?_
  simp only [Act.put, List.setIfInBounds_toArray, List.set_cons_zero, List.set_cons_succ]
  refine wpAnyH_take (i := 9) (oi := { dst := some 13, op := .binOp .eql 3 (.tmp 9) (.tmp 12) 3, type := 4, pos := _, after := _, guard := some (3, true) }) (v := undef) rfl (by kernel_rfl) (by kernel_rfl) (by kernel_rfl) (fun _ _ _ h => h) (Or.inr ⟨by rfl, rfl⟩) hH ?_
  simp only [Act.put, List.setIfInBounds_toArray, List.set_cons_zero, List.set_cons_succ]
  refine wpAnyH_take (i := 10) (oi := { dst := some 14, op := .pick (.tmp 7) (.tmp 13) (.const (.bool false)), type := 4, pos := _, after := _, guard := none }) (v := .bool false) rfl (by kernel_rfl) (by kernel_rfl) (by kernel_rfl) (fun _ _ _ h => h) (Or.inl ⟨by rfl, fun w _ => rfl⟩) hH ?_
  simp only [Act.put, List.setIfInBounds_toArray, List.set_cons_zero, List.set_cons_succ]
  refine wpAnyH_take (i := 11) (oi := { dst := some 3, op := .assign (.tmp 14), type := 4, pos := _, after := _, guard := none }) (v := .bool false) rfl (by kernel_rfl) (by kernel_rfl) (by kernel_rfl) (fun _ _ _ h => h) (Or.inl ⟨by rfl, fun w _ => rfl⟩) hH ?_
  simp only [Act.put, List.setIfInBounds_toArray, List.set_cons_zero, List.set_cons_succ]
  refine wpAnyH_done (by kernel_rfl) ?_ _
  have hBe := hH.2
  go_wp2
  go_ret
  exact ⟨rfl, hBe⟩
theorem ChildFn.name : (Tryz.f17.name == "runtime.NumGoroutine") = false := by kernel_rfl
def c_Children.f (k : Nat) (a0_0 : ByteArray) (l0_1 : List ByteArray) (a1 : ByteArray) : Option (List ByteArray) := c_chosen.f (c_ChildIn.f k a1) k a0_0 l0_1 a1
theorem c_Children.mono (a0 : ByteArray) (a1 : List ByteArray) (a2 : ByteArray) (k : Nat) : LeO (c_Children.f k a0 a1 a2) (c_Children.f (k + 1) a0 a1 a2) := c_chosen.mono (fun x => c_ChildIn.mono a2 k x) _ _ _ _
set_option maxRecDepth 100000 in
set_option maxHeartbeats 4000000 in
theorem c_Children.calls (k : Nat) (a0_0 : ByteArray) (A0_1 : Option Addr) (c0_1 : Nat) (l0_1 : List ByteArray) (a1 : ByteArray) (r : List ByteArray) (w : World) (hr0_1 : Kd.C Kd.string w A0_1 l0_1.length l0_1) (hc0_1 : l0_1.length ≤ c0_1) (hG : GL w) (h : c_Children.f k a0_0 l0_1 a1 = some r) :
  Calls Tryz.prog 8 #[.agg #[.string a0_0, .slice A0_1 l0_1.length c0_1], .string a1] w fun e w' => ∃ v0_ : Value, e = .returned (v0_) ∧ Kd.R Kd.string 9 w' w.heap.size (fun _ => True) v0_ r ∧ Below w.heap.size w w' := by
 have hu28 := Tryz.underlying24
 have HR := Lib.hid hr0_1
 have HC := Lib.hid hc0_1
 have H := Lib.hid h
 clear hr0_1 hc0_1 h
 go_enter Tryz.func8, Tryz.ntmps8
 have hB2 : Below w.heap.size w ((w.alloc (.cells #[.string a0_0, .slice A0_1 l0_1.length c0_1] 24)).alloc (.cells #[.string a1] 9)) := ((Below.refl _ w).alloc (Nat.le_refl _) _).alloc (by simp) _
 have HB2 := Lib.hid hB2
 have HCell : Hid (((w.alloc (.cells #[.string a0_0, .slice A0_1 l0_1.length c0_1] 24)).alloc (.cells #[.string a1] 9)).cell? ⟨w.heap.size + 1, 0, none⟩ = some (.string a1)) := Lib.hid (by simp)
 clear hB2
 go_wp2_with (go_at_call 16; refine (c_chosen.calls (c_ChildIn.f k a1) 17 Tryz.f17 #[.pointer (some ⟨w.heap.size + 1, 0, none⟩)] Tryz.func17 ChildFn.name rfl k a0_0 A0_1 c0_1 l0_1 a1 r _ (fun x b W hBW hx => c_ChildIn.calls k a1 x b (w.heap.size + 1) W (hG.below (below_step HB2.out hBW)) (pw_cell_below hBW HCell.out) hx) (Kd.C_below HR.out HB2.out) HC.out (hG.below HB2.out) H.out).mono ?_; rintro e w' ⟨v0, rfl, hR, hB⟩)
 go_ret
 exact ⟨v0, rfl, Kd.R_lower hR (by simp; omega), below_step HB2.out hB⟩
end

end Go.Proofs.YtpnoliognpmkmaaGreatDoor.P
