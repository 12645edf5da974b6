/- The contracts of the calendar's sets of holidays (a map that the call makes) and of 'works'. -/
import Derived.Test.YtpbkdbicdimfhaaDoorVMore
import Derived.Test.YtpbkdbicdimfhaaDoorProg
import Derived.WalkKit
import Derived.WalkSpells
import Derived.WalkLawsBesides
import Derived.Lib.Hide
import Derived.Maps.Own
import Derived.Maps.OwnOps
import Derived.Maps.Views
namespace Go.Proofs.YtpbkdbicdimfhaaDoor
open Go.RowKit Go.Maps Go.Proofs.YtpbkdbicdimfhaaDoorW.PrintWords
set_option linter.unusedVariables false

theorem keyI : Keyed Tryd.prog 3 := int_keyed Tryd.underlying3
theorem zeroBool (w : World) : (zeroValue 4).run Tryd.prog w = .ok (.bool false) w := by kernel_rfl

theorem elem_bool_inv {H : Type} {P : Program} {e : TypeId} (he : P.underlying e = some .bool) {v : Value} {z : DataW H × List MemPlace} (h : plainElem P e v = some z) : ∃ x, v = .bool x ∧ z = (.lit (.bool x), []) := by
  unfold plainElem at h
  rw [he] at h
  cases v <;> simp at h
  exact ⟨_, rfl, h.symm⟩
theorem ret_bool {a b : Bool} (h : a = b) : Ending.returned (.bool a) = .returned (.bool b) := by rw [h]
/-- Block b is a map that tells of each number whether it is among l. -/
def IsSet (w : World) (b : Nat) (l : List Int) : Prop :=
  ∃ (n : Nat) (D : DataW Unit), n ≤ l.length ∧ w.ownsMap Tryd.prog 3 (plainElem Tryd.prog 4) b n D ∧ IsMap D ∧ ∀ x : Int, (Lit.int .i64 x).wf = true → D.atKey (.int .i64 x) (.lit (.bool false)) = .lit (.bool (l.contains x))
theorem IsSet.made (w : World) : IsSet (w.alloc (.map #[] 0)) w.heap.size [] :=
  ⟨0, .map [], Nat.le_refl _, World.ownsMap_made _ _ _ _, isMap_empty, fun x _ => rfl⟩
theorem IsSet.lt {w : World} {b : Nat} {l : List Int} (h : IsSet w b l) : b < w.heap.size := by
  obtain ⟨n, D, _, ho, _⟩ := h
  exact ho.lt
theorem IsSet.below {w w1 : World} {b : Nat} {l : List Int} (h : IsSet w b l) (hb : Below w.heap.size w w1) : IsSet w1 b l := by
  have hlt := h.lt
  obtain ⟨n, D, hn, ⟨es, clock, hh, F, hs, hD⟩, hm, ha⟩ := h
  exact ⟨n, D, hn, ⟨es, clock, (hb.block b hlt).trans hh, F, hs, hD⟩, hm, ha⟩
theorem int_key_lit (x : Int) : WideAt.IsKeyLit (.int .i64 x) := by trivial
theorem IsSet.put {w1 : World} {b n : Nat} {l : List Int} {D : DataW Unit} (hn : n ≤ l.length) (hm : IsMap D) (ha : ∀ x : Int, (Lit.int .i64 x).wf = true → D.atKey (.int .i64 x) (.lit (.bool false)) = .lit (.bool (l.contains x)))
    {y : Int} (ho : w1.ownsMap Tryd.prog 3 (plainElem Tryd.prog 4) b (n + 1) (D.put (.int .i64 y) (.lit (.bool true)))) : IsSet w1 b (l ++ [y]) := by
  refine ⟨n + 1, _, by simpa using hn, ho, hm.put _ _, fun x hx => ?_⟩
  by_cases e : x = y
  · subst e
    rw [atKey_put_same hm (int_key_lit x)]
    simp
  · rw [atKey_put_other (by simpa using e), ha x hx]
    simp [e]
theorem IsSet.look {w : World} {b : Nat} {l : List Int} (h : IsSet w b l) (x : Int) (hx : (Lit.int .i64 x).wf = true) : (Instr.lookup 56 (.map (some b)) (.int .i64 x) false).run Tryd.prog w = .ok (.bool (l.contains x)) w := by
  obtain ⟨n, D, _, ho, _, ha⟩ := h
  obtain ⟨v, ps, hrun, hv⟩ := ho.lookup keyI Tryd.underlying56 (zeroBool w) (plainElem_bool Tryd.underlying4 false) (keyOf_int_mk Tryd.underlying3 hx)
  rw [ha x hx] at hv
  obtain ⟨b', rfl, e⟩ := elem_bool_inv Tryd.underlying4 hv
  simp only [Prod.mk.injEq, DataW.lit.injEq, Lit.bool.injEq] at e
  rw [hrun, e.1]

def SetPost (w : World) (l : List Int) (e : Ending) (w' : World) : Prop := ∃ b, e = .returned (.map (some b)) ∧ IsSet w' b l ∧ w.heap.size ≤ b ∧ Below w.heap.size w w'
def SetRel (w : World) (B : Nat) (l : List Int) (i : Value) (wr : World) : Prop := ∃ k : Nat, k ≤ l.length ∧ i = .int .i64 k ∧ IsSet wr B (l.take k) ∧ Below B w wr

set_option maxHeartbeats 1000000 in
theorem set_any (A : Option Addr) (c : Nat) (l : List Int) (w : World) (hr : Kd.C (Kd.int .i64) w A l.length l) (hl : l.length ≤ 281474976710656) (hw : ∀ x ∈ l, (Lit.int .i64 x).wf = true) :
    Calls Tryd.prog 53 #[.slice A l.length c] w (SetPost w l) := by
  have hmm := @run_makeMap Tryd.prog
  have HR := Lib.hid hr
  have HW := Lib.hid hw
  clear hr hw
  go_enter Tryd.func53, Tryd.ntmps53
  go_wp2
  go_loopw [9] (fun i wr => SetRel w w.heap.size l i wr) (fun i _ => l.length - (intOf i).toNat)
  case atStart => exact ⟨0, Nat.zero_le _, rfl, IsSet.made w, (Below.refl _ _).alloc (Nat.le_refl _) _⟩
  case round =>
    obtain ⟨k, hk, rfl, hs, hb⟩ := hrel
    by_cases hlt : k < l.length
    · obtain ⟨ad, rfl, hx⟩ := Kd.at_int HR.out (k : Int) (by omega) (by omega)
      have hc : wr.cell? (ad.add k) = some (.int .i64 l[k]) := by
        have h1 := pw_cell_below hb hx
        have e : rd l (k : Int) = l[k] := by
          unfold rd
          simp [List.getD_eq_getElem?_getD, hlt]
        rw [e] at h1
        exact h1
      have hwf := HW.out _ (List.getElem_mem hlt)
      obtain ⟨n, D, hn, hown, hm, hat⟩ := hs
      have hkey := keyOf_int_mk Tryd.underlying3 hwf
      have hval := plainElem_bool (H := Unit) Tryd.underlying4 true
      have hnl : (l.take k).length = k := by rw [List.length_take]; omega
      have HM := Lib.hid hm
      have HA := Lib.hid hat
      have HN := Lib.hid hnl
      have HD := Lib.hid hn
      have HK := Lib.hid hkey
      have HV := Lib.hid hval
      have HB := Lib.hid hb
      have hn2 : n < maxLen := by unfold maxLen; omega
      generalize hlk : l[k] = x at *
      have HX := Lib.hid hlk
      clear hm hat hnl hn hkey hval hlk hb
      go_wp2_with (at_mapUpdate; refine wpList_mapUpdate_own _ rfl _ _ _ 56 rfl 3 4 keyI Tryd.underlying56 _ w.heap.size n D rfl hown hn2 _ _ (.int .i64 x) rfl rfl HK.out (.lit (.bool true)) [] HV.out ?_; intro w1 hown1 hgrow1)
      go_roundw
      case rel =>
        refine ⟨k + 1, by omega, by go_num, ?_, HB.out.grown hgrow1 (HB.out.size) (fun g e => by injection e with e; omega)⟩
        have ht : l.take (k + 1) = l.take k ++ [x] := by rw [List.take_succ_eq_append_getElem hlt, HX.out]
        rw [ht]
        exact IsSet.put HD.out HM.out HA.out hown1
      case measure => simp [intOf]; omega
    · go_wp2
      go_ret
      have hkl : k = l.length := by omega
      subst hkl
      rw [List.take_length] at hs
      exact ⟨w.heap.size, rfl, hs, Nat.le_refl _, hb⟩

set_option maxHeartbeats 400000 in
theorem works_any (d : Int) (b : Nat) (l : List Int) (w : World) (h0 : 0 ≤ d) (h1 : d ≤ 182620) (hs : IsSet w b l) :
    Calls Tryd.prog 52 #[.int .i64 d, .map (some b)] w fun e w' => e = .returned (.bool (decide (d % 7 < 5) && !l.contains d)) ∧ w = w' := by
  have hlook := hs.look d (WalkArith.wf_i64 (by omega))
  clear hs
  by_cases hd : d % 7 < 5
  · go_enter Tryd.func52, Tryd.ntmps52
    go_wp2
    go_ret
    exact ⟨ret_bool (by simp [hd]), rfl⟩
  · go_enter Tryd.func52, Tryd.ntmps52
    go_wp2
    go_ret
    exact ⟨ret_bool (by rw [decide_eq_false (show ¬ d % 7 < 5 by omega)]; rfl), rfl⟩

theorem valid_yes (d : Int) (w : World) (h0 : 0 ≤ d) (h1 : d ≤ 182620) : Calls Tryd.prog 51 #[.int .i64 d] w fun e w' => e = .returned (.bool true) ∧ w = w' := by
  go_enter Tryd.func51, Tryd.ntmps51
  go_wp2
  go_ret
  exact ⟨rfl, rfl⟩
theorem valid_no (d : Int) (w : World) (h : d < 0 ∨ 182620 < d) : Calls Tryd.prog 51 #[.int .i64 d] w fun e w' => e = .returned (.bool false) ∧ w = w' := by
  rcases h with h | h
  · go_enter Tryd.func51, Tryd.ntmps51
    go_wp2
    go_ret
    exact ⟨rfl, rfl⟩
  · have h0 : 0 ≤ d := by omega
    go_enter Tryd.func51, Tryd.ntmps51
    go_wp2
    go_ret
    exact ⟨ret_bool (decide_eq_false (by omega)), rfl⟩

/-- a business day -/
def biz (l : List Int) (d : Int) : Bool := decide (d % 7 < 5) && !l.contains d
def inCal (d : Int) : Bool := decide (0 ≤ d ∧ d ≤ 182620)

set_option maxHeartbeats 400000 in
theorem business_any (d : Int) (A : Option Addr) (c : Nat) (l : List Int) (w : World) (hr : Kd.C (Kd.int .i64) w A l.length l) (hl : l.length ≤ 281474976710656) (hw : ∀ x ∈ l, (Lit.int .i64 x).wf = true) :
    Calls Tryd.prog 21 #[.int .i64 d, .slice A l.length c] w fun e w' => e = .returned (.bool (inCal d && biz l d)) ∧ Below w.heap.size w w' := by
  have HR := Lib.hid hr
  have HW := Lib.hid hw
  clear hr hw
  by_cases h : 0 ≤ d ∧ d ≤ 182620
  · obtain ⟨h0, h1⟩ := h
    go_enter Tryd.func21, Tryd.ntmps21
    go_wp2_with (first | (go_at_call 51; (with_reducible refine (valid_yes _ _ h0 h1).mono ?_); rintro e w' ⟨rfl, rfl⟩) | (go_at_call 53; (with_reducible refine (set_any _ _ _ _ HR.out hl HW.out).mono ?_); rintro e w1 ⟨b, rfl, hs1, hb1, hbw1⟩) | (go_at_call 52; (with_reducible refine (works_any _ _ _ _ h0 h1 hs1).mono ?_); rintro e w' ⟨rfl, rfl⟩))
    go_ret
    exact ⟨ret_bool (by simp [inCal, biz, h0, h1]), hbw1⟩
  · have h2 : d < 0 ∨ 182620 < d := by omega
    go_enter Tryd.func21, Tryd.ntmps21
    go_wp2_with (go_at_call 51; (with_reducible refine (valid_no _ _ h2).mono ?_); rintro e w' ⟨rfl, rfl⟩)
    go_ret
    exact ⟨ret_bool (by unfold inCal; rw [decide_eq_false h]; rfl), Below.refl _ _⟩

/-! ### Shift -/
/-- from day d on, r business days in steps; n: the days that are left -/
def shiftL (l : List Int) (step : Int) : Nat → Int → Int → Int × Int
  | 0, _, _ => (0, 53)
  | n + 1, d, r => if 0 < r then (if 0 ≤ d + step ∧ d + step ≤ 182620 then (if biz l (d + step) = true then shiftL l step n (d + step) (r - 1) else shiftL l step n (d + step) r) else (0, 53)) else (d, 0)
def left (step d : Int) : Nat := if step = 1 then (182622 - d).toNat else (d + 2).toNat
def shiftM (l : List Int) (step d r : Int) : Int × Int := shiftL l step (left step d) d r
theorem left_step {step d : Int} (hs : step = 1 ∨ step = -1) (h0 : -1 ≤ d) (h1 : d ≤ 182620) : ∃ n, left step d = n + 1 ∧ (0 ≤ d + step → d + step ≤ 182620 → left step (d + step) = n) := by
  refine ⟨left step d - 1, ?_, fun h2 h3 => ?_⟩
  · unfold left; split <;> omega
  · unfold left; split <;> omega
theorem shiftM_done {l : List Int} {step d r : Int} (hs : step = 1 ∨ step = -1) (h0 : -1 ≤ d) (h1 : d ≤ 182620) (hr : r ≤ 0) : shiftM l step d r = (d, 0) := by
  obtain ⟨n, hn, _⟩ := left_step hs h0 h1
  unfold shiftM; rw [hn, shiftL, if_neg (by omega)]
theorem shiftM_out {l : List Int} {step d r : Int} (hs : step = 1 ∨ step = -1) (h0 : -1 ≤ d) (h1 : d ≤ 182620) (hr : 0 < r) (h : d + step < 0 ∨ 182620 < d + step) : shiftM l step d r = (0, 53) := by
  obtain ⟨n, hn, _⟩ := left_step hs h0 h1
  unfold shiftM; rw [hn, shiftL, if_pos hr, if_neg (by omega)]
theorem shiftM_biz {l : List Int} {step d r : Int} (hs : step = 1 ∨ step = -1) (h0 : -1 ≤ d) (h1 : d ≤ 182620) (hr : 0 < r) (h2 : 0 ≤ d + step) (h3 : d + step ≤ 182620) (hb : biz l (d + step) = true) : shiftM l step d r = shiftM l step (d + step) (r - 1) := by
  obtain ⟨n, hn, hn2⟩ := left_step hs h0 h1
  unfold shiftM; rw [hn, shiftL, if_pos hr, if_pos ⟨h2, h3⟩, if_pos hb, hn2 h2 h3]
theorem shiftM_off {l : List Int} {step d r : Int} (hs : step = 1 ∨ step = -1) (h0 : -1 ≤ d) (h1 : d ≤ 182620) (hr : 0 < r) (h2 : 0 ≤ d + step) (h3 : d + step ≤ 182620) (hb : biz l (d + step) = false) : shiftM l step d r = shiftM l step (d + step) r := by
  obtain ⟨n, hn, hn2⟩ := left_step hs h0 h1
  unfold shiftM; rw [hn, shiftL, if_pos hr, if_pos ⟨h2, h3⟩, if_neg (by simp [hb]), hn2 h2 h3]
def shift (d k : Int) (l : List Int) : Int × Int :=
  if inCal d = true then (if k < -1000 ∨ 1000 < k then (0, 51) else if 400 < l.length then (0, 52) else if k < 0 then shiftM l (-1) d (-k) else if k = 0 then shiftM l 1 (d - 1) 1 else shiftM l 1 d k) else (0, 50)

theorem stP : (1 : Int) = 1 ∨ (1 : Int) = -1 := .inl rfl
theorem stN : (-1 : Int) = 1 ∨ (-1 : Int) = -1 := .inr rfl
def ShiftPost (w : World) (r : Int × Int) (e : Ending) (w' : World) : Prop := e = .returned (.tuple #[.int .i64 r.1, .int .i64 r.2]) ∧ Below w.heap.size w w'
def ShiftRel (w : World) (l : List Int) (b : Nat) (step : Int) (res : Int × Int) (dv rv : Value) (wr : World) : Prop :=
  ∃ d r : Int, dv = .int .i64 d ∧ rv = .int .i64 r ∧ -1 ≤ d ∧ d ≤ 182620 ∧ 0 ≤ r ∧ r ≤ 1000 ∧ shiftM l step d r = res ∧ IsSet wr b l ∧ Below w.heap.size w wr

set_option maxHeartbeats 2000000 in
theorem shift_neg (d k : Int) (A : Option Addr) (c : Nat) (l : List Int) (w : World) (h0 : 0 ≤ d) (h1 : d ≤ 182620) (k0 : -1000 ≤ k) (k1 : k ≤ 1000) (hk : k < 0) (hl : l.length ≤ 400) (hr : Kd.C (Kd.int .i64) w A l.length l) (hw : ∀ x ∈ l, (Lit.int .i64 x).wf = true) :
    Calls Tryd.prog 37 #[.int .i64 d, .int .i64 k, .slice A l.length c] w (ShiftPost w (shiftM l (-1) (d) (-k))) := by
  have HR := Lib.hid hr
  have HW := Lib.hid hw
  have hl2 : l.length ≤ 281474976710656 := by omega
  have hl3 : decide (400 < l.length) = false := by simp; omega
  clear hr hw
  go_enter Tryd.func37, Tryd.ntmps37
  go_wp2_with (first | (go_at_call 51; (with_reducible refine (valid_yes _ _ h0 h1).mono ?_); rintro e w' ⟨rfl, rfl⟩) | (go_at_call 53; (with_reducible refine (set_any _ _ _ _ HR.out hl2 HW.out).mono ?_); rintro e w1 ⟨b, rfl, hs1, hb1, hbw1⟩))
  have HS := Lib.hid hs1
  have HB := Lib.hid hbw1
  clear hs1 hbw1 hb1
  go_loopw [0, 10] (fun dv rv wr => ShiftRel w l b (-1) (shiftM l (-1) (d) (-k)) dv rv wr) (fun dv _ _ => left (-1) (intOf dv))
  case atStart => exact ⟨d, -k, rfl, rfl, by omega, by omega, by omega, by omega, rfl, HS.out, HB.out⟩
  case round =>
    obtain ⟨d1, r1, rfl, rfl, d10, d11, r10, r11, hsh, hset, hbw⟩ := hrel
    have HS2 := Lib.hid hset
    have HB2 := Lib.hid hbw
    have HH := Lib.hid hsh
    clear hset hbw hsh HS HB
    by_cases hr0 : 0 < r1
    · by_cases hin : 0 ≤ d1 + -1 ∧ d1 + -1 ≤ 182620
      · obtain ⟨hi0, hi1⟩ := hin
        have hlf := (left_step stN d10 d11)
        have HL := Lib.hid hlf
        clear hlf
        cases hbz : biz l (d1 + -1) with
        | true =>
          have hbz2 : (decide ((d1 + -1) % 7 < 5) && !l.contains (d1 + -1)) = true := hbz
          have HZ := Lib.hid hbz
          have HZ2 := Lib.hid hbz2
          clear hbz hbz2
          go_wp2_with (first | (go_at_call 51; (with_reducible refine (valid_yes _ _ hi0 hi1).mono ?_); rintro e w' ⟨rfl, rfl⟩) | (go_at_call 52; (with_reducible refine (works_any _ _ _ _ hi0 hi1 HS2.out).mono ?_); rw [HZ2.out]; rintro e w' ⟨rfl, rfl⟩))
          go_roundw
          case rel => exact ⟨d1 + -1, r1 - 1, rfl, rfl, by omega, by omega, by omega, by omega, by rw [← shiftM_biz stN d10 d11 hr0 hi0 hi1 HZ.out]; exact HH.out, HS2.out, HB2.out⟩
          case measure =>
            obtain ⟨n, e1, e2⟩ := HL.out
            have e3 := e2 hi0 hi1
            simp [intOf]
            omega
        | false =>
          have hbz2 : (decide ((d1 + -1) % 7 < 5) && !l.contains (d1 + -1)) = false := hbz
          have HZ := Lib.hid hbz
          have HZ2 := Lib.hid hbz2
          clear hbz hbz2
          go_wp2_with (first | (go_at_call 51; (with_reducible refine (valid_yes _ _ hi0 hi1).mono ?_); rintro e w' ⟨rfl, rfl⟩) | (go_at_call 52; (with_reducible refine (works_any _ _ _ _ hi0 hi1 HS2.out).mono ?_); rw [HZ2.out]; rintro e w' ⟨rfl, rfl⟩))
          go_roundw
          case rel => exact ⟨d1 + -1, r1, rfl, rfl, by omega, by omega, by omega, by omega, by rw [← shiftM_off stN d10 d11 hr0 hi0 hi1 HZ.out]; exact HH.out, HS2.out, HB2.out⟩
          case measure =>
            obtain ⟨n, e1, e2⟩ := HL.out
            have e3 := e2 hi0 hi1
            simp [intOf]
            omega
      · have hout : d1 + -1 < 0 ∨ 182620 < d1 + -1 := by omega
        have HF := Lib.hid (shiftM_out (l := l) stN d10 d11 hr0 hout)
        clear hin
        go_wp2_with (go_at_call 51; (with_reducible refine (valid_no _ _ hout).mono ?_); rintro e w' ⟨rfl, rfl⟩)
        go_ret2
        exact ⟨by rw [← HH.out, HF.out]; rfl, HB2.out⟩
    · have HF := Lib.hid (shiftM_done (l := l) stN d10 d11 (r := r1) (by omega))
      go_wp2
      go_ret2
      exact ⟨by rw [← HH.out, HF.out]; rfl, HB2.out⟩

set_option maxHeartbeats 2000000 in
theorem shift_zero (d k : Int) (A : Option Addr) (c : Nat) (l : List Int) (w : World) (h0 : 0 ≤ d) (h1 : d ≤ 182620) (k0 : -1000 ≤ k) (k1 : k ≤ 1000) (hk : k = 0) (hl : l.length ≤ 400) (hr : Kd.C (Kd.int .i64) w A l.length l) (hw : ∀ x ∈ l, (Lit.int .i64 x).wf = true) :
    Calls Tryd.prog 37 #[.int .i64 d, .int .i64 k, .slice A l.length c] w (ShiftPost w (shiftM l (1) (d - 1) (1))) := by
  have HR := Lib.hid hr
  have HW := Lib.hid hw
  have hl2 : l.length ≤ 281474976710656 := by omega
  have hl3 : decide (400 < l.length) = false := by simp; omega
  subst hk
  clear hr hw
  go_enter Tryd.func37, Tryd.ntmps37
  go_wp2_with (first | (go_at_call 51; (with_reducible refine (valid_yes _ _ h0 h1).mono ?_); rintro e w' ⟨rfl, rfl⟩) | (go_at_call 53; (with_reducible refine (set_any _ _ _ _ HR.out hl2 HW.out).mono ?_); rintro e w1 ⟨b, rfl, hs1, hb1, hbw1⟩))
  have HS := Lib.hid hs1
  have HB := Lib.hid hbw1
  clear hs1 hbw1 hb1
  go_loopw [0, 10] (fun dv rv wr => ShiftRel w l b (1) (shiftM l (1) (d - 1) (1)) dv rv wr) (fun dv _ _ => left (1) (intOf dv))
  case atStart => exact ⟨d - 1, 1, rfl, rfl, by omega, by omega, by omega, by omega, rfl, HS.out, HB.out⟩
  case round =>
    obtain ⟨d1, r1, rfl, rfl, d10, d11, r10, r11, hsh, hset, hbw⟩ := hrel
    have HS2 := Lib.hid hset
    have HB2 := Lib.hid hbw
    have HH := Lib.hid hsh
    clear hset hbw hsh HS HB
    by_cases hr0 : 0 < r1
    · by_cases hin : 0 ≤ d1 + 1 ∧ d1 + 1 ≤ 182620
      · obtain ⟨hi0, hi1⟩ := hin
        have hlf := (left_step stP d10 d11)
        have HL := Lib.hid hlf
        clear hlf
        cases hbz : biz l (d1 + 1) with
        | true =>
          have hbz2 : (decide ((d1 + 1) % 7 < 5) && !l.contains (d1 + 1)) = true := hbz
          have HZ := Lib.hid hbz
          have HZ2 := Lib.hid hbz2
          clear hbz hbz2
          go_wp2_with (first | (go_at_call 51; (with_reducible refine (valid_yes _ _ hi0 hi1).mono ?_); rintro e w' ⟨rfl, rfl⟩) | (go_at_call 52; (with_reducible refine (works_any _ _ _ _ hi0 hi1 HS2.out).mono ?_); rw [HZ2.out]; rintro e w' ⟨rfl, rfl⟩))
          go_roundw
          case rel => exact ⟨d1 + 1, r1 - 1, rfl, rfl, by omega, by omega, by omega, by omega, by rw [← shiftM_biz stP d10 d11 hr0 hi0 hi1 HZ.out]; exact HH.out, HS2.out, HB2.out⟩
          case measure =>
            obtain ⟨n, e1, e2⟩ := HL.out
            have e3 := e2 hi0 hi1
            simp [intOf]
            omega
        | false =>
          have hbz2 : (decide ((d1 + 1) % 7 < 5) && !l.contains (d1 + 1)) = false := hbz
          have HZ := Lib.hid hbz
          have HZ2 := Lib.hid hbz2
          clear hbz hbz2
          go_wp2_with (first | (go_at_call 51; (with_reducible refine (valid_yes _ _ hi0 hi1).mono ?_); rintro e w' ⟨rfl, rfl⟩) | (go_at_call 52; (with_reducible refine (works_any _ _ _ _ hi0 hi1 HS2.out).mono ?_); rw [HZ2.out]; rintro e w' ⟨rfl, rfl⟩))
          go_roundw
          case rel => exact ⟨d1 + 1, r1, rfl, rfl, by omega, by omega, by omega, by omega, by rw [← shiftM_off stP d10 d11 hr0 hi0 hi1 HZ.out]; exact HH.out, HS2.out, HB2.out⟩
          case measure =>
            obtain ⟨n, e1, e2⟩ := HL.out
            have e3 := e2 hi0 hi1
            simp [intOf]
            omega
      · have hout : d1 + 1 < 0 ∨ 182620 < d1 + 1 := by omega
        have HF := Lib.hid (shiftM_out (l := l) stP d10 d11 hr0 hout)
        clear hin
        go_wp2_with (go_at_call 51; (with_reducible refine (valid_no _ _ hout).mono ?_); rintro e w' ⟨rfl, rfl⟩)
        go_ret2
        exact ⟨by rw [← HH.out, HF.out]; rfl, HB2.out⟩
    · have HF := Lib.hid (shiftM_done (l := l) stP d10 d11 (r := r1) (by omega))
      go_wp2
      go_ret2
      exact ⟨by rw [← HH.out, HF.out]; rfl, HB2.out⟩

set_option maxHeartbeats 2000000 in
theorem shift_pos (d k : Int) (A : Option Addr) (c : Nat) (l : List Int) (w : World) (h0 : 0 ≤ d) (h1 : d ≤ 182620) (k0 : -1000 ≤ k) (k1 : k ≤ 1000) (hk : 0 < k) (hl : l.length ≤ 400) (hr : Kd.C (Kd.int .i64) w A l.length l) (hw : ∀ x ∈ l, (Lit.int .i64 x).wf = true) :
    Calls Tryd.prog 37 #[.int .i64 d, .int .i64 k, .slice A l.length c] w (ShiftPost w (shiftM l (1) (d) (k))) := by
  have HR := Lib.hid hr
  have HW := Lib.hid hw
  have hl2 : l.length ≤ 281474976710656 := by omega
  have hl3 : decide (400 < l.length) = false := by simp; omega
  have hk0 : (k == 0) = false := by simp; omega
  clear hr hw
  go_enter Tryd.func37, Tryd.ntmps37
  go_wp2_with (first | (go_at_call 51; (with_reducible refine (valid_yes _ _ h0 h1).mono ?_); rintro e w' ⟨rfl, rfl⟩) | (go_at_call 53; (with_reducible refine (set_any _ _ _ _ HR.out hl2 HW.out).mono ?_); rintro e w1 ⟨b, rfl, hs1, hb1, hbw1⟩))
  have HS := Lib.hid hs1
  have HB := Lib.hid hbw1
  clear hs1 hbw1 hb1
  go_loopw [0, 10] (fun dv rv wr => ShiftRel w l b (1) (shiftM l (1) (d) (k)) dv rv wr) (fun dv _ _ => left (1) (intOf dv))
  case atStart => exact ⟨d, k, rfl, rfl, by omega, by omega, by omega, by omega, rfl, HS.out, HB.out⟩
  case round =>
    obtain ⟨d1, r1, rfl, rfl, d10, d11, r10, r11, hsh, hset, hbw⟩ := hrel
    have HS2 := Lib.hid hset
    have HB2 := Lib.hid hbw
    have HH := Lib.hid hsh
    clear hset hbw hsh HS HB
    by_cases hr0 : 0 < r1
    · by_cases hin : 0 ≤ d1 + 1 ∧ d1 + 1 ≤ 182620
      · obtain ⟨hi0, hi1⟩ := hin
        have hlf := (left_step stP d10 d11)
        have HL := Lib.hid hlf
        clear hlf
        cases hbz : biz l (d1 + 1) with
        | true =>
          have hbz2 : (decide ((d1 + 1) % 7 < 5) && !l.contains (d1 + 1)) = true := hbz
          have HZ := Lib.hid hbz
          have HZ2 := Lib.hid hbz2
          clear hbz hbz2
          go_wp2_with (first | (go_at_call 51; (with_reducible refine (valid_yes _ _ hi0 hi1).mono ?_); rintro e w' ⟨rfl, rfl⟩) | (go_at_call 52; (with_reducible refine (works_any _ _ _ _ hi0 hi1 HS2.out).mono ?_); rw [HZ2.out]; rintro e w' ⟨rfl, rfl⟩))
          go_roundw
          case rel => exact ⟨d1 + 1, r1 - 1, rfl, rfl, by omega, by omega, by omega, by omega, by rw [← shiftM_biz stP d10 d11 hr0 hi0 hi1 HZ.out]; exact HH.out, HS2.out, HB2.out⟩
          case measure =>
            obtain ⟨n, e1, e2⟩ := HL.out
            have e3 := e2 hi0 hi1
            simp [intOf]
            omega
        | false =>
          have hbz2 : (decide ((d1 + 1) % 7 < 5) && !l.contains (d1 + 1)) = false := hbz
          have HZ := Lib.hid hbz
          have HZ2 := Lib.hid hbz2
          clear hbz hbz2
          go_wp2_with (first | (go_at_call 51; (with_reducible refine (valid_yes _ _ hi0 hi1).mono ?_); rintro e w' ⟨rfl, rfl⟩) | (go_at_call 52; (with_reducible refine (works_any _ _ _ _ hi0 hi1 HS2.out).mono ?_); rw [HZ2.out]; rintro e w' ⟨rfl, rfl⟩))
          go_roundw
          case rel => exact ⟨d1 + 1, r1, rfl, rfl, by omega, by omega, by omega, by omega, by rw [← shiftM_off stP d10 d11 hr0 hi0 hi1 HZ.out]; exact HH.out, HS2.out, HB2.out⟩
          case measure =>
            obtain ⟨n, e1, e2⟩ := HL.out
            have e3 := e2 hi0 hi1
            simp [intOf]
            omega
      · have hout : d1 + 1 < 0 ∨ 182620 < d1 + 1 := by omega
        have HF := Lib.hid (shiftM_out (l := l) stP d10 d11 hr0 hout)
        clear hin
        go_wp2_with (go_at_call 51; (with_reducible refine (valid_no _ _ hout).mono ?_); rintro e w' ⟨rfl, rfl⟩)
        go_ret2
        exact ⟨by rw [← HH.out, HF.out]; rfl, HB2.out⟩
    · have HF := Lib.hid (shiftM_done (l := l) stP d10 d11 (r := r1) (by omega))
      go_wp2
      go_ret2
      exact ⟨by rw [← HH.out, HF.out]; rfl, HB2.out⟩
end Go.Proofs.YtpbkdbicdimfhaaDoor
