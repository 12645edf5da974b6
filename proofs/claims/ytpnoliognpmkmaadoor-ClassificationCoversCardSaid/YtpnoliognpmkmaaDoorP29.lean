/- Lean functions with the same answers as the program's Go functions, and for each the proof that the call comes to these answers; written by a program of mine out of the translation, the functions marked 'by hand' by me. -/
import Derived.Test.YtpnoliognpmkmaaDoorP0
import Derived.Test.YtpnoliognpmkmaaDoorP2
import Derived.Test.YtpnoliognpmkmaaDoorP22
import Derived.Test.YtpnoliognpmkmaaDoorP27
namespace Go.Proofs.YtpnoliognpmkmaaDoor.P
open Go.RowKit Go.Proofs.YtpnoliognpmkmaaDoorW.PrintWords Go.Proofs.YtpnoliognpmkmaaDoorW.PrintLast Go.Proofs.YtpnoliognpmkmaaDoorW.PrintMore
attribute [local go_sem] max2_int min2_int max_two min_two max_three min_three max_four min_four   -- for this text's walks alone
set_option linter.unusedVariables false
set_option linter.unusedSimpArgs false

/-! ### classification_Leaves: function 15 (by hand) -/

section
open Go.RowKit Go.Maps Go.Proofs.YtpnoliognpmkmaaDoorW.PrintWords Go.Proofs.YtpnoliognpmkmaaDoorW.PrintLast Go.Proofs.YtpnoliognpmkmaaDoorW.PrintMore
theorem keyS : Keyed Tryd.prog 9 := string_keyed Tryd.underlying9
theorem zeroB4 (w : World) : (zeroValue 4).run Tryd.prog w = .ok (.bool false) w := by kernel_rfl
theorem elemB_inv {H : Type} {P : Program} {e : TypeId} (he : P.underlying e = some .bool) {v : Value} {z : DataW H × List MemPlace} (h : plainElem P e v = some z) : ∃ x, v = .bool x ∧ z = (.lit (.bool x), []) := by
 unfold plainElem at h
 rw [he] at h
 cases v <;> simp at h
 exact ⟨_, rfl, h.symm⟩
theorem keyOfS (x : ByteArray) (hx : x.size ≤ 1000000) : keyOf Tryd.prog 9 (.string x) = some (.string x.data.toList) := WideMaps.keyOf_string_mk Tryd.underlying9 (by unfold maxLen; omega)
/-- Block b is a map that tells of each string whether it is among l. -/
def IsSetS (w : World) (b : Nat) (l : List (List UInt8)) : Prop :=
 ∃ (n : Nat) (D : DataW Unit), n ≤ l.length ∧ w.ownsMap Tryd.prog 9 (plainElem Tryd.prog 4) b n D ∧ IsMap D ∧ ∀ x : List UInt8, D.atKey (.string x) (.lit (.bool false)) = .lit (.bool (decide (x ∈ l)))
theorem IsSetS.made (w : World) : IsSetS (w.alloc (.map #[] 0)) w.heap.size [] :=
 ⟨0, .map [], Nat.le_refl _, World.ownsMap_made _ _ _ _, isMap_empty, fun x => rfl⟩
theorem IsSetS.lt {w : World} {b : Nat} {l : List (List UInt8)} (h : IsSetS w b l) : b < w.heap.size := by
 obtain ⟨n, D, _, ho, _⟩ := h
 exact ho.lt
theorem IsSetS.below {w w1 : World} {b : Nat} {l : List (List UInt8)} (h : IsSetS w b l) (hb : Below w.heap.size w w1) : IsSetS w1 b l := by
 have hlt := h.lt
 obtain ⟨n, D, hn, ⟨es, clock, hh, F, hs, hD⟩, hm, ha⟩ := h
 exact ⟨n, D, hn, ⟨es, clock, (hb.block b hlt).trans hh, F, hs, hD⟩, hm, ha⟩
theorem str_key_lit (x : List UInt8) : WideAt.IsKeyLit (.string x) := by trivial
theorem IsSetS.put {w1 : World} {b n : Nat} {l : List (List UInt8)} {D : DataW Unit} (hn : n ≤ l.length) (hm : IsMap D) (ha : ∀ x : List UInt8, D.atKey (.string x) (.lit (.bool false)) = .lit (.bool (decide (x ∈ l))))
  {y : List UInt8} (ho : w1.ownsMap Tryd.prog 9 (plainElem Tryd.prog 4) b (n + 1) (D.put (.string y) (.lit (.bool true)))) : IsSetS w1 b (l ++ [y]) := by
 refine ⟨n + 1, _, by simpa using hn, ho, hm.put _ _, fun x => ?_⟩
 by_cases e : x = y
 ·subst e
  rw [atKey_put_same hm (str_key_lit x)]
  simp
 ·rw [atKey_put_other (by simpa using e), ha x]
  simp [e]
theorem IsSetS.look {w : World} {b : Nat} {l : List (List UInt8)} (h : IsSetS w b l) (x : ByteArray) (hx : x.size ≤ 1000000) : (Instr.lookup 62 (.map (some b)) (.string x) false).run Tryd.prog w = .ok (.bool (decide (x.data.toList ∈ l))) w := by
 obtain ⟨n, D, _, ho, _, ha⟩ := h
 obtain ⟨v, ps, hrun, hv⟩ := ho.lookup keyS Tryd.underlying62 (zeroB4 w) (plainElem_bool Tryd.underlying4 false) (keyOfS x hx)
 rw [ha x.data.toList] at hv
 obtain ⟨b', rfl, e⟩ := elemB_inv Tryd.underlying4 hv
 simp only [Prod.mk.injEq, DataW.lit.injEq, Lit.bool.injEq] at e
 rw [hrun, e.1]
def classification_LeafIn.f (k : Nat) (ps : List (List UInt8)) (u x : ByteArray) : Option Bool := (classification_Within.f k x u).bind fun t => if t = true then (if x.size ≤ 1000000 then some (!decide (x.data.toList ∈ ps)) else none) else some false
theorem classification_LeafIn.mono (ps : List (List UInt8)) (u : ByteArray) (k : Nat) (x : ByteArray) : LeO (classification_LeafIn.f k ps u x) (classification_LeafIn.f (k + 1) ps u x) := by
 unfold classification_LeafIn.f
 exact LeO.bind (classification_Within.mono _ _ _) fun t => LeO.refl _
set_option maxRecDepth 100000 in
set_option maxHeartbeats 4000000 in
theorem classification_LeafIn.calls (k : Nat) (ps : List (List UInt8)) (u x : ByteArray) (r : Bool) (B1 B2 b : Nat) (w : World) (hG : GL w) (hB1 : w.cell? ⟨B1, 0, none⟩ = some (.string u)) (hB2 : w.cell? ⟨B2, 0, none⟩ = some (.map (some b))) (hs : IsSetS w b ps) (h : classification_LeafIn.f k ps u x = some r) :
  Calls Tryd.prog 48 #[.string x, .pointer (some ⟨B1, 0, none⟩), .pointer (some ⟨B2, 0, none⟩)] w fun e w' => e = .returned (.bool r) ∧ Below w.heap.size w w' := by
 obtain ⟨t, ht, h⟩ := Option.bind_eq_some_iff.1 h
 have HT := Lib.hid ht
 clear ht
 cases t with
 | true =>
  rw [if_pos rfl] at h
  by_cases hx : x.size ≤ 1000000
  case neg => rw [if_neg hx] at h; exact absurd h (by simp)
  rw [if_pos hx] at h
  obtain rfl := Option.some.inj h
  clear h
  have HS := Lib.hid hs
  clear hs
  go_enter Tryd.func48, Tryd.ntmps48
  go_wp2_with (go_at_call 42; refine (classification_Within.calls k x u true _ hG HT.out).mono ?_; rintro e w' ⟨rfl, hb⟩; have h2' := pw_cell_below hb hB2; have hl' := (HS.out.below hb).look x hx)
  go_ret
  exact ⟨rfl, hb⟩
 | false =>
  rw [if_neg (by decide)] at h
  obtain rfl := Option.some.inj h
  clear h hs
  go_enter Tryd.func48, Tryd.ntmps48
  go_wp2_with (go_at_call 42; refine (classification_Within.calls k x u false _ hG HT.out).mono ?_; rintro e w' ⟨rfl, hb⟩)
  go_ret
  exact ⟨rfl, hb⟩
def classification_Leaves.l0 (k : Nat) : List ByteArray → Option (List (List UInt8))
 | [] => some []
 | x :: r => (classification_Parent.f k x).bind fun t => if t.1.size ≤ 1000000 then (classification_Leaves.l0 k r).bind fun ps => some (t.1.data.toList :: ps) else none
def classification_Leaves.f (k : Nat) (a0_0 : ByteArray) (l0_1 : List ByteArray) (a1 : ByteArray) : Option (List ByteArray) := if l0_1.length ≤ 1000000 then (classification_Leaves.l0 k l0_1).bind fun ps => classification_chosen.f (classification_LeafIn.f k ps a1) k a0_0 l0_1 a1 else none
theorem classification_Leaves.mono_l (k : Nat) : ∀ l, LeO (classification_Leaves.l0 k l) (classification_Leaves.l0 (k + 1) l)
 | [] => LeO.refl _
 | x :: l => by
  simp only [classification_Leaves.l0]
  exact LeO.bind (classification_Parent.mono _ _) fun t => LeO.ite (LeO.bind (classification_Leaves.mono_l k l) fun ps => LeO.refl _) (LeO.refl _)
theorem classification_Leaves.mono (a0 : ByteArray) (a1 : List ByteArray) (a2 : ByteArray) (k : Nat) : LeO (classification_Leaves.f k a0 a1 a2) (classification_Leaves.f (k + 1) a0 a1 a2) := by
 unfold classification_Leaves.f
 exact LeO.ite (LeO.bind (classification_Leaves.mono_l k _) fun ps => classification_chosen.mono (fun x => classification_LeafIn.mono ps a2 k x) _ _ _ _) (LeO.refl _)
theorem classification_Leaves.at (k : Nat) : ∀ (l : List ByteArray) (ps : List (List UInt8)), classification_Leaves.l0 k l = some ps → ps.length = l.length ∧ ∀ (j : Nat) (hj : j < l.length), ∃ s b, classification_Parent.f k l[j] = some (s, b) ∧ s.size ≤ 1000000 ∧ ps[j]? = some s.data.toList
 | [], ps, h => by
  obtain rfl := Option.some.inj h
  exact ⟨rfl, fun j hj => absurd hj (by simp)⟩
 | x :: l, ps, h => by
  simp only [classification_Leaves.l0] at h
  obtain ⟨⟨s, b⟩, h1, h⟩ := Option.bind_eq_some_iff.1 h
  split at h
  ·rename_i hz
   obtain ⟨q, h2, h⟩ := Option.bind_eq_some_iff.1 h
   obtain rfl := Option.some.inj h
   obtain ⟨e, g⟩ := classification_Leaves.at k l q h2
   refine ⟨by simp [e], fun j hj => ?_⟩
   cases j with
   | zero => exact ⟨s, b, h1, hz, rfl⟩
   | succ j => exact g j (by simpa using hj)
  ·exact absurd h (by simp)
theorem LeafFn.name : (Tryd.f48.name == "runtime.NumGoroutine") = false := by kernel_rfl
def LeavesRel (w : World) (cs : Array Value) (u : ByteArray) (ps : List (List UInt8)) (i : Value) (wr : World) : Prop :=
 ∃ k : Nat, k ≤ ps.length ∧ i = .int .i64 k ∧ IsSetS wr (w.heap.size + 1 + 1) (ps.take k) ∧ wr.heap[w.heap.size]? = some (.cells cs 28 (0, 0)) ∧ wr.heap[w.heap.size + 1]? = some (.cells #[.string u] 9 (0, 0)) ∧ wr.heap[w.heap.size + 1 + 1 + 1]? = some (.cells #[.map (some (w.heap.size + 1 + 1))] 62 (0, 0)) ∧ Below w.heap.size w wr
set_option maxRecDepth 100000 in
set_option maxHeartbeats 4000000 in
theorem classification_Leaves.calls (k : Nat) (a0_0 : ByteArray) (A0_1 : Option Addr) (c0_1 : Nat) (l0_1 : List ByteArray) (a1 : ByteArray) (r : List ByteArray) (w : World) (hr0_1 : Kd.C Kd.string w A0_1 l0_1.length l0_1) (hc0_1 : l0_1.length ≤ c0_1) (hG : GL w) (h : classification_Leaves.f k a0_0 l0_1 a1 = some r) :
  Calls Tryd.prog 15 #[.agg #[.string a0_0, .slice A0_1 l0_1.length c0_1], .string a1] w fun e w' => ∃ v0_ : Value, e = .returned (v0_) ∧ Kd.R Kd.string 9 w' w.heap.size (fun _ => True) v0_ r ∧ Below w.heap.size w w' := by
 have hu28 := Tryd.underlying28
 have hmm := @run_makeMap Tryd.prog
 unfold classification_Leaves.f at h
 by_cases hlen : l0_1.length ≤ 1000000
 case neg => rw [if_neg hlen] at h; exact absurd h (by simp)
 rw [if_pos hlen] at h
 obtain ⟨ps, hps, h⟩ := Option.bind_eq_some_iff.1 h
 have HA := Lib.hid (classification_Leaves.at k _ _ hps)
 have HR := Lib.hid hr0_1
 have HC := Lib.hid hc0_1
 have H := Lib.hid h
 clear hr0_1 hc0_1 h hps
 go_enter Tryd.func15, Tryd.ntmps15
 go_wp2
 go_loopw [14] (fun i wr => LeavesRel w #[.string a0_0, .slice A0_1 l0_1.length c0_1] a1 ps i wr) (fun i _ => l0_1.length - (intOf i).toNat)
 case atStart => exact ⟨0, Nat.zero_le _, rfl, by simpa using (IsSetS.made ((w.alloc (.cells #[.string a0_0, .slice A0_1 l0_1.length c0_1] 28)).alloc (.cells #[.string a1] 9))).below (b_a (Below.refl _ _) _), blk_alloc (blk_alloc (blk_alloc (blk_new w _) _) _) _, by simpa using blk_alloc (blk_alloc (blk_new (w.alloc (.cells #[.string a0_0, .slice A0_1 l0_1.length c0_1] 28)) _) _) _, by simpa using blk_new (((w.alloc (.cells #[.string a0_0, .slice A0_1 l0_1.length c0_1] 28)).alloc (.cells #[.string a1] 9)).alloc (.map #[] 0)) _, b_a (b_a (b_a (b_a (Below.refl _ _) _) _) _) _⟩
 case round =>
  obtain ⟨k1, hk1, rfl, hs, hc0, hc1, hc3, hb⟩ := hrel
  have HC0 := Lib.hid hc0
  have HC1 := Lib.hid hc1
  have HC3 := Lib.hid hc3
  have HBw := Lib.hid hb
  have HSet := Lib.hid hs
  have hpl := HA.out.1
  rw [hpl] at hk1
  clear hpl hc0 hc1 hb hs
  by_cases hlt : k1 < l0_1.length
  ·obtain ⟨s, bo, hp, hz, hpk⟩ := HA.out.2 k1 hlt
   obtain ⟨ad, rfl, hx⟩ := Kd.at_string HR.out (k1 : Int) (by omega) (by omega)
   have e : rdOf ByteArray.empty l0_1 (k1 : Int) = l0_1[k1] := by unfold rdOf; simp [List.getD_eq_getElem?_getD, hlt]
   rw [e] at hx
   have hc : wr.cell? (ad.add k1) = some (.string l0_1[k1]) := pw_cell_below HBw.out hx
   have HP := Lib.hid hp
   have HK := Lib.hid (keyOfS s hz)
   have HV := Lib.hid (plainElem_bool (H := Unit) Tryd.underlying4 true)
   have HPK := Lib.hid hpk
   have HL := Lib.hid HA.out.1
   clear hp hpk hx e
   generalize l0_1[k1] = x at *
   have h3 : wr.cell? ⟨w.heap.size + 1 + 1 + 1, 0, none⟩ = some (.map (some (w.heap.size + 1 + 1))) := (blk_cell hc3 0).trans rfl
   have H3 := Lib.hid h3
   clear h3 hc3
   go_wp2_with (first | (go_at_call 33; refine (classification_Parent.calls k x s bo _ (hG.below HBw.out) HP.out).mono ?_; rintro e w4 ⟨rfl, hb4⟩; have h3' := pw_cell_below hb4 H3.out; obtain ⟨n, D, hn, hown, hm, hat⟩ := HSet.out.below hb4; have HN := Lib.hid hn; have HM := Lib.hid hm; have HAt := Lib.hid hat; have HB4 := Lib.hid hb4; have hn2 : n < maxLen := (by have := hn; rw [List.length_take] at this; unfold maxLen; omega); clear hn hm hat hb4) | (at_mapUpdate; refine wpList_mapUpdate_own _ rfl _ _ _ 62 rfl 9 4 keyS Tryd.underlying62 _ (w.heap.size + 1 + 1) n D rfl hown hn2 _ _ (.string s.data.toList) rfl rfl HK.out (.lit (.bool true)) [] HV.out ?_; intro w5 hown5 hgrow5))
   have hb5 := (HBw.out.trans (HB4.out.mono HBw.out.size)).grown hgrow5 (by have := HBw.out.size; have := HB4.out.size; omega) (fun g e => by injection e with e; omega)
   have ht : ps.take (k1 + 1) = ps.take k1 ++ [s.data.toList] := by
    rw [List.take_add_one, HPK.out]
    rfl
   have hblk : ∀ (g : Nat) (o : Obj), wr.heap[g]? = some o → g ≠ w.heap.size + 1 + 1 → w5.heap[g]? = some o := fun g o hg hne => blk_grown (blk_below hg HB4.out) hgrow5 (fun e => by injection e with e; exact hne e)
   go_roundw
   case rel => exact ⟨k1 + 1, by have := HL.out; omega, by go_num, by rw [ht]; exact IsSetS.put HN.out HM.out HAt.out hown5, hblk _ _ HC0.out (by omega), hblk _ _ HC1.out (by omega), hblk _ _ HC3.out (by omega), hb5⟩
   case measure => simp [intOf]; omega
  ·have hkl : k1 = l0_1.length := by omega
   have ht : ps.take k1 = ps := by rw [List.take_of_length_le (by have := HA.out.1; omega)]
   have HS2 : Hid (IsSetS wr (w.heap.size + 1 + 1) ps) := Lib.hid (by have := HSet.out; rw [ht] at this; exact this)
   have hq0 : wr.cell? ⟨w.heap.size, 0, none⟩ = some (.string a0_0) := (blk_cell HC0.out 0).trans rfl
   have hq1 : wr.cell? ⟨w.heap.size, 1, none⟩ = some (.slice A0_1 l0_1.length c0_1) := (blk_cell HC0.out 1).trans rfl
   have hq2 : wr.cell? ⟨w.heap.size + 1, 0, none⟩ = some (.string a1) := (blk_cell HC1.out 0).trans rfl
   have HQ2 := Lib.hid hq2
   have HQ3 : Hid (wr.cell? ⟨w.heap.size + 1 + 1 + 1, 0, none⟩ = some (.map (some (w.heap.size + 1 + 1)))) := Lib.hid ((blk_cell HC3.out 0).trans rfl)
   clear hkl ht hc3
   go_wp2_with (go_at_call 46; refine (classification_chosen.calls (classification_LeafIn.f k ps a1) 48 Tryd.f48 #[.pointer (some ⟨w.heap.size + 1, 0, none⟩), .pointer (some ⟨w.heap.size + 1 + 1 + 1, 0, none⟩)] Tryd.func48 LeafFn.name rfl k a0_0 A0_1 c0_1 l0_1 a1 r _ (fun x b W hBW hx => classification_LeafIn.calls k ps a1 x b (w.heap.size + 1) (w.heap.size + 1 + 1 + 1) (w.heap.size + 1 + 1) W (hG.below (below_step HBw.out hBW)) (pw_cell_below hBW HQ2.out) (pw_cell_below hBW HQ3.out) (HS2.out.below hBW) hx) (Kd.C_below HR.out HBw.out) HC.out (hG.below HBw.out) H.out).mono ?_; rintro e w' ⟨v0, rfl, hR, hB⟩)
   go_ret
   exact ⟨v0, rfl, Kd.R_lower hR HBw.out.size, below_step HBw.out hB⟩
end

end Go.Proofs.YtpnoliognpmkmaaDoor.P
