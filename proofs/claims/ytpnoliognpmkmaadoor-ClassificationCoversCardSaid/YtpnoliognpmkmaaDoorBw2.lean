/- slices.Backward over strings: the iterator's contract (turned from the kit's GgSlicesIterAtTheDump). -/
import Derived.RangeFuncBox
import Derived.RangeFuncLeaves
import Derived.RangeFuncWrites
import Derived.Shelf.Abstract
import Derived.WalkKit
import Derived.OwnWalkIn
import Derived.TacticsInMore
import Derived.LoopNIn
import Derived.LoopIn
import Derived.Lib.Hide
import Derived.Test.YtpnoliognpmkmaaDoorProg
namespace Go.Proofs.YtpnoliognpmkmaaDoor
open Go.RowKit Go.Shelf
attribute [local go_sem] Oper.semAt_some
set_option linter.unusedVariables false

def upto {α : Type} (f : Nat → α) (k : Nat) : List α := (List.range k).map f
theorem upto_succ {α : Type} (f : Nat → α) (k : Nat) : upto f (k + 1) = upto f k ++ [f k] := by simp [upto, List.range_succ]
theorem upto_length {α : Type} (f : Nat → α) (k : Nat) : (upto f k).length = k := by simp [upto]
/-- what comes in the j-th round -/
def bwAt (zs : List ByteArray) (len : Nat) (j : Nat) : Int × ByteArray := ((len : Int) - 1 - j, zs[len - 1 - j]?.getD ByteArray.empty)

/-- what comes: a place and an element of the list -/
abbrev Bx (zs : List ByteArray) := { x : Int × ByteArray // x.2 ∈ zs }
set_option maxRecDepth 100000 in
set_option maxHeartbeats 2000000 in
theorem bw1_in (F : Fence) (n : Nat) (h79 : F.fn 79) (hro : F.round = none) (hn : 1 ≤ n) (l Bs n₀ b off cap : Nat) (zs : List ByteArray) (hreach : zs.length ≤ 1000000) (hb : b < n₀) (hBn : Bs < n₀) (J Jx : List (Bx zs) → World → Prop)
    (hY : ∀ pre (x : Bx zs) W, J pre W → pre.length < zs.length → YieldAt F (n - 1) Tryd.prog l #[.int .i64 x.1.1, .string x.1.2] W fun e W' =>
      (e = .returned (.bool true) ∧ J (pre ++ [x]) W' ∧ Below n₀ W W') ∨ (e = .returned (.bool false) ∧ Jx (pre ++ [x]) W'))
    (W : World) (hBs : W.cell? ⟨Bs, 0, none⟩ = some (.slice (some ⟨b, off, none⟩) zs.length cap)) (hc : ∀ j, j < zs.length → W.cell? ⟨b, off + j, none⟩ = some (.string (zs[j]?.getD ByteArray.empty))) (h0 : J [] W) :
    CallsIn F n Tryd.prog 79 #[.func (.yield l) #[] #[], .pointer (some ⟨Bs, 0, none⟩)] W fun e W' => (∃ v, e = .returned v) ∧
      ((∃ ys, ys.map (fun x => x.1) = upto (bwAt zs zs.length) zs.length ∧ J ys W') ∨ (∃ pre, (∃ k, k ≤ zs.length ∧ pre.map (fun x => x.1) = upto (bwAt zs zs.length) k) ∧ Jx pre W')) := by
  obtain ⟨len, hlen⟩ : ∃ len, len = zs.length := ⟨_, rfl⟩
  have HL := Lib.hid hlen
  rw [← hlen] at hreach hc hY hBs ⊢
  clear hlen
  refine callsIn_of_wp Tryd.func79 rfl h79 ?_ hro
  simp only [Tryd.ntmps79, List.size_toArray, List.length_cons, List.length_nil, Nat.reduceAdd, Nat.reduceSub, Array.replicate_succ, Array.replicate_zero, List.push_toArray, List.append_toArray, List.nil_append, List.cons_append]
  have e0 : wrap64 ((len : Int) - 1) = (len : Int) - 1 := by unfold wrap64; omega
  gi_wp2
  gi_loopw [3] (fun i wr => ∃ (k : Nat) (pre : List (Bx zs)), k ≤ len ∧ Hid (pre.map (fun x => x.1) = upto (bwAt zs len) k) ∧ i = .int .i64 ((len : Int) - 1 - k) ∧ J pre wr ∧ Below n₀ W wr)
    (fun i _ => (intOf i + 1).toNat)
  case atStart => exact ⟨0, [], Nat.zero_le _, Lib.hid rfl, by simp, h0, Below.refl _ _⟩
  case round =>
    obtain ⟨k, pre, hk, HP, rfl, hJs, hnx⟩ := hrel
    have hBs' := (hnx.cell (p := ⟨Bs, 0, none⟩) hBn).trans hBs
    by_cases hlt : k < len
    · have hcx' := (hnx.cell (p := ⟨b, off + (len - 1 - k), none⟩) hb).trans (hc (len - 1 - k) (by omega))
      have hmem : (bwAt zs len k).2 ∈ zs := by
        have hz : len - 1 - k < zs.length := by have := HL.out; omega
        simp only [bwAt]
        rw [List.getElem?_eq_getElem hz]
        exact List.getElem_mem hz
      have hpl : pre.length = k := by
        have := congrArg List.length HP.out
        rw [List.length_map, upto_length] at this
        exact this
      obtain ⟨fn, tmps, assign, body, hy, hR⟩ := hY pre ⟨bwAt zs len k, hmem⟩ wr hJs (by omega)
      have HM := Lib.hid hpl
      clear hpl
      dsimp only [bwAt] at hy
      have ej : (len : Int) - 1 - k = ((len - 1 - k : Nat) : Int) := by omega
      have hjl : len - 1 - k < len := by omega
      have hk1 : ((len - 1 - k : Nat) : Int) - 1 = (len : Int) - 1 - ((k + 1 : Nat) : Int) := by omega
      have ew : wrap64 ((len : Int) - 1 - ((k + 1 : Nat) : Int)) = (len : Int) - 1 - ((k + 1 : Nat) : Int) := by unfold wrap64; omega
      rw [ej] at hy
      rw [ej]
      have HP2 : Hid ((pre ++ [(⟨bwAt zs len k, hmem⟩ : Bx zs)]).map (fun x => x.1) = upto (bwAt zs len) (k + 1)) := Lib.hid (by rw [List.map_append, HP.out, upto_succ]; rfl)
      generalize (⟨bwAt zs len k, hmem⟩ : Bx zs) = x at *
      generalize hj : len - 1 - k = j at *
      gi_wp2
      refine hR.mono ?_
      rintro e W3 (⟨rfl, hJ3, hk3⟩ | ⟨rfl, hJx3⟩)
      · gi_wp2
        go_roundw
        case rel => exact ⟨k + 1, pre ++ [x], by omega, HP2, by simp, hJ3, hnx.trans hk3⟩
        case measure => simp [intOf]; omega
      · gi_wp2
        refine bodyPost_ret (results_none rfl _ _ _) rfl ?_
        exact ⟨⟨_, rfl⟩, .inr ⟨_, ⟨k + 1, by omega, HP2.out⟩, hJx3⟩⟩
    · obtain rfl : k = len := by omega
      have en : (k : Int) - 1 - k = -1 := by omega
      rw [en]
      gi_wp2
      go_end0
      exact ⟨⟨_, rfl⟩, .inl ⟨_, HP.out, hJs⟩⟩

set_option maxRecDepth 100000 in
set_option maxHeartbeats 1000000 in
theorem bw1_nil_in (F : Fence) (n : Nat) (h79 : F.fn 79) (hro : F.round = none) (l Bs : Nat) {α : Type} (J : List α → World → Prop) (W : World) (hBs : W.cell? ⟨Bs, 0, none⟩ = some (.slice none 0 0)) (h0 : J [] W) :
    CallsIn F n Tryd.prog 79 #[.func (.yield l) #[] #[], .pointer (some ⟨Bs, 0, none⟩)] W fun e W' => (∃ v, e = .returned v) ∧ J [] W' := by
  refine callsIn_of_wp Tryd.func79 rfl h79 ?_ hro
  simp only [Tryd.ntmps79, List.size_toArray, List.length_cons, List.length_nil, Nat.reduceAdd, Nat.reduceSub, Array.replicate_succ, Array.replicate_zero, List.push_toArray, List.append_toArray, List.nil_append, List.cons_append]
  gi_wp2
  gi_loopw [3] (fun i wr => i = .int .i64 (-1) ∧ J [] wr) (fun _ _ => 0)
  case atStart => exact ⟨rfl, h0⟩
  case round =>
    obtain ⟨rfl, hJs⟩ := hrel
    gi_wp2
    go_end0
    exact ⟨⟨_, rfl⟩, hJs⟩

set_option maxHeartbeats 1000000 in
theorem bw_in (F : Fence) (n : Nat) (h68 : F.fn 68) (hro : F.round = none) (a : Option Addr) (len cap : Nat) (w : World) :
    CallsIn F n Tryd.prog 68 #[.slice a len cap] w fun e w' => e = .returned (.func (.func 79) #[] #[.pointer (some ⟨w.heap.size, 0, none⟩)]) ∧ w' = w.alloc (.cells #[.slice a len cap] 26) := by
  refine callsIn_of_wp Tryd.func68 rfl h68 ?_ hro
  simp only [Tryd.ntmps68, List.size_toArray, List.length_cons, List.length_nil, Nat.reduceAdd, Nat.reduceSub, Array.replicate_succ, Array.replicate_zero, List.push_toArray, List.append_toArray, List.nil_append, List.cons_append]
  gi_wp2
  go_ret
  exact ⟨rfl, rfl⟩

/-- the strings of a slice value -/
def Strs (n₀ : Nat) (w : World) (sv : Value) (zs : List ByteArray) : Prop :=
  (sv = .slice none 0 0 ∧ zs = []) ∨ ∃ b off cap, sv = .slice (some ⟨b, off, none⟩) zs.length cap ∧ b < n₀ ∧ ∀ j, j < zs.length → w.cell? ⟨b, off + j, none⟩ = some (.string (zs[j]?.getD ByteArray.empty))
theorem Strs.below {n₀ : Nat} {w w' : World} {sv : Value} {zs : List ByteArray} (h : Strs n₀ w sv zs) (hb : Below n₀ w w') : Strs n₀ w' sv zs := by
  rcases h with h | ⟨b, off, cap, e, hlt, hc⟩
  · exact .inl h
  · exact .inr ⟨b, off, cap, e, hlt, fun j hj => (hb.cell (p := ⟨b, off + j, none⟩) hlt).trans (hc j hj)⟩
theorem bw_stops (F : Fence) (n : Nat) (h79 : F.fn 79) (hro : F.round = none) (hn : 1 ≤ n) (Bs n₀ : Nat) (sv : Value) (zs : List ByteArray) (hreach : zs.length ≤ 1000000) (w : World) (hBs : Bs < n₀) (hn₀ : n₀ ≤ w.heap.size)
    (hc : w.cell? ⟨Bs, 0, none⟩ = some sv) (hI : Strs n₀ w sv zs) :
    SeqStopsK F n Tryd.prog 79 #[.pointer (some ⟨Bs, 0, none⟩)] (fun x : Bx zs => #[Value.int .i64 x.1.1, Value.string x.1.2]) (Below n₀) (fun ys => ys.map (fun x => x.1) = upto (bwAt zs zs.length) zs.length)
      (fun pre => ∃ k, k ≤ zs.length ∧ pre.map (fun x => x.1) = upto (bwAt zs zs.length) k) zs.length w := fun l J Jx W hW _ _ hY h0 => by
  have hc' := (hW.cell (p := ⟨Bs, 0, none⟩) (Nat.lt_of_lt_of_le hBs hn₀)).trans hc
  rcases hI.below (hW.mono hn₀) with ⟨rfl, rfl⟩ | ⟨b, off, cap, rfl, hb, hcs⟩
  · exact (bw1_nil_in F n h79 hro l Bs J W hc' h0).mono fun e W' ⟨he, hj⟩ => ⟨he, .inl ⟨_, rfl, hj⟩⟩
  · exact bw1_in F n h79 hro hn l Bs n₀ b off cap zs hreach hb hBs J Jx hY W hc' hcs h0
end Go.Proofs.YtpnoliognpmkmaaDoor
