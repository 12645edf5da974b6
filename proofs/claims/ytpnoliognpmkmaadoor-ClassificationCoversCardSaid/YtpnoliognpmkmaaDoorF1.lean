/- Contracts of strconv.Itoa, strings.Split, slices.Min, slices.Max, strings.Compare and strings.LastIndex in the form in which the printed texts ask for them. -/
import Derived.Test.YtpnoliognpmkmaaDoorShelfA
import Derived.Test.YtpnoliognpmkmaaDoorG
import Derived.Test.YtpnoliognpmkmaaDoorVMore
import Derived.Lib.AppendIntMem
import Derived.Laws.AppendOwn
namespace Go.Proofs.YtpnoliognpmkmaaDoor
set_option linter.unusedVariables false
open Go.RowKit Go.Proofs.YtpnoliognpmkmaaDoorW.PrintWords

theorem spot_none {w : World} {ad : Addr} {v : Value} (h : w.cell? ad = some v) : ad = ⟨ad.block, ad.off, none⟩ := by
  obtain ⟨b, o, s⟩ := ad
  cases s with
  | none => rfl
  | some x =>
    unfold World.cell? at h
    split at h <;> simp at h

theorem C_strs {w : World} {A : Option Addr} {l : List ByteArray} (h : Kd.C Kd.string w A l.length l) (h0 : 0 < l.length) :
    ∃ b o, A = some ⟨b, o, none⟩ ∧ b < w.heap.size ∧ ∀ (j : Nat) x, l[j]? = some x → w.cell? ⟨b, o + j, none⟩ = some (.string x) := by
  obtain ⟨_, _, h⟩ := h
  obtain ⟨ad, rfl, hc⟩ := h h0
  have hc2 : ∀ (j : Nat) x, l[j]? = some x → w.cell? (ad.add j) = some (.string x) := by
    intro j x hx
    obtain ⟨c, hl, rfl, hu⟩ := hc j x hx
    have := hu 0 _ rfl
    rw [show j * Kd.string.sz + 0 = j from Nat.mul_one j] at this
    exact this
  have h1 := hc2 0 (l[0]'h0) (by simp)
  have e : ad.add 0 = ad := by unfold Addr.add; rw [if_pos rfl]
  rw [e] at h1
  have es := spot_none h1
  refine ⟨ad.block, ad.off, by rw [← es], cell_lt h1, fun j x hx => ?_⟩
  have h2 := hc2 j x hx
  unfold Addr.add at h2
  split at h2
  · rename_i hj
    subst hj
    rw [es] at h2
    exact h2
  · exact h2

def itoaB (n : Int) : ByteArray := ⟨(Lib.itoa n).toArray⟩
theorem itoa_any (n : Int) (h0 : -9223372036854775808 ≤ n) (h1 : n ≤ 9223372036854775807) (w : World) (hG : GT w) :
    Calls Tryd.prog 57 #[.int .i64 n] w fun e w' => e = .returned (.string (itoaB n)) ∧ Below w.heap.size w w' :=
  (Tryd.strconv_Itoa n h0 h1 w hG).mono fun e w' ⟨he, k, os, hw⟩ => ⟨he, hw ▸ Lib.below_grow _ w (Nat.le_refl _) k os⟩
theorem C_ints {w : World} {A : Option Addr} {l : List Int} (h : Kd.C (Kd.int .i64) w A l.length l) (h0 : 0 < l.length) :
    ∃ b o, A = some ⟨b, o, none⟩ ∧ b < w.heap.size ∧ ∀ (j : Nat) x, l[j]? = some x → w.cell? ⟨b, o + j, none⟩ = some (.int .i64 x) := by
  obtain ⟨_, _, h⟩ := h
  obtain ⟨ad, rfl, hc⟩ := h h0
  have hc2 : ∀ (j : Nat) x, l[j]? = some x → w.cell? (ad.add j) = some (.int .i64 x) := by
    intro j x hx
    obtain ⟨c, hl, rfl, hu⟩ := hc j x hx
    have := hu 0 _ rfl
    rw [show j * (Kd.int .i64).sz + 0 = j from Nat.mul_one j] at this
    exact this
  have h1 := hc2 0 (l[0]'h0) (by simp)
  have e : ad.add 0 = ad := by unfold Addr.add; rw [if_pos rfl]
  rw [e] at h1
  have es := spot_none h1
  refine ⟨ad.block, ad.off, by rw [← es], cell_lt h1, fun j x hx => ?_⟩
  have h2 := hc2 j x hx
  unfold Addr.add at h2
  split at h2
  · rename_i hj
    subst hj
    rw [es] at h2
    exact h2
  · exact h2
/-- the words of s between the sep's -/
def splitL (s sep : ByteArray) : List ByteArray := Lib.splitB sep 0 (Lib.countB s sep) s
theorem split_any (s sep : ByteArray) (hs : s.size < 4294967281) (h1 : 1 ≤ sep.size) (w : World) (hG : GL w) :
    Calls Tryd.prog 53 #[.string s, .string sep] w fun e w' => ∃ v0_ : Value, e = .returned (v0_) ∧ Kd.R Kd.string 9 w' w.heap.size (fun _ => True) v0_ (splitL s sep) ∧ Below w.heap.size w w' := by
  obtain ⟨m, hm⟩ := hG.cell
  have hl : (splitL s sep).length = Lib.countB s sep + 1 := Lib.splitB_all sep h1 0 _ s rfl
  have hc := Lib.countB_le sep h1 _ s (Nat.le_refl _)
  refine (Tryd.strings_Split s sep m w hs hm h1).mono fun e w' ⟨he, hw⟩ => ⟨_, he, ⟨fun _ _ => trivial, (splitL s sep).map Value.string, ⟨?_, .inr ⟨w.heap.size, Lib.countB s sep + 1, ((splitL s sep).map Value.string).toArray, ?_, Nat.le_refl _, ?_, ?_, ?_, ?_, ?_⟩⟩, ?_⟩, hw ▸ (Below.refl _ _).alloc (Nat.le_refl _) _⟩
  · simp [show Kd.string.sz = 1 from rfl]
  · rw [hl]
  · rw [hw]; show (w.heap.push _)[w.heap.size]? = _; rw [Array.getElem?_push_size]; rfl
  · omega
  · unfold maxLen; omega
  · simp [hl, show Kd.string.sz = 1 from rfl]
  · rw [hl, show Kd.string.sz = 1 from rfl, Nat.mul_one]
    exact List.take_of_length_le (by simp [hl])
  · refine ⟨by simp [show Kd.string.sz = 1 from rfl], fun j p hj => ?_⟩
    show _ = [Value.string p]
    rw [show Kd.string.sz = 1 from rfl, Nat.mul_one]
    have hlt : j < (splitL s sep).length := (List.getElem?_eq_some_iff.1 hj).1
    have hd : ((splitL s sep).map Value.string).drop j = Value.string p :: ((splitL s sep).map Value.string).drop (j + 1) := by
      rw [List.drop_eq_getElem_cons (by simpa using hlt)]
      congr 1
      have := (List.getElem?_eq_some_iff.1 hj).2
      simp [this]
    rw [hd]
    rfl
theorem min_any (A : Option Addr) (c : Nat) (l : List Int) (w : World) (hr : Kd.C (Kd.int .i64) w A l.length l) (h0 : 0 < l.length) (hb : l.length ≤ 9223372036854775807) :
    Calls Tryd.prog 55 #[.slice A l.length c] w fun e w' => e = .returned (.int .i64 (Lib.minOf l)) ∧ Below w.heap.size w w' := by
  obtain ⟨b, o, rfl, _, hcell⟩ := C_ints hr h0
  refine (Tryd.slices_Min_int b o l.length c l w h0 (Nat.le_refl _) hb (fun j hj => ?_)).mono fun e w' ⟨he, hw⟩ => ⟨by rw [List.take_length] at he; exact he, hw ▸ Below.refl _ _⟩
  exact hcell j _ (by simp [List.getD_eq_getElem?_getD, hj])
theorem max_any (A : Option Addr) (c : Nat) (l : List Int) (w : World) (hr : Kd.C (Kd.int .i64) w A l.length l) (h0 : 0 < l.length) (hb : l.length ≤ 9223372036854775807) :
    Calls Tryd.prog 56 #[.slice A l.length c] w fun e w' => e = .returned (.int .i64 (Lib.maxOf l)) ∧ Below w.heap.size w w' := by
  obtain ⟨b, o, rfl, _, hcell⟩ := C_ints hr h0
  refine (Tryd.slices_Max_int b o l.length c l w h0 (Nat.le_refl _) hb (fun j hj => ?_)).mono fun e w' ⟨he, hw⟩ => ⟨by rw [List.take_length] at he; exact he, hw ▸ Below.refl _ _⟩
  exact hcell j _ (by simp [List.getD_eq_getElem?_getD, hj])
theorem compare_any (a b : ByteArray) (w : World) : Calls Tryd.prog 61 #[.string a, .string b] w fun e w' => e = .returned (.int .i64 (Lib.compareBytes a.data.toList b.data.toList)) ∧ Below w.heap.size w w' :=
  (Tryd.strings_Compare a b w).mono fun e w' ⟨he, hw⟩ => ⟨he, hw ▸ Below.refl _ _⟩
theorem last_any (s b : ByteArray) (hs : s.size < 4611686018427387904) (w : World) : Calls Tryd.prog 63 #[.string s, .string b] w fun e w' => e = .returned (.int .i64 (Lib.lastIndex s.data.toList b.data.toList)) ∧ Below w.heap.size w w' :=
  (Tryd.strings_LastIndex s b hs w).mono fun e w' ⟨he, hw⟩ => ⟨he, hw ▸ Below.refl _ _⟩
theorem less_turned : ∀ a b : List UInt8, Op.bytesLess b a = !(Op.bytesLess a b || a == b)
  | [], [] => rfl
  | [], _ :: _ => rfl
  | _ :: _, [] => rfl
  | x :: a, y :: b => by
    have ih := less_turned a b
    have h1 : (y < x) ∨ x = y ∨ (x < y) := by
      rcases Nat.lt_trichotomy x.toNat y.toNat with h | h | h
      · exact .inr (.inr h)
      · exact .inr (.inl (UInt8.toNat_inj.1 h))
      · exact .inl h
    simp only [Op.bytesLess, ih]
    rcases h1 with h | h | h
    · have h2 : ¬ x < y := fun h3 => by have := UInt8.lt_iff_toNat_lt.1 h; have := UInt8.lt_iff_toNat_lt.1 h3; omega
      have h4 : ¬ x = y := fun h3 => by subst h3; exact h2 h
      simp [h, h2, h4]
    · subst h
      have h2 : ¬ x < x := fun h3 => by have := UInt8.lt_iff_toNat_lt.1 h3; omega
      simp [h2]
    · have h2 : ¬ y < x := fun h3 => by have := UInt8.lt_iff_toNat_lt.1 h; have := UInt8.lt_iff_toNat_lt.1 h3; omega
      have h4 : ¬ y = x := fun h3 => by subst h3; exact h2 h
      simp [h, h2, h4]
theorem gtr_str (t : TypeId) (a b : ByteArray) : binOp .gtr t (.string a) (.string b) = pure (.bool (Op.bytesLess b.toList a.toList)) := by
  rw [less_turned a.toList b.toList]
  simp [binOp, Op.stringOp]
section
variable {P : Program} {ops : Array Oper} {Q : Exit → Act → World → Prop}
/-- A call through a slot that holds a function. -/
theorem gate_calleeT {rest : List Oper} {o : Oper} {a : Act} {W : World} {t : Tmp} {as_ : Array Operand} {ts : Array TypeId} (_ho : o.op = .call { callee := .value (.tmp t), args := as_, argTypes := ts }) (h : wpList P ops Q (o :: rest) a W) : wpList P ops Q (o :: rest) a W := h
theorem goesLT_ {rest : List Oper} {oi : Oper} {a : Act} {w : World} (N : Option Tmp) (hd : oi.dst = N) (hg : oi.guard = none) {t : Tmp} {f : FuncId} {fn : Func} {as_ : Array Operand} {ts : Array TypeId} (hf : P.funcs[f]? = some fn) (hname : (fn.name == "runtime.NumGoroutine") = false) (hb : fn.body.isSome = true) (args : Array Value)
    (hop : oi.op = .call { callee := .value (.tmp t), args := as_, argTypes := ts }) (ht : a.eval (.tmp t) = a.eval (.func f)) (hargs : as_.map a.eval = args)
    (h : Calls P f args w fun e w' => ∃ v, e = .returned v ∧ wpList P ops Q rest (a.put N v) w') : wpList P ops Q (oi :: rest) a w := by
  refine wpList_plain hg fun K hK => ?_
  have he := Go.Proofs.YtpnoliognpmkmaaDoorW.PrintLast.enters_ hf hname hb args w
  have hr : ∀ ty, resolve a.eval { callee := .value (.tmp t), args := as_, argTypes := ts } ty = resolve a.eval { callee := .value (.func f), args := as_, argTypes := ts } ty := by
    intro ty
    unfold resolve
    simp only [ht]
  have hrun : (execOp a.eval oi).run P w = .ok (.enter f args) w := by
    unfold execOp
    simp only [hop]
    rw [hr]
    simp [resolve, Deferred.ofValue, invoke, Act.eval, hargs, he]
  unfold Oper.wp
  rw [hrun, Oper.upon_enter]
  refine h.mono fun e w'' hh => ?_
  obtain ⟨v, rfl, hk⟩ := hh
  subst hd
  exact hK _ _ hk
end
section
variable {P : Program} {ops : Array Oper} {Q : Exit → Act → World → Prop}
/-- A call through a slot that holds a closure. -/
theorem goesLC_ {rest : List Oper} {oi : Oper} {a : Act} {w : World} (N : Option Tmp) (hd : oi.dst = N) (hg : oi.guard = none) {t : Tmp} {f : FuncId} {fn : Func} {as_ : Array Operand} {ts : Array TypeId} (hf : P.funcs[f]? = some fn) (hname : (fn.name == "runtime.NumGoroutine") = false) (hb : fn.body.isSome = true) (args lb : Array Value)
    (hop : oi.op = .call { callee := .value (.tmp t), args := as_, argTypes := ts }) (ht : a.eval (.tmp t) = .func (.func f) #[] lb) (hargs : as_.map a.eval = args)
    (h : Calls P f (args ++ lb) w fun e w' => ∃ v, e = .returned v ∧ wpList P ops Q rest (a.put N v) w') : wpList P ops Q (oi :: rest) a w := by
  refine wpList_plain hg fun K hK => ?_
  have he := Go.Proofs.YtpnoliognpmkmaaDoorW.PrintLast.enters_ hf hname hb (args ++ lb) w
  have hrun : (execOp a.eval oi).run P w = .ok (.enter f (args ++ lb)) w := by
    unfold execOp
    simp only [hop]
    unfold resolve
    simp only [ht, hargs, Deferred.ofValue, Array.empty_append]
    simp [invoke, he]
  unfold Oper.wp
  rw [hrun, Oper.upon_enter]
  refine h.mono fun e w'' hh => ?_
  obtain ⟨v, rfl, hk⟩ := hh
  subst hd
  exact hK _ _ hk
end
end Go.Proofs.YtpnoliognpmkmaaDoor
