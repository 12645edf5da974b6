/- The plain law of ClassificationCovers. -/
import Derived.Test.YtpnoliognpmkmaaDoorP1
import Derived.Test.YtpnoliognpmkmaaDoorP2
import Derived.Test.YtpnoliognpmkmaaDoorP3
import Derived.Test.YtpnoliognpmkmaaDoorP4
import Derived.Test.YtpnoliognpmkmaaDoorP7
import Derived.Test.YtpnoliognpmkmaaDoorP11
import Derived.Test.YtpnoliognpmkmaaDoorP13
import Derived.Test.YtpnoliognpmkmaaDoorP14
import Derived.Test.YtpnoliognpmkmaaDoorP15
import Derived.Test.YtpnoliognpmkmaaDoorP17
import Derived.Test.YtpnoliognpmkmaaDoorP18
import Derived.Test.YtpnoliognpmkmaaDoorP22
import Derived.Test.YtpnoliognpmkmaaDoorP27
import Derived.Test.YtpnoliognpmkmaaDoorP29
import Derived.Test.YtpnoliognpmkmaaDoorP31
import Derived.Test.YtpnoliognpmkmaaDoorP32
import Derived.Test.YtpnoliognpmkmaaDoorP33
import Derived.Lib.SplitLaws
import Derived.Lib.AtoiErrMem
import Derived.Lib.ItoaNum
import Derived.Lib.AtoiAll
import Derived.Lib.LastIndexLaws
import Derived.Test.YtpnoliognpmkmaaDoorCVD
namespace Go.Proofs.YtpnoliognpmkmaaDoor.Cls
set_option linter.unusedVariables false

def dg (n : Int) : UInt8 := UInt8.ofNat (48 + n.toNat)
def tx2 (n : Int) : List UInt8 := [dg (n / 10), dg (n % 10)]
def tx1 (n : Int) : List UInt8 := if n < 10 then [dg n] else tx2 n
def fmtTail : List Int → List UInt8
 | [] => []
 | n :: r => 46 :: (tx1 n ++ fmtTail r)
def fmt : List Int → List UInt8
 | [] => []
 | n :: r => tx2 n ++ fmtTail r
def okP (n : Int) : Prop := 1 ≤ n ∧ n ≤ 99
instance (n : Int) : Decidable (okP n) := by unfold okP; infer_instance
def good (ps : List Int) : Prop := 1 ≤ ps.length ∧ ps.length ≤ 5 ∧ ∀ n ∈ ps, okP n
instance (ps : List Int) : Decidable (good ps) := by unfold good; infer_instance
def isC (s : List UInt8) (q : List Int) : Prop := good q ∧ fmt q = s

/-- the value of a digit -/
def vd (c : UInt8) : Int := (c.toNat : Int) - 48
def isD (c : UInt8) : Bool := 48 ≤ c.toNat && c.toNat ≤ 57
theorem dg_toNat (n : Int) (h0 : 0 ≤ n) (h1 : n ≤ 9) : (dg n).toNat = 48 + n.toNat := by
 unfold dg
 rw [UInt8.toNat_ofNat']
 omega
theorem dg_vd (n : Int) (h0 : 0 ≤ n) (h1 : n ≤ 9) : vd (dg n) = n := by
 unfold vd
 rw [dg_toNat n h0 h1]
 omega
theorem dg_isD (n : Int) (h0 : 0 ≤ n) (h1 : n ≤ 9) : isD (dg n) = true := by
 unfold isD
 rw [dg_toNat n h0 h1]
 simp
 omega
theorem vd_dg (c : UInt8) (h : isD c = true) : dg (vd c) = c := by
 simp [isD] at h
 apply UInt8.toNat_inj.1
 rw [dg_toNat _ (by unfold vd; omega) (by unfold vd; omega)]
 unfold vd
 omega
theorem vd_range (c : UInt8) (h : isD c = true) : 0 ≤ vd c ∧ vd c ≤ 9 := by
 simp [isD] at h
 unfold vd
 omega
theorem isD_dot : isD 46 = false := by decide
theorem dg_ne_dot (n : Int) (h0 : 0 ≤ n) (h1 : n ≤ 9) : dg n ≠ 46 := fun h => by
 have := dg_isD n h0 h1
 rw [h, isD_dot] at this
 cases this

/-- the first part: two digits -/
def scan2 : List UInt8 → Option (Int × List UInt8)
 | c :: d :: r => if isD c = true ∧ isD d = true ∧ 1 ≤ 10 * vd c + vd d then some (10 * vd c + vd d, r) else none
 | _ => none
/-- another part: no zero ahead -/
def scan1 : List UInt8 → Option (Int × List UInt8)
 | [] => none
 | [c] => if isD c = true ∧ 1 ≤ vd c then some (vd c, []) else none
 | c :: d :: r => if isD c = true ∧ 1 ≤ vd c then (if isD d = true then some (10 * vd c + vd d, r) else some (vd c, d :: r)) else none
def prT : Nat → List UInt8 → Option (List Int)
 | _, [] => some []
 | 0, _ :: _ => none
 | m + 1, c :: r => if c = 46 then (match scan1 r with | some (n, r') => (prT m r').map (n :: ·) | none => none) else none
def prL (s : List UInt8) : Option (List Int) := match scan2 s with | some (n, r) => (prT 4 r).map (n :: ·) | none => none
/-- what Parse answers -/
def pr (s : List UInt8) : List Int × Int := match prL s with | some q => (q, 0) | none => ([], 60)

theorem scan2_some {s r : List UInt8} {n : Int} (h : scan2 s = some (n, r)) : okP n ∧ s = tx2 n ++ r := by
 match s, h with
 | c :: d :: t, h =>
  simp only [scan2] at h
  split at h
  ·rename_i hc
   simp only [Option.some.injEq, Prod.mk.injEq] at h
   obtain ⟨rfl, rfl⟩ := h
   obtain ⟨h1, h2, h3⟩ := hc
   have := vd_range c h1
   have := vd_range d h2
   refine ⟨⟨h3, by omega⟩, ?_⟩
   have e1 : (10 * vd c + vd d) / 10 = vd c := by omega
   have e2 : (10 * vd c + vd d) % 10 = vd d := by omega
   simp [tx2, e1, e2, vd_dg c h1, vd_dg d h2]
  ·cases h
theorem scan1_some {s r : List UInt8} {n : Int} (h : scan1 s = some (n, r)) : okP n ∧ s = tx1 n ++ r := by
 match s, h with
 | [c], h =>
  simp only [scan1] at h
  split at h
  ·rename_i hc
   simp only [Option.some.injEq, Prod.mk.injEq] at h
   obtain ⟨rfl, rfl⟩ := h
   have := vd_range c hc.1
   refine ⟨⟨hc.2, by omega⟩, ?_⟩
   simp [tx1, show vd c < 10 by omega, vd_dg c hc.1]
  ·cases h
 | c :: d :: t, h =>
  simp only [scan1] at h
  split at h
  ·rename_i hc
   have := vd_range c hc.1
   split at h
   ·rename_i hd
    simp only [Option.some.injEq, Prod.mk.injEq] at h
    obtain ⟨rfl, rfl⟩ := h
    have := vd_range d hd
    refine ⟨⟨by omega, by omega⟩, ?_⟩
    have e1 : (10 * vd c + vd d) / 10 = vd c := by omega
    have e2 : (10 * vd c + vd d) % 10 = vd d := by omega
    simp [tx1, show ¬ 10 * vd c + vd d < 10 by omega, tx2, e1, e2, vd_dg c hc.1, vd_dg d hd]
   ·simp only [Option.some.injEq, Prod.mk.injEq] at h
    obtain ⟨rfl, rfl⟩ := h
    refine ⟨⟨hc.2, by omega⟩, ?_⟩
    simp [tx1, show vd c < 10 by omega, vd_dg c hc.1]
  ·cases h
theorem prT_some : ∀ {m : Nat} {s : List UInt8} {q : List Int}, prT m s = some q → q.length ≤ m ∧ (∀ n ∈ q, okP n) ∧ fmtTail q = s := by
 intro m
 induction m with
 | zero =>
  intro s q h
  cases s with
  | nil =>
   simp only [prT, Option.some.injEq] at h
   subst h
   exact ⟨Nat.le_refl _, by simp, rfl⟩
  | cons c r => simp [prT] at h
 | succ m ih =>
  intro s q h
  cases s with
  | nil =>
   simp only [prT, Option.some.injEq] at h
   subst h
   exact ⟨by simp, by simp, rfl⟩
  | cons c r =>
   simp only [prT] at h
   split at h
   ·rename_i hc
    split at h
    ·rename_i n r' hs
     obtain ⟨hn, hr⟩ := scan1_some hs
     obtain ⟨q', hq, rfl⟩ := Option.map_eq_some_iff.1 h
     obtain ⟨h1, h2, h3⟩ := ih hq
     refine ⟨by simp; omega, by simpa using ⟨hn, h2⟩, ?_⟩
     simp [fmtTail, h3, hc, hr]
    ·cases h
   ·cases h
theorem prL_isC {s : List UInt8} {q : List Int} (h : prL s = some q) : isC s q := by
 unfold prL at h
 split at h
 ·rename_i n r hs
  obtain ⟨hn, hr⟩ := scan2_some hs
  obtain ⟨q', hq, rfl⟩ := Option.map_eq_some_iff.1 h
  obtain ⟨h1, h2, h3⟩ := prT_some hq
  refine ⟨⟨by simp, by simp; omega, by simpa using ⟨hn, h2⟩⟩, ?_⟩
  simp [fmt, h3, hr]
 ·cases h
theorem fmtTail_head (q : List Int) : fmtTail q = [] ∨ ∃ r, fmtTail q = 46 :: r := by
 cases q with
 | nil => exact .inl rfl
 | cons n r => exact .inr ⟨_, rfl⟩
theorem scan2_tx (n : Int) (h : okP n) (r : List UInt8) : scan2 (tx2 n ++ r) = some (n, r) := by
 have h0 : 0 ≤ n / 10 ∧ n / 10 ≤ 9 := by have := h.1; have := h.2; omega
 have h1 : 0 ≤ n % 10 ∧ n % 10 ≤ 9 := by omega
 have := h.1
 simp only [tx2, List.cons_append, List.nil_append, scan2]
 rw [if_pos ⟨dg_isD _ h0.1 h0.2, dg_isD _ h1.1 h1.2, by rw [dg_vd _ h0.1 h0.2, dg_vd _ h1.1 h1.2]; omega⟩, dg_vd _ h0.1 h0.2, dg_vd _ h1.1 h1.2]
 simp
 omega
theorem scan1_tx (n : Int) (h : okP n) (q : List Int) : scan1 (tx1 n ++ fmtTail q) = some (n, fmtTail q) := by
 have hn := h.1
 have hn2 := h.2
 unfold tx1
 split
 ·rename_i hl
  rcases fmtTail_head q with e | ⟨r, e⟩
  ·rw [e]
   simp only [List.append_nil, scan1]
   rw [if_pos ⟨dg_isD _ (by omega) (by omega), by rw [dg_vd _ (by omega) (by omega)]; omega⟩, dg_vd _ (by omega) (by omega)]
  ·rw [e]
   simp only [List.cons_append, List.nil_append, scan1]
   rw [if_pos ⟨dg_isD _ (by omega) (by omega), by rw [dg_vd _ (by omega) (by omega)]; omega⟩, if_neg (by rw [isD_dot]; decide), dg_vd _ (by omega) (by omega)]
 ·rename_i hl
  have h0 : 0 ≤ n / 10 ∧ n / 10 ≤ 9 := by omega
  have h1 : 0 ≤ n % 10 ∧ n % 10 ≤ 9 := by omega
  simp only [tx2, List.cons_append, List.nil_append, scan1]
  rw [if_pos ⟨dg_isD _ h0.1 h0.2, by rw [dg_vd _ h0.1 h0.2]; omega⟩, if_pos (dg_isD _ h1.1 h1.2), dg_vd _ h0.1 h0.2, dg_vd _ h1.1 h1.2]
  simp
  omega
theorem prT_tx : ∀ (q : List Int) (m : Nat), q.length ≤ m → (∀ n ∈ q, okP n) → prT m (fmtTail q) = some q := by
 intro q
 induction q with
 | nil => intro m _ _; cases m <;> rfl
 | cons n r ih =>
  intro m hm hq
  obtain ⟨m, rfl⟩ : ∃ k, m = k + 1 := ⟨m - 1, by simp at hm; omega⟩
  simp only [fmtTail, prT, if_true]
  rw [scan1_tx n (hq n (by simp)) r]
  simp only
  rw [ih m (by simp at hm; omega) (fun x hx => hq x (by simp [hx]))]
  rfl
theorem isC_prL {s : List UInt8} {q : List Int} (h : isC s q) : prL s = some q := by
 obtain ⟨⟨h1, h2, h3⟩, rfl⟩ := h
 cases q with
 | nil => simp at h1
 | cons n r =>
  unfold prL
  simp only [fmt]
  rw [scan2_tx n (h3 n (by simp))]
  simp only
  rw [prT_tx r 4 (by simp at h2; omega) (fun x hx => h3 x (by simp [hx]))]
  rfl
theorem pr_ok {s : List UInt8} {q : List Int} (h : isC s q) : pr s = (q, 0) := by unfold pr; rw [isC_prL h]
theorem pr_cases (s : List UInt8) : (∃ q, isC s q ∧ pr s = (q, 0)) ∨ ((∀ q, ¬ isC s q) ∧ pr s = ([], 60)) := by
 rcases h : prL s with _ | q
 ·refine .inr ⟨fun q hq => ?_, ?_⟩
  ·rw [isC_prL hq] at h
   cases h
  ·unfold pr
   rw [h]
 ·exact .inl ⟨q, prL_isC h, by unfold pr; rw [h]⟩

def wordsOf : List Int → List (List UInt8)
 | [] => []
 | n :: r => tx2 n :: r.map tx1
theorem tx2_nodot (n : Int) (h : okP n) : (46 : UInt8) ∉ tx2 n := by
 have h0 : 0 ≤ n / 10 ∧ n / 10 ≤ 9 := by have := h.1; have := h.2; omega
 have h1 : 0 ≤ n % 10 ∧ n % 10 ≤ 9 := by omega
 simp only [tx2, List.mem_cons, List.not_mem_nil, or_false, not_or]
 exact ⟨(dg_ne_dot _ h0.1 h0.2).symm, (dg_ne_dot _ h1.1 h1.2).symm⟩
theorem tx1_nodot (n : Int) (h : okP n) : (46 : UInt8) ∉ tx1 n := by
 unfold tx1
 split
 ·have := h.1
  simp only [List.mem_cons, List.not_mem_nil, or_false]
  exact (dg_ne_dot _ (by omega) (by omega)).symm
 ·exact tx2_nodot n h
theorem index_at : ∀ (w : List UInt8) (r : List UInt8), (46 : UInt8) ∉ w → Lib.index (w ++ 46 :: r) [46] = (w.length : Nat)
 | [], r, _ => by
  rw [List.nil_append, Lib.index]
  simp [List.isPrefixOf]
 | c :: w, r, h => by
  simp only [List.mem_cons, not_or] at h
  have hp : ([46] : List UInt8).isPrefixOf (c :: (w ++ 46 :: r)) = false := by simp [List.isPrefixOf, h.1]
  rw [List.cons_append, Lib.index, hp, index_at w r h.2]
  have : ¬ ((w.length : Nat) : Int) = -1 := by omega
  simp [this]
theorem split_tail : ∀ (q : List Int) (w : List UInt8), (46 : UInt8) ∉ w → (∀ n ∈ q, okP n) → Lib.splitK [46] 0 q.length (w ++ fmtTail q) = w :: q.map tx1
 | [], w, _, _ => by simp [fmtTail, Lib.splitK]
 | n :: r, w, hw, hq => by
  have ih := split_tail r (tx1 n) (tx1_nodot n (hq n (by simp))) (fun x hx => hq x (by simp [hx]))
  simp only [fmtTail, List.length_cons, Lib.splitK]
  rw [index_at w _ hw, if_neg (by simp)]
  simp [ih]
theorem count_tail : ∀ (q : List Int) (w : List UInt8), (46 : UInt8) ∉ w → (∀ n ∈ q, okP n) → (w ++ fmtTail q).count 46 = q.length
 | [], w, hw, _ => by simp [fmtTail, List.count_eq_zero.2 hw]
 | n :: r, w, hw, hq => by
  have ih := count_tail r (tx1 n) (tx1_nodot n (hq n (by simp))) (fun x hx => hq x (by simp [hx]))
  simp only [fmtTail, List.count_append, List.count_eq_zero.2 hw, List.count_cons_self, List.length_cons] at *
  rw [← List.count_append, ← ih]
  simp [List.count_append]
theorem split_fmt {q : List Int} (h : good q) : Lib.split (fmt q) [46] = wordsOf q := by
 obtain ⟨h1, h2, h3⟩ := h
 cases q with
 | nil => simp at h1
 | cons n r =>
  have hn := h3 n (by simp)
  have hr : ∀ x ∈ r, okP x := fun x hx => h3 x (by simp [hx])
  unfold Lib.split
  rw [Lib.count_one]
  simp only [fmt, wordsOf]
  rw [count_tail r _ (tx2_nodot n hn) hr, split_tail r _ (tx2_nodot n hn) hr]
/-- the number that strconv.Atoi hands back, beside whatever error -/
def numL (l : List UInt8) : Int := match Lib.atoiAll l with
 | .ok v => v
 | .range => Lib.atoiSat l
 | _ => 0
theorem num_all : ∀ n : Fin 100, numL (tx1 (n.val : Int)) = n.val ∧ numL (tx2 (n.val : Int)) = n.val ∧ (1 ≤ n.val → Lib.itoa (n.val : Int) = tx1 (n.val : Int)) := by decide +kernel
theorem num_tx1 (n : Int) (h : okP n) : numL (tx1 n) = n := by
 have := h.1
 have := h.2
 have := (num_all ⟨n.toNat, by omega⟩).1
 simp only [show ((n.toNat : Nat) : Int) = n by omega] at this
 exact this
theorem num_tx2 (n : Int) (h : okP n) : numL (tx2 n) = n := by
 have := h.1
 have := h.2
 have := (num_all ⟨n.toNat, by omega⟩).2.1
 simp only [show ((n.toNat : Nat) : Int) = n by omega] at this
 exact this
theorem itoa_tx1 (n : Int) (h : okP n) : Lib.itoa n = tx1 n := by
 have := h.1
 have := h.2
 have := (num_all ⟨n.toNat, by omega⟩).2.2 (by simp; omega)
 simp only [show ((n.toNat : Nat) : Int) = n by omega] at this
 exact this
theorem num_words {q : List Int} (h : ∀ n ∈ q, okP n) : (wordsOf q).map numL = q := by
 cases q with
 | nil => rfl
 | cons n r =>
  have hr : ∀ x ∈ r, okP x := fun x hx => h x (by simp [hx])
  simp only [wordsOf, List.map_cons, num_tx2 n (h n (by simp)), List.map_map, List.cons.injEq, true_and]
  clear h
  induction r with
  | nil => rfl
  | cons x r ih => simp [num_tx1 x (hr x (by simp)), ih (fun y hy => hr y (by simp [hy]))]
/-- Parse as the program has it. -/
theorem pr_split (s : List UInt8) : pr s = (let ps := (Lib.split s [46]).map numL; if good ps ∧ fmt ps = s then (ps, 0) else ([], 60)) := by
 simp only
 split
 ·rename_i h
  exact pr_ok h
 ·rename_i h
  rcases pr_cases s with ⟨q, hq, e⟩ | ⟨hn, e⟩
  ·exfalso
   apply h
   have : (Lib.split s [46]).map numL = q := by rw [← hq.2, split_fmt hq.1, num_words hq.1.2.2]
   rw [this]
   exact hq
  ·exact e
end Go.Proofs.YtpnoliognpmkmaaDoor.Cls
namespace Go.Proofs.YtpnoliognpmkmaaDoor
open Go.RowKit P Cls Go.Proofs.YtpnoliognpmkmaaDoorW.PrintWords
set_option linter.unusedVariables false

theorem w64 {x : Int} (h0 : -9223372036854775808 ≤ x) (h1 : x ≤ 9223372036854775807) : wrap64 x = x := by unfold wrap64; omega
def bs (l : List UInt8) : ByteArray := ⟨l.toArray⟩
theorem bs_data (l : List UInt8) : (bs l).data.toList = l := rfl
theorem bs_toList (l : List UInt8) : (bs l).toList = l := ByteArray.toList_eq _
theorem bs_size (l : List UInt8) : (bs l).size = l.length := by simp [bs, ByteArray.size]
theorem size_data (s : ByteArray) : s.size = s.data.toList.length := by show s.data.size = _; rw [Array.length_toList]
theorem data_inj {a b : ByteArray} (h : a.data.toList = b.data.toList) : a = b := by
 obtain ⟨⟨a⟩⟩ := a
 obtain ⟨⟨b⟩⟩ := b
 simp at h
 rw [h]
theorem bs_append (a b : List UInt8) : bs a ++ bs b = bs (a ++ b) := by
 apply data_inj
 simp [bs]
theorem toList_iff (a b : ByteArray) : a.toList = b.toList ↔ a = b := by
 rw [ByteArray.toList_eq, ByteArray.toList_eq]
 exact ⟨data_inj, fun h => by rw [h]⟩
theorem rd_get {l : List Int} {i : Nat} (h : i < l.length) : rd l (i : Int) = l[i] := by
 unfold rd
 simp [List.getD_eq_getElem?_getD, h]

theorem foldl_min_le (l : List Int) : ∀ a : Int, (l.foldl min a ≤ a) ∧ (∀ x ∈ l, l.foldl min a ≤ x) ∧ (l.foldl min a = a ∨ l.foldl min a ∈ l) := by
 induction l with
 | nil => intro a; simp
 | cons y l ih =>
  intro a
  obtain ⟨h1, h2, h3⟩ := ih (min a y)
  simp only [List.foldl_cons, List.mem_cons, forall_eq_or_imp]
  refine ⟨by omega, ⟨by omega, h2⟩, ?_⟩
  rcases h3 with h | h
  ·rw [h]
   by_cases c : a ≤ y
   ·left; omega
   ·right; left; omega
  ·right; right; exact h
theorem foldl_max_ge (l : List Int) : ∀ a : Int, (a ≤ l.foldl max a) ∧ (∀ x ∈ l, x ≤ l.foldl max a) ∧ (l.foldl max a = a ∨ l.foldl max a ∈ l) := by
 induction l with
 | nil => intro a; simp
 | cons y l ih =>
  intro a
  obtain ⟨h1, h2, h3⟩ := ih (max a y)
  simp only [List.foldl_cons, List.mem_cons, forall_eq_or_imp]
  refine ⟨by omega, ⟨by omega, h2⟩, ?_⟩
  rcases h3 with h | h
  ·rw [h]
   by_cases c : y ≤ a
   ·left; omega
   ·right; left; omega
  ·right; right; exact h
theorem minOf_spec {l : List Int} (h : 0 < l.length) : Lib.minOf l ∈ l ∧ ∀ x ∈ l, Lib.minOf l ≤ x := by
 cases l with
 | nil => simp at h
 | cons a l =>
  obtain ⟨h1, h2, h3⟩ := foldl_min_le (a :: l) a
  unfold Lib.minOf
  simp only [List.headD_cons]
  refine ⟨?_, h2⟩
  rcases h3 with h | h
  ·rw [h]; simp
  ·exact h
theorem maxOf_spec {l : List Int} (h : 0 < l.length) : Lib.maxOf l ∈ l ∧ ∀ x ∈ l, x ≤ Lib.maxOf l := by
 cases l with
 | nil => simp at h
 | cons a l =>
  obtain ⟨h1, h2, h3⟩ := foldl_max_ge (a :: l) a
  unfold Lib.maxOf
  simp only [List.headD_cons]
  refine ⟨?_, h2⟩
  rcases h3 with h | h
  ·rw [h]; simp
  ·exact h
/-- what Format answers -/
def fm (ps : List Int) : ByteArray × Int := if good ps then (bs (fmt ps), 0) else (bs [], 64)
theorem itoa_f {n : Int} (h : okP n) : strconv_Itoa.f n = some (bs (tx1 n)) := by
 unfold strconv_Itoa.f
 have := h.1
 have := h.2
 rw [if_pos ⟨by omega, by omega⟩]
 simp only [itoaB, itoa_tx1 n h]
 rfl
theorem tx2_len (n : Int) : (tx2 n).length = 2 := rfl
theorem tx1_len (n : Int) : 1 ≤ (tx1 n).length ∧ (tx1 n).length ≤ 2 := by
 unfold tx1
 split <;> simp [tx2_len]
theorem fmtTail_len : ∀ q : List Int, (fmtTail q).length ≤ 3 * q.length
 | [] => by simp [fmtTail]
 | n :: r => by
  have := fmtTail_len r
  have := (tx1_len n).2
  simp only [fmtTail, List.length_cons, List.length_append]
  omega
theorem fmt_len (q : List Int) : (fmt q).length ≤ 3 * q.length := by
 cases q with
 | nil => simp [fmt]
 | cons n r =>
  have := fmtTail_len r
  simp only [fmt, List.length_cons, List.length_append, tx2_len]
  omega
theorem format_l0 : ∀ (c : Nat) (k : Nat) (acc : List UInt8) (l : List Int) (i : Nat), i + c = l.length → c < k → acc.length ≤ 1000 → l.length ≤ 100 → (∀ n ∈ l, okP n) → acc.length + 3 * c ≤ 1000 →
  classification_Format.l0 k (bs acc) l l.length i = some (bs (acc ++ fmtTail (l.drop i)), 0) := by
 intro c
 induction c with
 | zero =>
  intro k acc l i h hk _ _ _ _
  obtain ⟨k, rfl⟩ : ∃ q, k = q + 1 := ⟨k - 1, by omega⟩
  simp only [classification_Format.l0]
  rw [if_neg (by omega), List.drop_eq_nil_of_le (by omega)]
  simp [fmtTail]
 | succ c ih =>
  intro k acc l i h hk ha hl ho hb
  obtain ⟨k, rfl⟩ : ∃ q, k = q + 1 := ⟨k - 1, by omega⟩
  simp only [classification_Format.l0]
  have hi : i < l.length := by omega
  have hok := ho l[i] (List.getElem_mem hi)
  rw [if_pos (by omega), if_pos (by omega), if_pos (by omega), rd_get hi, itoa_f hok]
  simp only [Option.bind_some]
  have hs := (tx1_len l[i]).2
  rw [if_pos (by rw [bs_size]; omega), show ((⟨#[46]⟩ : ByteArray) ++ bs (tx1 l[i])) = bs (46 :: tx1 l[i]) from bs_append [46] _, if_pos (by rw [bs_size, bs_size, List.length_cons]; omega), bs_append, w64 (x := (i : Int) + 1) (by omega) (by omega)]
  rw [show ((i : Int) + 1) = ((i + 1 : Nat) : Int) by omega, ih k _ l (i + 1) (by omega) (by omega) (by simp; omega) hl ho (by simp; omega)]
  rw [List.drop_eq_getElem_cons hi]
  simp [fmtTail]
theorem format_eq (k : Nat) (hk : 110 ≤ k) (ps : List Int) : classification_Format.f k ps = some (fm ps) := by
 obtain ⟨k, rfl⟩ : ∃ q, k = q + 2 := ⟨k - 2, by omega⟩
 unfold classification_Format.f fm
 by_cases h1 : (ps.length : Int) < 1
 ·rw [if_pos h1, if_neg (fun h => by have := h.1; omega)]
  rfl
 rw [if_neg h1]
 by_cases h5 : (ps.length : Int) > 5
 ·rw [if_pos h5, if_neg (fun h => by have := h.2.1; omega)]
  rfl
 rw [if_neg h5]
 have hl : 0 < ps.length := by omega
 have hmn := minOf_spec hl
 have hmx := maxOf_spec hl
 unfold slices_Min_int_int.f slices_Max_int_int.f
 rw [if_pos ⟨hl, by omega⟩]
 simp only [Option.bind_some]
 by_cases hm : Lib.minOf ps < 1
 ·rw [if_pos hm, if_neg (fun h => by have := (h.2.2 _ hmn.1).1; omega)]
  rfl
 rw [if_neg hm, if_pos (show 0 < ps.length ∧ ps.length ≤ 9223372036854775807 from ⟨hl, by omega⟩)]
 simp only [Option.bind_some, classification_Format.j0]
 by_cases hx : Lib.maxOf ps > 99
 ·rw [if_pos (by simpa using hx), if_neg (fun h => by have := (h.2.2 _ hmx.1).2; omega)]
  rfl
 rw [if_neg (by simpa using hx)]
 have hg : good ps := ⟨by omega, by omega, fun n hn => ⟨by have := hmn.2 n hn; omega, by have := hmx.2 n hn; omega⟩⟩
 rw [if_pos hg, if_pos (by omega)]
 cases ps with
 | nil => simp at hl
 | cons n r =>
  have hn := hg.2.2 n (by simp)
  have hr : ∀ x ∈ r, okP x := fun x hx => hg.2.2 x (by simp [hx])
  have hlen : r.length ≤ 4 := by have := hg.2.1; simp at this; omega
  have e0 : rd (n :: r) 0 = n := rfl
  rw [e0, itoa_f hn]
  simp only [Option.bind_some]
  have hj : ∀ acc : List UInt8, acc.length ≤ 100 → classification_Format.j1 (k + 1) (n :: r) (bs acc) = some (bs (acc ++ fmtTail r), 0) := by
   intro acc hacc
   simp only [classification_Format.j1]
   rw [if_pos (by simp only [List.length_cons]; omega), show (n :: r).drop 1 = r from rfl]
   have := format_l0 r.length k acc r 0 (by omega) (by omega) (by omega) (by omega) hr (by omega)
   simpa using this
  have hs := (tx1_len n).2
  split
  ·rename_i hlt
   rw [if_pos (by rw [bs_size]; omega), show ((⟨#[48]⟩ : ByteArray) ++ bs (tx1 n)) = bs (48 :: tx1 n) from bs_append [48] _, hj _ (by simp; omega)]
   have e : (48 : UInt8) :: tx1 n = tx2 n := by
    have := hn.1
    unfold tx1 tx2
    rw [if_pos hlt, show n / 10 = 0 by omega, show n % 10 = n by omega]
    rfl
   rw [e]
   rfl
  ·rename_i hlt
   rw [hj _ (by omega)]
   have e : tx1 n = tx2 n := by unfold tx1; rw [if_neg hlt]
   rw [e]
   rfl

theorem split_f (s : ByteArray) (hs : s.size ≤ 100000) : ∃ ws : List ByteArray, strings_Split.f s (⟨#[46]⟩ : ByteArray) = some ws ∧ ws.map (·.data.toList) = Lib.split s.data.toList [46] ∧ ws.length ≤ s.size + 1 := by
 unfold strings_Split.f
 rw [if_pos ⟨by omega, by decide⟩]
 refine ⟨_, rfl, ?_, ?_⟩
 ·unfold splitL Lib.split
  rw [Lib.splitB_data]
 ·unfold splitL
  have := Lib.splitB_all (⟨#[46]⟩ : ByteArray) (by decide) 0 _ s rfl
  have := Lib.countB_le (⟨#[46]⟩ : ByteArray) (by decide) _ s (Nat.le_refl _)
  omega
theorem split_sizes {s : ByteArray} {ws : List ByteArray} (h : ws.map (·.data.toList) = Lib.split s.data.toList [46]) (hs : s.size ≤ 100000) : ∀ x ∈ ws, x.size ≤ 281474976710656 := by
 have hk : ∀ (k : Nat) (l : List UInt8), ∀ w ∈ Lib.splitK [46] 0 k l, w.length ≤ l.length := by
  intro k
  induction k with
  | zero => intro l w hw; simp only [Lib.splitK, List.mem_singleton] at hw; rw [hw]; exact Nat.le_refl _
  | succ k ih =>
   intro l w hw
   simp only [Lib.splitK] at hw
   split at hw
   ·simp only [List.mem_singleton] at hw; rw [hw]; exact Nat.le_refl _
   ·rcases List.mem_cons.1 hw with e | e
    ·rw [e]; simp only [List.length_take]; omega
    ·have := ih _ w e
     simp only [List.length_drop] at this
     omega
 intro x hx
 have hm : x.data.toList ∈ Lib.split s.data.toList [46] := by rw [← h]; exact List.mem_map_of_mem hx
 have := hk _ _ _ hm
 rw [size_data] at hs ⊢
 omega
theorem parse_l0 (s : ByteArray) (ws : List ByteArray) (hz : ∀ x ∈ ws, x.size ≤ 281474976710656) (hw : ws.length ≤ 100001) : ∀ (c k i : Nat) (acc : List Int), i + c = ws.length → c + 120 ≤ k → acc.length = i →
  classification_Parse.l0 k s acc ws ws.length i = (let ps := acc ++ (ws.drop i).map (fun x => numL x.data.toList); if good ps ∧ fmt ps = s.data.toList then some (ps, 0) else some ([], 60)) := by
 intro c
 induction c with
 | zero =>
  intro k i acc h hk ha
  obtain ⟨k, rfl⟩ : ∃ q, k = q + 1 := ⟨k - 1, by omega⟩
  simp only [classification_Parse.l0]
  rw [if_neg (by omega), format_eq k (by omega), List.drop_eq_nil_of_le (by omega)]
  simp only [Option.bind_some, List.map_nil, List.append_nil, fm]
  by_cases hg : good acc
  ·rw [if_pos hg]
   simp only [if_true, ByteArray.toList_eq, bs_data]
   by_cases e : fmt acc = s.data.toList
   ·rw [if_pos e, if_pos ⟨hg, e⟩]
   ·rw [if_neg e, if_neg (fun h => e h.2)]
  ·rw [if_neg hg, if_neg (show ¬ (good acc ∧ fmt acc = s.data.toList) from fun h => hg h.1), if_neg (show ¬ ((bs [], (64 : Int)).2 = 0) by decide)]
 | succ c ih =>
  intro k i acc h hk ha
  obtain ⟨k, rfl⟩ : ∃ q, k = q + 1 := ⟨k - 1, by omega⟩
  simp only [classification_Parse.l0]
  have hi : i < ws.length := by omega
  have e : rdOf ByteArray.empty ws (i : Int) = ws[i] := by unfold rdOf; simp [List.getD_eq_getElem?_getD, hi]
  rw [if_pos (by omega), if_pos (by omega), if_pos (by omega), e]
  unfold strconv_Atoi.f
  rw [if_pos (hz _ (List.getElem_mem hi))]
  simp only [Option.bind_some]
  rw [if_pos (by omega), w64 (x := (i : Int) + 1) (by omega) (by omega), show ((i : Int) + 1) = ((i + 1 : Nat) : Int) by omega, ih k (i + 1) _ (by omega) (by omega) (by simp; omega), List.drop_eq_getElem_cons hi]
  simp only [List.append_assoc, List.map_cons, List.singleton_append]
  rfl
theorem parse_eq (k : Nat) (s : ByteArray) (hs : s.size ≤ 1000) (hk : 2000 ≤ k) : classification_Parse.f k s = some (pr s.data.toList) := by
 unfold classification_Parse.f
 obtain ⟨ws, e1, e2, e3⟩ := split_f s (by omega)
 rw [e1]
 simp only [Option.bind_some]
 have := parse_l0 s ws (split_sizes e2 (by omega)) (by omega) ws.length k 0 [] (by omega) (by omega) rfl
 rw [show ((0 : Nat) : Int) = 0 from rfl] at this
 rw [this, pr_split, ← e2]
 simp only [List.nil_append, List.drop_zero, List.map_map]
 have e : List.map (numL ∘ fun x : ByteArray => x.data.toList) ws = List.map (fun x => numL x.data.toList) ws := rfl
 rw [e]
 split <;> rfl
def isB (s : List UInt8) : Bool := (pr s).2 == 0
theorem is_eq (k : Nat) (s : ByteArray) (hs : s.size ≤ 1000) (hk : 2000 ≤ k) : classification_is.f k s = some (isB s.data.toList) := by
 unfold classification_is.f
 rw [parse_eq k s hs hk]
 rfl
/-- class -/
def kl (s : List UInt8) : Int := if s = [] then 0 else if isB s = true then 1 else 2
theorem class_eq (k : Nat) (s : ByteArray) (hs : s.size ≤ 1000) (hk : 2000 ≤ k) : classification_class.f k s = some (kl s.data.toList) := by
 unfold classification_class.f kl
 rw [ByteArray.toList_eq]
 split
 ·rfl
 ·rw [is_eq k s hs hk]
  simp only [Option.bind_some]
  split <;> rfl
theorem in_eq (k : Nat) (s : ByteArray) (hs : s.size ≤ 1000) (hk : 2000 ≤ k) : classification_CompareIn.f k s = some (kl s.data.toList, (pr s.data.toList).1) := by
 unfold classification_CompareIn.f
 rw [parse_eq k s hs hk]
 simp only [Option.bind_some]
 rw [class_eq k s hs hk]
 rfl
end Go.Proofs.YtpnoliognpmkmaaDoor
namespace Go.Proofs.YtpnoliognpmkmaaDoor
open Go.RowKit P Cls Go.Proofs.YtpnoliognpmkmaaDoorW.PrintWords
set_option linter.unusedVariables false

theorem bt_cons {s : ByteArray} {i : Nat} {c : UInt8} {t : List UInt8} (h : s.data.toList.drop i = c :: t) : i < s.size ∧ bt s (i : Int) = c.toNat ∧ s.data.toList.drop (i + 1) = t := by
 have hl : i < s.data.toList.length := by
  rcases Nat.lt_or_ge i s.data.toList.length with h1 | h1
  ·exact h1
  ·rw [List.drop_eq_nil_of_le h1] at h; cases h
 have hs : i < s.size := by rw [size_data]; exact hl
 rw [List.drop_eq_getElem_cons hl] at h
 injection h with h1 h2
 refine ⟨hs, ?_, h2⟩
 unfold bt
 rw [dif_pos (by simpa using hs)]
 rw [← h1]
 rfl
theorem drop_nil {s : ByteArray} {i : Nat} (h : s.data.toList.drop i = []) (hi : i ≤ s.size) : i = s.size := by
 rw [size_data] at *
 have := List.drop_eq_nil_iff.1 h
 omega
def fin (k : Nat) (s : ByteArray) (o : List Int) (at_ : Nat) : Option (List Int × Int) :=
 if at_ = s.size then some (o, 0) else if bt s (at_ : Int) = 46 then priceofficeref06_Parse.l0 k s o ((at_ + 1 : Nat) : Int) else some ([], 60)
theorem rj3 (k : Nat) (s : ByteArray) (o : List Int) (at_ : Nat) (n : Int) (b : Bool) (ho : o.length ≤ 5) (ha : at_ ≤ s.size) (hs : s.size ≤ 1000) :
  priceofficeref06_Parse.j3 (k + 1) s o at_ n b = if b = true then some ([], 60) else fin k s (o ++ [n]) at_ := by
 simp only [priceofficeref06_Parse.j3]
 cases b with
 | true => rfl
 | false =>
  simp only [Bool.false_eq_true, if_false]
  rw [if_pos (by omega)]
  simp only [Option.bind_some, fin]
  by_cases e : at_ = s.size
  ·rw [if_pos (by omega), if_pos e]
  ·rw [if_neg (by omega), if_neg e, if_pos (by omega), if_pos (by omega)]
   rw [w64 (x := (at_ : Int) + 1) (by omega) (by omega)]
   rfl
theorem rj2 (k : Nat) (s : ByteArray) (o : List Int) (at_ from_ : Nat) (n : Int) (ho : o.length ≤ 5) (ha : at_ ≤ s.size) (hs : s.size ≤ 1000) (hf : from_ < at_) :
  priceofficeref06_Parse.j2 (k + 2) s o at_ n from_ = if n = 0 ∨ (o = [] ∧ at_ ≠ from_ + 2) ∨ (o ≠ [] ∧ bt s (from_ : Int) = 48) ∨ o.length = 5 then some ([], 60) else fin k s (o ++ [n]) at_ := by
 simp only [priceofficeref06_Parse.j2]
 rw [if_neg (by omega)]
 by_cases hn : n = 0
 ·rw [if_pos hn, rj3 k s o at_ n true ho ha hs, if_pos rfl, if_pos (Or.inl hn)]
 rw [if_neg hn]
 cases o with
 | nil =>
  simp only [List.length_nil]
  rw [if_pos (by simp), w64 (by omega) (by omega)]
  by_cases hw : (at_ : Int) - from_ = 2
  ·rw [if_pos hw, if_neg (by simp), rj3 k s [] at_ n _ (by simp) ha hs]
   rw [if_neg (by simp), if_neg]
   simp [hn]
   omega
  ·rw [if_neg hw, rj3 k s [] at_ n true (by simp) ha hs, if_pos rfl, if_pos]
   right; left
   exact ⟨by trivial, by omega⟩
 | cons x r =>
  have hpos : 0 < (x :: r).length := by simp
  rw [if_neg (by omega), if_pos (by omega), if_pos (by omega), if_pos (by omega)]
  by_cases hz : bt s (from_ : Int) = 48
  ·rw [if_pos hz, rj3 k s _ at_ n true ho ha hs, if_pos rfl, if_pos]
   right; right; left
   exact ⟨by simp, hz⟩
  ·rw [if_neg hz, rj3 k s _ at_ n _ ho ha hs]
   by_cases h5 : (x :: r).length = 5
   ·rw [if_pos (by rw [h5]; rfl), if_pos]
    right; right; right
    exact h5
   ·rw [if_neg (by simp only [beq_iff_eq]; omega), if_neg]
    intro h
    rcases h with h | h | h | h
    ·exact hn h
    ·cases h.1
    ·exact hz h.2
    ·exact h5 h
theorem digit_bt {c : UInt8} : (isD c = true) ↔ ((c.toNat : Int) ≥ 48 ∧ (c.toNat : Int) ≤ 57) := by
 simp [isD]
 omega
theorem l1_j2 (k : Nat) (s : ByteArray) (o : List Int) (at_ from_ : Nat) (n : Int) (h : at_ = from_ + 2) (ha : at_ ≤ s.size) (hs : s.size ≤ 1000) :
  priceofficeref06_Parse.l1 (k + 1) s o at_ n from_ = priceofficeref06_Parse.j2 k s o at_ n from_ := by
 simp only [priceofficeref06_Parse.l1]
 rw [w64 (x := (at_ : Int) - from_) (by omega) (by omega)]
 rw [if_neg (show ¬ ((at_ : Int) - from_ < 2) by omega)]
 simp only [ite_self]
 by_cases h1 : (at_ : Int) < s.size
 ·rw [if_pos h1, if_pos (by omega)]
 ·rw [if_neg h1]
theorem l0_turn (k : Nat) (s : ByteArray) (o : List Int) (at_ : Nat) (ho : o.length ≤ 5) (ha : at_ ≤ s.size) (hs : s.size ≤ 1000) :
  priceofficeref06_Parse.l0 (k + 6) s o at_ = some ([], 60) ∧ (if o = [] then scan2 (s.data.toList.drop at_) else scan1 (s.data.toList.drop at_)) = none ∨
  ∃ n r' k', k ≤ k' ∧ k' ≤ k + 6 ∧ (if o = [] then scan2 (s.data.toList.drop at_) else scan1 (s.data.toList.drop at_)) = some (n, r') ∧ r' = s.data.toList.drop (s.size - r'.length) ∧ r'.length ≤ s.size ∧
   priceofficeref06_Parse.l0 (k + 6) s o at_ = if o.length = 5 then some ([], 60) else fin k' s (o ++ [n]) (s.size - r'.length) := by
 simp only [priceofficeref06_Parse.l0]
 rcases hr : s.data.toList.drop at_ with _ | ⟨c, t⟩
 ·left
  have e := drop_nil hr ha
  simp only [priceofficeref06_Parse.l1, priceofficeref06_Parse.j2]
  rw [if_neg (by omega), if_pos trivial, rj3 _ s o at_ 0 true ho ha hs]
  exact ⟨rfl, by split <;> rfl⟩
 obtain ⟨h1, hb, ht⟩ := bt_cons hr
 by_cases hd : isD c = true
 ·have hv := vd_range c hd
  have e1 : priceofficeref06_Parse.l1 (k + 5) s o at_ 0 at_ = priceofficeref06_Parse.l1 (k + 4) s o ((at_ + 1 : Nat) : Int) (vd c) at_ := by
   rw [priceofficeref06_Parse.l1]
   rw [if_pos (by omega), if_pos (by omega), hb, if_pos (digit_bt.1 hd).1, if_pos (digit_bt.1 hd).2, w64 (x := (at_ : Int) - at_) (by omega) (by omega), if_pos (by omega), w64 (x := (at_ : Int) + 1) (by omega) (by omega)]
   have e : wrap64 (wrap64 (10 * 0) + ((c.toNat : Int) - 48) % 256) = vd c := by
    have := (digit_bt.1 hd)
    unfold vd
    rw [show wrap64 (10 * 0) = 0 by unfold wrap64; omega, w64 (by omega) (by omega)]
    omega
   rw [e]
   rfl
  rw [e1]
  rcases hr2 : s.data.toList.drop (at_ + 1) with _ | ⟨d, t2⟩
  ·have e2 := drop_nil hr2 (by omega)
   have et : t = [] := by rw [← ht, hr2]
   subst et
   have e3 : priceofficeref06_Parse.l1 (k + 4) s o ((at_ + 1 : Nat) : Int) (vd c) at_ = priceofficeref06_Parse.j2 (k + 3) s o ((at_ + 1 : Nat) : Int) (vd c) at_ := by
    rw [priceofficeref06_Parse.l1, if_neg (by omega)]
   rw [e3, rj2 (k + 1) s o (at_ + 1) at_ (vd c) ho (by omega) hs (by omega), hb]
   by_cases hoe : o = []
   ·left
    rw [if_pos (by right; left; exact ⟨hoe, by omega⟩), if_pos hoe]
    exact ⟨rfl, rfl⟩
   ·simp only [if_neg hoe, scan1]
    by_cases hz : 1 ≤ vd c
    ·right
     refine ⟨vd c, [], k + 1, by omega, by omega, by rw [if_pos ⟨hd, hz⟩], by rw [List.length_nil, List.drop_eq_nil_of_le (by rw [size_data]; omega)], by simp, ?_⟩
     have hc48 : ¬ ((c.toNat : Int) = 48) := by unfold vd at hz; omega
     by_cases h5 : o.length = 5
     ·rw [if_pos (by right; right; right; exact h5), if_pos h5]
     ·rw [if_neg (by rintro (h | h | h | h); exact absurd h (by omega); exact hoe h.1; exact hc48 h.2; exact h5 h), if_neg h5]
      rw [show s.size - ([] : List UInt8).length = at_ + 1 by simp; omega]
    ·left
     rw [if_pos (by left; omega), if_neg (fun h => hz h.2)]
     exact ⟨rfl, rfl⟩
  ·obtain ⟨h2, hb2, ht2⟩ := bt_cons hr2
   have et : t = d :: t2 := by rw [← ht, hr2]
   subst et
   by_cases hd2 : isD d = true
   ·have hv2 := vd_range d hd2
    have e3 : priceofficeref06_Parse.l1 (k + 4) s o ((at_ + 1 : Nat) : Int) (vd c) at_ = priceofficeref06_Parse.l1 (k + 3) s o ((at_ + 2 : Nat) : Int) (10 * vd c + vd d) at_ := by
     rw [priceofficeref06_Parse.l1]
     rw [if_pos (by omega), if_pos (by omega), hb2, if_pos (digit_bt.1 hd2).1, if_pos (digit_bt.1 hd2).2, w64 (x := ((at_ + 1 : Nat) : Int) - at_) (by omega) (by omega), if_pos (by omega), w64 (x := ((at_ + 1 : Nat) : Int) + 1) (by omega) (by omega)]
     have e : wrap64 (wrap64 (10 * vd c) + ((d.toNat : Int) - 48) % 256) = 10 * vd c + vd d := by
      have := (digit_bt.1 hd2)
      rw [w64 (x := 10 * vd c) (by omega) (by omega), w64 (by unfold vd at *; omega) (by unfold vd at *; omega)]
      unfold vd
      omega
     rw [e, show ((at_ + 1 : Nat) : Int) + 1 = ((at_ + 2 : Nat) : Int) by omega]
    rw [e3, l1_j2 (k + 2) s o (at_ + 2) at_ _ rfl (by omega) hs, rj2 k s o (at_ + 2) at_ _ ho (by omega) hs (by omega), hb]
    have hlen : t2.length = s.size - (at_ + 2) := by rw [← ht2, List.length_drop, size_data]
    by_cases hoe : o = []
    ·simp only [if_pos hoe, scan2]
     by_cases hz : 1 ≤ 10 * vd c + vd d
     ·right
      refine ⟨_, t2, k, by omega, by omega, by rw [if_pos ⟨hd, hd2, hz⟩], by rw [hlen, show s.size - (s.size - (at_ + 2)) = at_ + 1 + 1 by omega, ht2], by omega, ?_⟩
      have h5 : ¬ o.length = 5 := by rw [hoe]; simp
      rw [if_neg (by rintro (h | h | h | h); exact absurd h (by omega); exact h.2 rfl; exact h.1 hoe; exact h5 h), if_neg h5, show s.size - t2.length = at_ + 2 by omega]
     ·left
      rw [if_pos (by left; omega), if_neg (fun h => hz h.2.2)]
      exact ⟨rfl, rfl⟩
    ·simp only [if_neg hoe, scan1]
     by_cases hz : 1 ≤ vd c
     ·right
      refine ⟨_, t2, k, by omega, by omega, by rw [if_pos ⟨hd, hz⟩, if_pos hd2], by rw [hlen, show s.size - (s.size - (at_ + 2)) = at_ + 1 + 1 by omega, ht2], by omega, ?_⟩
      have hc48 : ¬ ((c.toNat : Int) = 48) := by unfold vd at hz; omega
      by_cases h5 : o.length = 5
      ·rw [if_pos (by right; right; right; exact h5), if_pos h5]
      ·rw [if_neg (by rintro (h | h | h | h); exact absurd h (by omega); exact hoe h.1; exact hc48 h.2; exact h5 h), if_neg h5, show s.size - t2.length = at_ + 2 by omega]
     ·left
      have hc48 : (c.toNat : Int) = 48 := by unfold vd at hz hv; omega
      rw [if_pos (by right; right; left; exact ⟨hoe, hc48⟩), if_neg (fun h => hz h.2)]
      exact ⟨rfl, rfl⟩
   ·have e3 : priceofficeref06_Parse.l1 (k + 4) s o ((at_ + 1 : Nat) : Int) (vd c) at_ = priceofficeref06_Parse.j2 (k + 3) s o ((at_ + 1 : Nat) : Int) (vd c) at_ := by
     rw [priceofficeref06_Parse.l1, if_pos (by omega), if_pos (by omega), hb2]
     by_cases h48 : (d.toNat : Int) ≥ 48
     ·rw [if_pos h48, if_neg (fun h => hd2 (digit_bt.2 ⟨h48, h⟩))]
     ·rw [if_neg h48]
    rw [e3, rj2 (k + 1) s o (at_ + 1) at_ (vd c) ho (by omega) hs (by omega), hb]
    have hlen : (d :: t2).length = s.size - (at_ + 1) := by rw [← hr2, List.length_drop, size_data]
    by_cases hoe : o = []
    ·left
     rw [if_pos (by right; left; exact ⟨hoe, by omega⟩), if_pos hoe]
     simp [scan2, hd2]
    ·simp only [if_neg hoe, scan1]
     by_cases hz : 1 ≤ vd c
     ·right
      refine ⟨_, d :: t2, k + 1, by omega, by omega, by rw [if_pos ⟨hd, hz⟩, if_neg hd2], by rw [hlen, show s.size - (s.size - (at_ + 1)) = at_ + 1 by omega, hr2], by omega, ?_⟩
      have hc48 : ¬ ((c.toNat : Int) = 48) := by unfold vd at hz; omega
      by_cases h5 : o.length = 5
      ·rw [if_pos (by right; right; right; exact h5), if_pos h5]
      ·rw [if_neg (by rintro (h | h | h | h); exact absurd h (by omega); exact hoe h.1; exact hc48 h.2; exact h5 h), if_neg h5, show s.size - (d :: t2).length = at_ + 1 by omega]
     ·left
      rw [if_pos (by left; omega), if_neg (fun h => hz h.2)]
      exact ⟨rfl, rfl⟩
 ·left
  have e1 : priceofficeref06_Parse.l1 (k + 5) s o at_ 0 at_ = priceofficeref06_Parse.j2 (k + 4) s o at_ 0 at_ := by
   rw [priceofficeref06_Parse.l1, if_pos (by omega), if_pos (by omega), hb]
   by_cases h48 : (c.toNat : Int) ≥ 48
   ·rw [if_pos h48, if_neg (fun h => hd (digit_bt.2 ⟨h48, h⟩))]
   ·rw [if_neg h48]
  rw [e1]
  simp only [priceofficeref06_Parse.j2]
  rw [if_pos trivial, rj3 _ s o at_ 0 true ho ha hs]
  refine ⟨rfl, ?_⟩
  split
  ·cases t with
   | nil => rfl
   | cons d t2 => simp [scan2, hd]
  ·cases t with
   | nil => simp [scan1, hd]
   | cons d t2 => simp [scan1, hd]
theorem fin_eq {s : ByteArray} (m : Nat) (ih : ∀ (k at_ : Nat) (o : List Int), o.length + m = 5 → 0 < o.length → at_ ≤ s.size → 10 * m + 10 ≤ k →
   priceofficeref06_Parse.l0 k s o at_ = some (match prT m (46 :: s.data.toList.drop at_) with | some q => (o ++ q, 0) | none => ([], 60)))
  (k at_ : Nat) (o : List Int) (ho : o.length + m = 5) (ho0 : 0 < o.length) (ha : at_ ≤ s.size) (hk : 10 * m + 10 ≤ k) :
  fin k s o at_ = some (match prT m (s.data.toList.drop at_) with | some q => (o ++ q, 0) | none => ([], 60)) := by
 unfold fin
 rcases hr : s.data.toList.drop at_ with _ | ⟨c, t⟩
 ·rw [if_pos (drop_nil hr ha)]
  cases m <;> simp [prT]
 ·obtain ⟨h1, hb, ht⟩ := bt_cons hr
  rw [if_neg (by omega), hb]
  by_cases h46 : c = 46
  ·subst h46
   rw [if_pos (by decide), ih k (at_ + 1) o ho ho0 (by omega) hk, ht]
  ·rw [if_neg]
   ·cases m <;> simp [prT, h46]
   ·intro h
    apply h46
    apply UInt8.toNat_inj.1
    have : (46 : UInt8).toNat = 46 := rfl
    omega
theorem rparse_tail (s : ByteArray) (hs : s.size ≤ 1000) : ∀ (m k at_ : Nat) (o : List Int), o.length + m = 5 → 0 < o.length → at_ ≤ s.size → 10 * m + 10 ≤ k →
  priceofficeref06_Parse.l0 k s o at_ = some (match prT m (46 :: s.data.toList.drop at_) with | some q => (o ++ q, 0) | none => ([], 60)) := by
 intro m
 induction m with
 | zero =>
  intro k at_ o ho ho0 ha hk
  obtain ⟨k, rfl⟩ : ∃ q, k = q + 6 := ⟨k - 6, by omega⟩
  rcases l0_turn k s o at_ (by omega) ha hs with ⟨h, _⟩ | ⟨n, r', k', _, _, _, _, _, h⟩
  ·rw [h]; rfl
  ·rw [h, if_pos (by omega)]; rfl
 | succ m ih =>
  intro k at_ o ho ho0 ha hk
  obtain ⟨k, rfl⟩ : ∃ q, k = q + 6 := ⟨k - 6, by omega⟩
  have hoe : o ≠ [] := by intro h; rw [h] at ho0; simp at ho0
  rcases l0_turn k s o at_ (by omega) ha hs with ⟨h, e⟩ | ⟨n, r', k', hk1, hk2, e, hr', hrl, h⟩
  ·rw [if_neg hoe] at e
   rw [h]
   simp [prT, e]
  ·rw [if_neg hoe] at e
   rw [h, if_neg (by omega), fin_eq m ih k' _ (o ++ [n]) (by simp; omega) (by simp) (by omega) (by omega), ← hr']
   simp only [prT, if_true, e]
   cases prT m r' <;> simp
theorem rparse_eq (k : Nat) (s : ByteArray) (hs : s.size ≤ 1000) (hk : 2000 ≤ k) : priceofficeref06_Parse.f k s = some (pr s.data.toList) := by
 unfold priceofficeref06_Parse.f
 obtain ⟨k, rfl⟩ : ∃ q, k = q + 6 := ⟨k - 6, by omega⟩
 have key := l0_turn k s [] 0 (by simp) (by omega) hs
 rw [show ((0 : Nat) : Int) = 0 from rfl] at key
 simp only [if_true, List.drop_zero, List.length_nil] at key
 unfold pr prL
 rcases key with ⟨h, e⟩ | ⟨n, r', k', hk1, hk2, e, hr', hrl, h⟩
 ·rw [h, e]
 ·rw [h, if_neg (by decide), fin_eq 4 (rparse_tail s hs 4) k' _ ([] ++ [n]) rfl (by simp) (by omega) (by omega), ← hr', e]
  simp only
  cases prT 4 r' <;> simp
end Go.Proofs.YtpnoliognpmkmaaDoor
namespace Go.Proofs.YtpnoliognpmkmaaDoor
open Go.RowKit P Cls Go.Proofs.YtpnoliognpmkmaaDoorW.PrintWords
set_option linter.unusedVariables false

theorem tmod_nn {a : Int} (b : Int) (h : 0 ≤ a) : Int.tmod a b = a % b := Int.tmod_eq_emod_of_nonneg h
theorem tdiv_nn {a : Int} (b : Int) (h : 0 ≤ a) : Int.tdiv a b = a / b := Int.tdiv_eq_ediv_of_nonneg h
theorem son (x : Int) : strOfNums [x] = bs [UInt8.ofNat x.toNat] := rfl
theorem dgt {n : Int} (h0 : 0 ≤ n) (h1 : n ≤ 9) : strOfNums [(wrap64 (48 + n)) % 256] = bs [dg n] := by
 rw [son, w64 (by omega) (by omega), show (48 + n) % 256 = 48 + n by omega]
 unfold dg
 rw [show (48 + n).toNat = 48 + n.toNat by omega]
theorem rfmt_l0 (ps : List Int) (hl : ps.length ≤ 5) : ∀ (c k i : Nat) (acc : List UInt8), i + c = ps.length → 2 * c < k → acc.length ≤ 100 → acc.length + 3 * c ≤ 100 →
  priceofficeref06_Format.l0 k (bs acc) ps ps.length i = some (if ∀ n ∈ ps.drop i, okP n then (bs (acc ++ if i = 0 then fmt (ps.drop i) else fmtTail (ps.drop i)), 0) else (bs [], 64)) := by
 intro c
 induction c with
 | zero =>
  intro k i acc h hk ha hb
  obtain ⟨k, rfl⟩ : ∃ q, k = q + 1 := ⟨k - 1, by omega⟩
  simp only [priceofficeref06_Format.l0]
  rw [if_neg (by omega), List.drop_eq_nil_of_le (by omega)]
  simp [fmt, fmtTail]
 | succ c ih =>
  intro k i acc h hk ha hb
  obtain ⟨k, rfl⟩ : ∃ q, k = q + 2 := ⟨k - 2, by omega⟩
  rw [priceofficeref06_Format.l0]
  have hi : i < ps.length := by omega
  rw [if_pos (by omega), if_pos (by omega), if_pos (by omega), rd_get hi]
  have hdrop := List.drop_eq_getElem_cons hi
  generalize hn : ps[i] = n at *
  by_cases hb1 : n < 1
  ·rw [if_pos hb1]
   simp only [priceofficeref06_Format.j2]
   rw [if_neg (show ¬ ∀ n ∈ ps.drop i, okP n from fun h => by have := (h n (by rw [hdrop]; simp)).1; omega)]
   rfl
  rw [if_neg hb1]
  simp only [priceofficeref06_Format.j2]
  by_cases hb2 : n > 99
  ·rw [if_pos (by simpa using hb2), if_neg (show ¬ ∀ n ∈ ps.drop i, okP n from fun h => by have := (h n (by rw [hdrop]; simp)).2; omega)]
   rfl
  rw [if_neg (by simpa using hb2)]
  have hok : okP n := ⟨by omega, by omega⟩
  have hiff : (∀ x ∈ ps.drop i, okP x) ↔ (∀ x ∈ ps.drop (i + 1), okP x) := by
   rw [hdrop]
   simp [hok]
  have ed : strOfNums [(wrap64 (48 + (wrap64 (Int.tdiv n 10)))) % 256] = bs [dg (n / 10)] := by
   rw [tdiv_nn _ (by omega), w64 (x := n / 10) (by omega) (by omega)]
   exact dgt (by omega) (by omega)
  have em : strOfNums [(wrap64 (48 + (Int.tmod n 10))) % 256] = bs [dg (n % 10)] := by
   rw [tmod_nn _ (by omega)]
   exact dgt (by omega) (by omega)
  have edot : (⟨#[46]⟩ : ByteArray) = bs [46] := rfl
  have next : ∀ acc' : List UInt8, acc'.length ≤ acc.length + 3 → priceofficeref06_Format.l0 k (bs acc') ps ps.length ((i + 1 : Nat) : Int) = some (if ∀ n ∈ ps.drop (i + 1), okP n then (bs (acc' ++ fmtTail (ps.drop (i + 1))), 0) else (bs [], 64)) := by
   intro acc' h'
   have := ih k (i + 1) acc' (by omega) (by omega) (by omega) (by omega)
   rw [this, if_neg (show ¬ i + 1 = 0 by omega)]
  have ei : wrap64 ((i : Int) + 1) = ((i + 1 : Nat) : Int) := by rw [w64 (by omega) (by omega)]; omega
  simp only [Option.bind_some, ed, em, edot, bs_append, bs_size, ei]
  by_cases hp : (i : Int) > 0
  ·rw [if_pos hp, if_pos (by omega)]
   by_cases h9 : n > 9
   ·rw [if_pos h9, if_pos (by simp; omega), if_pos (by simp; omega), next _ (by simp)]
    simp only [hiff]
    rw [if_neg (show ¬ i = 0 by omega), hdrop]
    simp [fmtTail, tx1, show ¬ n < 10 by omega, tx2]
   ·rw [if_neg h9, if_neg (by omega), if_pos (by simp; omega), next _ (by simp)]
    simp only [hiff]
    rw [if_neg (show ¬ i = 0 by omega), hdrop]
    simp [fmtTail, tx1, show n < 10 by omega, show n % 10 = n by omega]
  ·rw [if_neg hp]
   have h0 : i = 0 := by omega
   have fin2 : priceofficeref06_Format.l0 k (bs (acc ++ [dg (n / 10)] ++ [dg (n % 10)])) ps ps.length ((i + 1 : Nat) : Int) = some (if ∀ n ∈ ps.drop i, okP n then (bs (acc ++ if i = 0 then fmt (ps.drop i) else fmtTail (ps.drop i)), 0) else (bs [], 64)) := by
    rw [next _ (by simp)]
    simp only [hiff]
    rw [if_pos h0, hdrop]
    simp [fmt, tx2]
   by_cases h9 : n > 9
   ·rw [if_pos h9, if_pos (by simp; omega), if_pos (by simp; omega), fin2]
   ·rw [if_neg h9, if_pos (by omega), if_pos (by simp; omega), if_pos (by simp; omega), fin2]
theorem rformat_eq (k : Nat) (hk : 110 ≤ k) (ps : List Int) : priceofficeref06_Format.f k ps = some (fm ps) := by
 obtain ⟨k, rfl⟩ : ∃ q, k = q + 1 := ⟨k - 1, by omega⟩
 unfold priceofficeref06_Format.f fm
 by_cases h1 : (ps.length : Int) < 1
 ·rw [if_pos h1, if_neg (fun h => by have := h.1; omega)]
  rfl
 rw [if_neg h1]
 simp only [priceofficeref06_Format.j0]
 by_cases h5 : (ps.length : Int) > 5
 ·rw [if_pos (by simpa using h5), if_neg (fun h => by have := h.2.1; omega)]
  rfl
 rw [if_neg (by simpa using h5)]
 have := rfmt_l0 ps (by omega) ps.length k 0 [] (by omega) (by omega) (by simp) (by simp; omega)
 rw [show (⟨#[]⟩ : ByteArray) = bs [] from rfl, show (0 : Int) = ((0 : Nat) : Int) from rfl, this]
 simp only [List.drop_zero, if_true, List.nil_append]
 by_cases hg : ∀ n ∈ ps, okP n
 ·rw [if_pos hg, if_pos ⟨by omega, by omega, hg⟩]
  rfl
 ·rw [if_neg hg, if_neg (fun h => hg h.2.2)]

theorem mx_ge {a b : Int} (h : b ≤ a) : mx a b = a := by unfold mx; split <;> omega
theorem next_ex (l : List Int) (i n : Int) (h0 : 0 ≤ i) (hi : i ≤ 4611686018427387904) (h1 : 1 ≤ n) (h2 : n ≤ 4611686018427387904) : ∃ r, priceofficemake_Tape_Next.f l i n = some (r, i + 1) ∧ 0 ≤ r ∧ r < n := by
 unfold priceofficemake_Tape_Next.f
 rw [mx_ge h1, IntKind.wrap_u64, IntKind.wrap_u64, Int.emod_eq_of_lt (a := n) (by omega) (by omega), w64 (x := i + 1) (by omega) (by omega)]
 by_cases hl : i < l.length
 ·rw [if_pos hl, if_pos h0, if_neg (by omega), tmod_nn _ (by omega)]
  have a := Int.emod_nonneg (rd l i % 18446744073709551616) (show n ≠ 0 by omega)
  have b := Int.emod_lt_of_pos (rd l i % 18446744073709551616) (show 0 < n by omega)
  exact ⟨_, by rw [w64 (by omega) (by omega)], a, b⟩
 ·rw [if_neg hl, if_neg (by omega)]
  exact ⟨0, rfl, by omega, by omega⟩
end Go.Proofs.YtpnoliognpmkmaaDoor
namespace Go.Proofs.YtpnoliognpmkmaaDoor
open Go.RowKit P Cls Go.Proofs.YtpnoliognpmkmaaDoorW.PrintWords
set_option linter.unusedVariables false

def lexi : List Int → List Int → Int
 | [], [] => 0
 | [], _ :: _ => -1
 | _ :: _, [] => 1
 | x :: a, y :: b => if x < y then -1 else if y < x then 1 else lexi a b
theorem lexi_turned : ∀ a b : List Int, lexi b a = -lexi a b
 | [], [] => rfl
 | [], _ :: _ => rfl
 | _ :: _, [] => rfl
 | x :: a, y :: b => by
  have ih := lexi_turned a b
  simp only [lexi]
  by_cases h1 : x < y
  ·rw [if_pos h1, if_neg (by omega), if_pos h1]; rfl
  ·by_cases h2 : y < x
   ·simp only [if_neg h1, if_pos h2]
   ·simp only [if_neg h2, if_neg h1, ih]
theorem lexi_zero : ∀ a b : List Int, lexi a b = 0 ↔ a = b
 | [], [] => by simp [lexi]
 | [], _ :: _ => by simp [lexi]
 | _ :: _, [] => by simp [lexi]
 | x :: a, y :: b => by
  have ih := lexi_zero a b
  simp only [lexi]
  by_cases h1 : x < y
  ·rw [if_pos h1]; simp; omega
  ·rw [if_neg h1]
   by_cases h2 : y < x
   ·rw [if_pos h2]; simp; omega
   ·rw [if_neg h2, ih]
    have : x = y := by omega
    simp [this]
theorem lexi_trans : ∀ a b c : List Int, lexi a b ≤ 0 → lexi b c ≤ 0 → lexi a c ≤ 0
 | [], _, [] => fun _ _ => by simp [lexi]
 | [], _, _ :: _ => fun _ _ => by simp [lexi]
 | _ :: _, [], _ => fun h _ => by simp [lexi] at h
 | _ :: _, _ :: _, [] => fun _ h => by simp [lexi] at h
 | x :: a, y :: b, z :: c => fun h1 h2 => by
  have ih := lexi_trans a b c
  simp only [lexi] at *
  by_cases a1 : x < y
  ·by_cases a2 : y < z
   ·rw [if_pos (by omega)]; decide
   ·rw [if_neg a2] at h2
    by_cases a3 : z < y
    ·rw [if_pos a3] at h2; omega
    ·rw [if_pos (by omega)]; decide
  ·rw [if_neg a1] at h1
   by_cases a2 : y < x
   ·rw [if_pos a2] at h1; omega
   ·rw [if_neg a2] at h1
    by_cases a3 : y < z
    ·rw [if_pos (by omega)]; decide
    ·rw [if_neg a3] at h2
     by_cases a4 : z < y
     ·rw [if_pos a4] at h2; omega
     ·rw [if_neg a4] at h2
      rw [if_neg (by omega), if_neg (by omega)]
      exact ih h1 h2
theorem bytes_lexi : ∀ a b : List UInt8, Lib.compareBytes a b = lexi (a.map fun c => (c.toNat : Int)) (b.map fun c => (c.toNat : Int))
 | [], [] => rfl
 | [], _ :: _ => rfl
 | _ :: _, [] => rfl
 | x :: a, y :: b => by
  have ih := bytes_lexi a b
  simp only [Lib.compareBytes, List.map_cons, lexi, ih, UInt8.lt_iff_toNat_lt]
  by_cases h1 : x.toNat < y.toNat
  ·rw [if_pos h1, if_pos (by omega)]
  ·rw [if_neg h1, if_neg (show ¬ ((x.toNat : Int) < y.toNat) by omega)]
   by_cases h2 : y.toNat < x.toNat
   ·rw [if_pos h2, if_pos (show ((y.toNat : Int) < x.toNat) by omega)]
   ·rw [if_neg h2, if_neg (show ¬ ((y.toNat : Int) < x.toNat) by omega)]
/-- what a string is compared by -/
def keyOf (s : List UInt8) : List Int := kl s :: if kl s = 1 then (pr s).1 else s.map fun c => (c.toNat : Int)
def cmpS (a b : List UInt8) : Int := lexi (keyOf a) (keyOf b)
theorem icmp_eq (x y : Int) : cmp_Compare_int.f x y = some (if x < y then -1 else if x > y then 1 else 0) := by
 unfold cmp_Compare_int.f cmp_isNaN_int.f
 simp only [Option.bind_some, bne_self_eq_false, Bool.false_eq_true, if_false]
 split
 ·rfl
 ·split <;> rfl
theorem scmp_l0 (x y : List Int) (hx : x.length ≤ 1000) (hy : y.length ≤ 1000) : ∀ (c k i : Nat), i + c = x.length → c < k → i ≤ y.length →
  slices_Compare_int_int.l0 k x y x x.length i = some (if (x.take i) = (y.take i) then lexi (x.drop i) (y.drop i) else lexi (x.drop i) (y.drop i)) := by
 intro c
 induction c with
 | zero =>
  intro k i h hk hi
  obtain ⟨k, rfl⟩ : ∃ q, k = q + 1 := ⟨k - 1, by omega⟩
  simp only [slices_Compare_int_int.l0, ite_self]
  rw [if_neg (by omega), List.drop_eq_nil_of_le (by omega)]
  by_cases hl : x.length < y.length
  ·rw [if_pos (by omega)]
   rw [List.drop_eq_getElem_cons (show i < y.length by omega)]
   rfl
  ·rw [if_neg (by omega), List.drop_eq_nil_of_le (by omega)]
   rfl
 | succ c ih =>
  intro k i h hk hi
  obtain ⟨k, rfl⟩ : ∃ q, k = q + 1 := ⟨k - 1, by omega⟩
  simp only [slices_Compare_int_int.l0, ite_self]
  have hix : i < x.length := by omega
  rw [if_pos (by omega), if_pos (by omega), if_pos (by omega), List.drop_eq_getElem_cons hix]
  by_cases hl : (i : Int) ≥ y.length
  ·rw [if_pos hl, List.drop_eq_nil_of_le (show y.length ≤ i by omega)]
   rfl
  ·rw [if_neg hl, if_pos (by omega)]
   have hiy : i < y.length := by omega
   rw [List.drop_eq_getElem_cons hiy, rd_get hix, rd_get hiy, icmp_eq]
   simp only [Option.bind_some, lexi]
   by_cases h1 : x[i] < y[i]
   ·simp only [if_pos h1]; rfl
   ·simp only [if_neg h1]
    by_cases h2 : x[i] > y[i]
    ·simp only [if_pos h2]; rfl
    ·simp only [if_neg h2]
     rw [if_pos trivial, w64 (x := (i : Int) + 1) (by omega) (by omega), show (i : Int) + 1 = ((i + 1 : Nat) : Int) by omega, ih k (i + 1) (by omega) (by omega) (by omega)]
     simp
theorem scmp_eq (k : Nat) (x y : List Int) (hx : x.length ≤ 1000) (hy : y.length ≤ 1000) (hk : 2000 ≤ k) : slices_Compare_int_int.f k x y = some (lexi x y) := by
 unfold slices_Compare_int_int.f
 have := scmp_l0 x y hx hy x.length k 0 (by omega) (by omega) (by omega)
 rw [show (0 : Int) = ((0 : Nat) : Int) from rfl, this]
 simp
theorem pr_len (s : List UInt8) : (pr s).1.length ≤ 5 := by
 rcases pr_cases s with ⟨q, hq, e⟩ | ⟨_, e⟩
 ·rw [e]; exact hq.1.2.1
 ·rw [e]; simp
theorem compare_eq (k : Nat) (a b : ByteArray) (ha : a.size ≤ 1000) (hb : b.size ≤ 1000) (hk : 2000 ≤ k) : classification_Compare.f k a b = some (cmpS a.data.toList b.data.toList) := by
 unfold classification_Compare.f
 rw [in_eq k a ha hk, in_eq k b hb hk]
 simp only [Option.bind_some]
 have hla := pr_len a.data.toList
 have hlb := pr_len b.data.toList
 by_cases h : kl a.data.toList = kl b.data.toList
 ·rw [if_pos h]
  by_cases h1 : kl a.data.toList = 1
  ·rw [if_pos h1, scmp_eq k _ _ (by omega) (by omega) hk]
   simp only [Option.bind_some]
   unfold cmpS keyOf
   rw [if_pos h1, if_pos (h ▸ h1), h]
   simp [lexi]
  ·rw [if_neg h1]
   unfold strings_Compare.f
   simp only [Option.bind_some]
   unfold cmpS keyOf
   rw [if_neg h1, if_neg (h ▸ h1), h, bytes_lexi]
   simp [lexi]
 ·rw [if_neg h, scmp_eq k _ _ (by simp) (by simp) hk]
  simp only [Option.bind_some]
  unfold cmpS keyOf
  simp only [lexi]
  by_cases h1 : kl a.data.toList < kl b.data.toList
  ·rw [if_pos h1, if_pos h1]
  ·rw [if_neg h1, if_neg h1, if_pos (by omega), if_pos (by omega)]
def lev (s : List UInt8) : Int := if (pr s).2 = 0 ∨ s = [] then (pr s).1.length else -1
theorem level_eq (k : Nat) (s : ByteArray) (hs : s.size ≤ 1000) (hk : 2000 ≤ k) : classification_Level.f k s = some (lev s.data.toList) := by
 unfold classification_Level.f lev
 rw [parse_eq k s hs hk]
 simp only [Option.bind_some, ByteArray.toList_eq]
 by_cases h : (pr s.data.toList).2 = 0
 ·rw [if_pos h, if_pos (Or.inl h)]
 ·rw [if_neg h]
  by_cases h2 : s.data.toList = []
  ·rw [if_pos h2, if_pos (Or.inr h2)]
  ·rw [if_neg h2, if_neg (by rintro (e | e); exact h e; exact h2 e)]
theorem last_bound (s : List UInt8) : Lib.lastIndex s [46] ≤ s.length := by
 unfold Lib.lastIndex
 split
 ·rename_i h
  simp only [List.length_cons, List.length_nil] at *
  rcases Lib.lastOcc_spec s [46] (s.length - (0 + 1) + 1) with ⟨e, _⟩ | ⟨i, hi, e, _⟩
  ·rw [e]; omega
  ·rw [e]; omega
 ·omega
/-- what Parent answers -/
def par (s : List UInt8) : List UInt8 × Bool := if isB s = true then (s.take (max (Lib.lastIndex s [46]) 0).toNat, true) else ([], false)
theorem parent_eq (k : Nat) (s : ByteArray) (hs : s.size ≤ 1000) (hk : 2000 ≤ k) : classification_Parent.f k s = some (bs (par s.data.toList).1, (par s.data.toList).2) := by
 have hr := last_bound s.data.toList
 rw [← size_data] at hr
 unfold classification_Parent.f par
 rw [is_eq k s hs hk]
 simp only [Option.bind_some]
 by_cases h : isB s.data.toList = true
 ·rw [if_pos h, if_pos h]
  unfold strings_LastIndex.f
  rw [if_pos (by omega)]
  simp only [Option.bind_some]
  have e : mx (Lib.lastIndex s.data.toList (⟨#[46]⟩ : ByteArray).data.toList) 0 = max (Lib.lastIndex s.data.toList [46]) 0 := by
   show mx (Lib.lastIndex s.data.toList [46]) 0 = _
   unfold mx
   split <;> omega
  rw [e, if_pos (by omega), if_pos (by omega)]
  congr 2
  apply data_inj
  rw [Lib.extract_from_zero]
  rfl
 ·rw [if_neg h, if_neg h]
  rfl
theorem awake_plain : par [48, 49, 46, 49, 48] = ([48, 49], true) ∧ lev [48, 49, 46, 49, 46, 49, 50] = 3 ∧ cmpS [48, 49, 46, 50] [48, 49, 46, 49, 48] = -1 := by decide +kernel
theorem awake_eq (k : Nat) (hk : 2000 ≤ k) : priceofficelaw06_awake.f k = some true := by
 obtain ⟨h1, h2, h3⟩ := awake_plain
 unfold priceofficelaw06_awake.f
 rw [parent_eq k _ (by decide) hk, level_eq k _ (by decide) hk, compare_eq k _ _ (by decide) (by decide) hk]
 simp only [Option.bind_some]
 rw [h1, h2, h3]
 simp [bs_toList]
end Go.Proofs.YtpnoliognpmkmaaDoor
namespace Go.Proofs.YtpnoliognpmkmaaDoor
open Cls
set_option linter.unusedVariables false
set_option linter.unusedSimpArgs false

theorem lexi_self (a : List Int) : lexi a a = 0 := (lexi_zero a a).2 rfl
theorem lexi_app : ∀ (p x y : List Int), lexi (p ++ x) (p ++ y) = lexi x y
 | [], _, _ => rfl
 | n :: p, x, y => by
  simp only [List.cons_append, lexi]
  rw [if_neg (Int.lt_irrefl n), if_neg (Int.lt_irrefl n), lexi_app p]
theorem lexi_pre {p q : List Int} (h : p <+: q) (hn : p ≠ q) : lexi p q < 0 := by
 obtain ⟨r, rfl⟩ := h
 cases r with
 | nil => simp at hn
 | cons a r =>
  have e := lexi_app p [] (a :: r)
  rw [List.append_nil] at e
  rw [e]
  simp [lexi]
theorem lexi_between : ∀ (p z q : List Int), p <+: q → lexi p z ≤ 0 → lexi z q ≤ 0 → p <+: z
 | [], z, q => fun _ _ _ => List.nil_prefix
 | a :: p, [], q => fun _ h _ => by simp [lexi] at h
 | a :: p, b :: z, [] => fun h _ _ => by simp at h
 | a :: p, b :: z, c :: q => fun h h1 h2 => by
  rw [List.cons_prefix_cons] at h
  obtain ⟨rfl, h⟩ := h
  simp only [lexi] at h1 h2
  by_cases e : a = b
  ·subst e
   rw [if_neg (Int.lt_irrefl a), if_neg (Int.lt_irrefl a)] at h1 h2
   rw [List.cons_prefix_cons]
   exact ⟨rfl, lexi_between p z q h h1 h2⟩
  ·by_cases h3 : a < b
   ·rw [if_neg (by omega), if_pos h3] at h2; omega
   ·rw [if_neg h3, if_pos (by omega)] at h1; omega
theorem lexi_asymm {a b : List Int} (h : lexi a b < 0) : ¬ lexi b a < 0 := by
 rw [lexi_turned a b]; omega
theorem lexi_ne {a b : List Int} (h : lexi a b < 0) : a ≠ b := fun e => by
 subst e; rw [lexi_self] at h; omega
/-- lists that rise -/
abbrev Rise (L : List (List Int)) : Prop := L.Pairwise fun a b => lexi a b < 0
theorem Rise.ext : ∀ {A B : List (List Int)}, Rise A → Rise B → (∀ x, x ∈ A ↔ x ∈ B) → A = B
 | [], [], _, _, _ => rfl
 | [], b :: B, _, _, h => absurd ((h b).2 (by simp)) (by simp)
 | a :: A, [], _, _, h => absurd ((h a).1 (by simp)) (by simp)
 | a :: A, b :: B, hA, hB, h => by
  rw [Rise, List.pairwise_cons] at hA hB
  have e : a = b := by
   rcases List.mem_cons.1 ((h a).1 (by simp)) with e | ha
   ·exact e
   ·rcases List.mem_cons.1 ((h b).2 (by simp)) with e | hb
    ·exact e.symm
    ·exact absurd (hA.1 _ hb) (lexi_asymm (hB.1 _ ha))
  subst e
  rw [Rise.ext hA.2 hB.2 fun x => ?_]
  constructor
  ·intro hx
   rcases List.mem_cons.1 ((h x).1 (List.mem_cons_of_mem _ hx)) with e | hb
   ·exact absurd e.symm (lexi_ne (hA.1 _ hx))
   ·exact hb
  ·intro hx
   rcases List.mem_cons.1 ((h x).2 (List.mem_cons_of_mem _ hx)) with e | hb
   ·exact absurd e.symm (lexi_ne (hB.1 _ hx))
   ·exact hb
/-- a valid list of codes, as lists of parts -/
structure VL (L : List (List Int)) : Prop where
 rise : Rise L
 ne : ∀ q ∈ L, q ≠ []
 up : ∀ q ∈ L, q.dropLast = [] ∨ q.dropLast ∈ L
theorem drop_ne {q : List Int} (h : q ≠ []) : q.dropLast ≠ q := fun e => by
 have := congrArg List.length e
 rw [List.length_dropLast] at this
 have : 0 < q.length := List.length_pos_iff.2 h
 omega
theorem pre_drop {x y : List Int} (h : x <+: y) (hn : x ≠ y) : x <+: y.dropLast := by
 obtain ⟨r, rfl⟩ := h
 have hr : r ≠ [] := fun e => hn (by rw [e, List.append_nil])
 exact ⟨r.dropLast, (List.dropLast_append_of_ne_nil hr).symm⟩
theorem VL.kid {L : List (List Int)} (h : VL L) {x : List Int} : ∀ (n : Nat) (y : List Int), y.length = n → y ∈ L → x <+: y → x ≠ y → ∃ z ∈ L, z.dropLast = x ∧ z <+: y := by
 intro n
 induction n with
 | zero => intro y hy hm _ _; exact absurd (List.length_eq_zero_iff.1 hy) (h.ne _ hm)
 | succ n ih =>
  intro y hy hm hp hn
  have hp' := pre_drop hp hn
  by_cases e : x = y.dropLast
  ·exact ⟨y, hm, e.symm, List.prefix_rfl⟩
  ·rcases h.up y hm with h0 | h0
   ·rw [h0] at hp' e; exact absurd (List.prefix_nil.1 hp') e
   ·obtain ⟨z, hz, e1, e2⟩ := ih _ (by rw [List.length_dropLast]; omega) h0 hp' e
    exact ⟨z, hz, e1, e2.trans (List.dropLast_prefix _)⟩
theorem VL.kid' {L : List (List Int)} (h : VL L) {x y : List Int} (hm : y ∈ L) (hp : x <+: y) (hn : x ≠ y) : ∃ z ∈ L, z.dropLast = x ∧ z <+: y := h.kid y.length y rfl hm hp hn
def inn (L : List (List Int)) (x : List Int) : Bool := L.any fun y => y.dropLast == x
theorem inn_iff {L : List (List Int)} {x : List Int} : inn L x = true ↔ ∃ y ∈ L, y.dropLast = x := by simp [inn, List.any_eq_true]
def kids (L : List (List Int)) (u : List Int) : List (List Int) := L.filter fun x => x.dropLast == u
def lvs (L : List (List Int)) (u : List Int) : List (List Int) := L.filter fun x => u.isPrefixOf x && !inn L x
theorem mem_kids {L : List (List Int)} {u x : List Int} : x ∈ kids L u ↔ x ∈ L ∧ x.dropLast = u := by simp [kids]
theorem mem_lvs {L : List (List Int)} {u x : List Int} : x ∈ lvs L u ↔ x ∈ L ∧ u <+: x ∧ inn L x = false := by simp [lvs]
theorem Rise.filter {L : List (List Int)} (h : Rise L) (p : List Int → Bool) : Rise (L.filter p) := List.Pairwise.filter p h
theorem inn_next {L : List (List Int)} (h : VL L) {A R : List (List Int)} {x y : List Int} (e : L = A ++ x :: y :: R) : inn L x = x.isPrefixOf y := by
 have hr := h.rise
 rw [e, Rise, List.pairwise_append] at hr
 obtain ⟨_, hr1, hr2⟩ := hr
 rw [List.pairwise_cons] at hr1
 obtain ⟨hx, hr1⟩ := hr1
 rw [List.pairwise_cons] at hr1
 rw [Bool.eq_iff_iff, inn_iff, List.isPrefixOf_iff_prefix]
 constructor
 ·rintro ⟨z, hz, hd⟩
  have hpz : x <+: z := hd ▸ List.dropLast_prefix z
  have hnz : x ≠ z := fun e' => drop_ne (h.ne z hz) (hd.trans e')
  have hlt := lexi_pre hpz hnz
  rw [e] at hz
  rcases List.mem_append.1 hz with hz | hz
  ·exact absurd (hr2 z hz x (by simp)) (lexi_asymm hlt)
  ·rcases List.mem_cons.1 hz with hz | hz
   ·exact absurd hz.symm hnz
   ·refine lexi_between x y z hpz (Int.le_of_lt (hx y (by simp))) ?_
    rcases List.mem_cons.1 hz with hz | hz
    ·rw [hz, lexi_self]; exact Int.le_refl _
    ·exact Int.le_of_lt (hr1.1 z hz)
 ·intro hp
  obtain ⟨z, hz, hd, _⟩ := h.kid' (y := y) (by rw [e]; simp) hp (lexi_ne (hx y (by simp)))
  exact ⟨z, hz, hd⟩
theorem inn_last {L : List (List Int)} (h : VL L) {A : List (List Int)} {x : List Int} (e : L = A ++ [x]) : inn L x = false := by
 rw [Bool.eq_false_iff, ne_eq, inn_iff]
 rintro ⟨z, hz, hd⟩
 have hpz : x <+: z := hd ▸ List.dropLast_prefix z
 have hnz : x ≠ z := fun e' => drop_ne (h.ne z hz) (hd.trans e')
 have hlt := lexi_pre hpz hnz
 have hr := h.rise
 rw [e, Rise, List.pairwise_append] at hr
 rw [e] at hz
 rcases List.mem_append.1 hz with hz | hz
 ·exact absurd (hr.2.2 z hz x (by simp)) (lexi_asymm hlt)
 ·simp at hz; exact hnz hz.symm
/-- the leaves as the document has them -/
def rlv (u : List Int) : List (List Int) → List (List Int)
 | [] => []
 | [x] => if u.isPrefixOf x = true then [x] else []
 | x :: y :: r => if x.isPrefixOf y = true then rlv u (y :: r) else if u.isPrefixOf x = true then x :: rlv u (y :: r) else rlv u (y :: r)
theorem rlv_tail {L : List (List Int)} (h : VL L) (u : List Int) : ∀ (S A : List (List Int)), L = A ++ S → rlv u S = S.filter fun x => u.isPrefixOf x && !inn L x
 | [], _, _ => rfl
 | [x], A, e => by
  have := inn_last h e
  simp only [rlv, List.filter_cons, List.filter_nil, this, Bool.not_false, Bool.and_true]
 | x :: y :: r, A, e => by
  have h1 := inn_next h e
  have ih := rlv_tail h u (y :: r) (A ++ [x]) (by rw [e]; simp)
  rw [rlv, ih, List.filter_cons (x := x) (xs := y :: r), h1]
  by_cases hp : x.isPrefixOf y = true
  ·rw [if_pos hp, hp]; simp
  ·rw [if_neg hp]
   simp only [Bool.not_eq_true] at hp
   rw [hp]; simp
theorem rlv_eq {L : List (List Int)} (h : VL L) (u : List Int) : rlv u L = lvs L u := rlv_tail h u L [] rfl
theorem one_leaf {L : List (List Int)} (h : VL L) {u x : List Int} (hx : x ∈ lvs L u) : (lvs L u).filter (fun y => y.isPrefixOf x) = [x] := by
 refine Rise.ext ((h.rise.filter _).filter _) (List.pairwise_singleton _ _) fun y => ?_
 rw [List.mem_filter, List.mem_singleton, List.isPrefixOf_iff_prefix]
 obtain ⟨h1, h2, h3⟩ := mem_lvs.1 hx
 constructor
 ·rintro ⟨hy, hp⟩
  obtain ⟨g1, g2, g3⟩ := mem_lvs.1 hy
  refine Classical.byContradiction fun hn => ?_
  obtain ⟨z, hz, hd, _⟩ := h.kid' h1 hp hn
  rw [inn_iff.2 ⟨z, hz, hd⟩] at g3
  exact absurd g3 (by simp)
 ·rintro rfl; exact ⟨hx, List.prefix_rfl⟩
theorem one_top {L : List (List Int)} (h : VL L) {x : List Int} (hx : x ∈ L) : ∃ z, (kids L []).filter (fun y => y.isPrefixOf x) = [z] := by
 obtain ⟨z, hz, hd, hp⟩ := h.kid' hx List.nil_prefix (h.ne x hx).symm
 refine ⟨z, Rise.ext ((h.rise.filter _).filter _) (List.pairwise_singleton _ _) fun y => ?_⟩
 rw [List.mem_filter, List.mem_singleton, List.isPrefixOf_iff_prefix]
 have hone : ∀ w ∈ L, w.dropLast = [] → w.length = 1 := fun w hw e => by
  have e1 := congrArg List.length e
  rw [List.length_dropLast] at e1
  have := List.length_pos_iff.2 (h.ne w hw)
  simp at e1; omega
 constructor
 ·rintro ⟨hy, hpy⟩
  obtain ⟨g1, g2⟩ := mem_kids.1 hy
  have l1 := hone y g1 g2
  have l2 := hone z hz hd
  rw [List.prefix_iff_eq_take.1 hpy, List.prefix_iff_eq_take.1 hp, l1, l2]
 ·rintro rfl; exact ⟨mem_kids.2 ⟨hz, hd⟩, hp⟩

end Go.Proofs.YtpnoliognpmkmaaDoor
namespace Go.Proofs.YtpnoliognpmkmaaDoor
open Go.RowKit P Cls Go.Proofs.YtpnoliognpmkmaaDoorW.PrintWords
set_option linter.unusedVariables false

theorem take_snoc {α : Type} (l : List α) (i : Nat) (h : i < l.length) : l.take (i + 1) = l.take i ++ [l[i]] := by
 rw [List.take_add_one, List.getElem?_eq_getElem h]
 rfl
theorem fmtTail_append (a b : List Int) : fmtTail (a ++ b) = fmtTail a ++ fmtTail b := by
 induction a with
 | nil => rfl
 | cons n r ih => simp [fmtTail, ih]
theorem fmt_append (a b : List Int) (h : a ≠ []) : fmt (a ++ b) = fmt a ++ fmtTail b := by
 cases a with
 | nil => exact absurd rfl h
 | cons n r => simp [fmt, fmtTail_append]
theorem fmt_snoc (a : List Int) (n : Int) (h : a ≠ []) : fmt (a ++ [n]) = fmt a ++ 46 :: tx1 n := by
 rw [fmt_append a [n] h]
 simp [fmtTail]
/-- the lists of the path -/
def pathOf (q : List Int) : List (List UInt8) := (List.range' 1 q.length).map fun j => fmt (q.take j)
def pl (s : List UInt8) : List (List UInt8) := match prL s with | some q => pathOf q | none => []
theorem pl_ok {s : List UInt8} {q : List Int} (h : isC s q) : pl s = pathOf q := by unfold pl; rw [isC_prL h]
theorem pl_no {s : List UInt8} (h : ∀ q, ¬ isC s q) : pl s = [] := by
 unfold pl
 rcases e : prL s with _ | q
 ·rfl
 ·exact absurd (prL_isC e) (h q)
theorem isB_ok {s : List UInt8} {q : List Int} (h : isC s q) : isB s = true := by unfold isB; rw [pr_ok h]; rfl
theorem isB_no {s : List UInt8} (h : ∀ q, ¬ isC s q) : isB s = false := by
 rcases pr_cases s with ⟨q, hq, _⟩ | ⟨_, e⟩
 ·exact absurd hq (h q)
 ·unfold isB; rw [e]; rfl
def dots : List UInt8 → List UInt8 → List (List UInt8)
 | _, [] => []
 | p, c :: r => if c = 46 then p :: dots (p ++ [c]) r else dots (p ++ [c]) r
theorem dots_skip : ∀ (w p r : List UInt8), (46 : UInt8) ∉ w → dots p (w ++ r) = dots (p ++ w) r
 | [], p, r, _ => by simp
 | c :: w, p, r, h => by
  simp only [List.mem_cons, not_or] at h
  rw [List.cons_append, dots, if_neg (fun e => h.1 e.symm), dots_skip w _ r h.2]
  simp
theorem dots_fmt (q : List Int) (hq : ∀ n ∈ q, okP n) : ∀ (c i : Nat), 1 ≤ i → i + c = q.length →
  dots (fmt (q.take i)) (fmtTail (q.drop i)) ++ [fmt q] = (List.range' i (c + 1)).map fun j => fmt (q.take j) := by
 intro c
 induction c with
 | zero =>
  intro i h1 h
  rw [List.drop_eq_nil_of_le (by omega)]
  simp [fmtTail, dots, List.range', List.take_of_length_le (show q.length ≤ i by omega)]
 | succ c ih =>
  intro i h1 h
  have hi : i < q.length := by omega
  have e : fmt (q.take (i + 1)) = fmt (q.take i) ++ 46 :: tx1 q[i] := by
   rw [take_snoc q i hi, fmt_snoc _ _ (by intro h; have h2 := congrArg List.length h; rw [List.length_take] at h2; simp only [List.length_nil] at h2; omega)]
  rw [List.drop_eq_getElem_cons hi, fmtTail, dots, if_pos rfl, dots_skip _ _ _ (tx1_nodot _ (hq _ (List.getElem_mem hi)))]
  rw [show fmt (q.take i) ++ [46] ++ tx1 q[i] = fmt (q.take (i + 1)) by rw [e]; simp, List.cons_append, ih (i + 1) (by omega) (by omega)]
  rfl
theorem dots_path {q : List Int} (h : good q) : dots [] (fmt q) ++ [fmt q] = pathOf q := by
 cases q with
 | nil => have := h.1; simp at this
 | cons n r =>
  have h2 := dots_fmt (n :: r) h.2.2 r.length 1 (Nat.le_refl _) (by simp; omega)
  simp only [List.take_succ_cons, List.take_zero, List.drop_succ_cons, List.drop_zero] at h2
  have e : dots [] (fmt (n :: r)) = dots (fmt [n]) (fmtTail r) := by
   simp only [fmt, fmtTail, List.append_nil]
   rw [dots_skip _ _ _ (tx2_nodot n (h.2.2 n (by simp)))]
   rfl
  rw [e, h2]
  rfl
theorem good_take {q : List Int} (h : good q) (j : Nat) (h1 : 1 ≤ j) : good (q.take j) := by
 refine ⟨?_, ?_, fun n hn => h.2.2 n (List.mem_of_mem_take hn)⟩
 ·have := h.1; rw [List.length_take]; omega
 ·have := h.2.1; rw [List.length_take]; omega
theorem rpath_l0 {q : List Int} (h : good q) : ∀ (c k i : Nat) (out : List ByteArray), i + c = q.length → c + 120 < k → out.length ≤ i →
  priceofficeref06_Path.l0 k q out q.length i = some (out ++ ((List.range' (i + 1) c).map fun j => fmt (q.take j)).map bs) := by
 have h5 := h.2.1
 intro c
 induction c with
 | zero =>
  intro k i out he hk ho
  obtain ⟨k, rfl⟩ : ∃ q, k = q + 1 := ⟨k - 1, by omega⟩
  simp only [priceofficeref06_Path.l0]
  rw [if_neg (by omega)]
  simp [List.range']
 | succ c ih =>
  intro k i out he hk ho
  obtain ⟨k, rfl⟩ : ∃ q, k = q + 1 := ⟨k - 1, by omega⟩
  simp only [priceofficeref06_Path.l0]
  rw [if_pos (by omega), w64 (x := (i : Int) + 1) (by omega) (by omega), if_pos (by omega), if_pos (by omega), rformat_eq k (by omega)]
  simp only [Option.bind_some]
  rw [if_pos (by omega), show ((i : Int) + 1).toNat = i + 1 by omega, show (i : Int) + 1 = ((i + 1 : Nat) : Int) by omega, ih k (i + 1) _ (by omega) (by omega) (by simp; omega)]
  unfold fm
  rw [if_pos (good_take h (i + 1) (by omega)), List.range']
  simp
theorem rpath_eq (k : Nat) (s : ByteArray) (hs : s.size ≤ 1000) (hk : 2000 ≤ k) : priceofficeref06_Path.f k s = some ((pl s.data.toList).map bs) := by
 unfold priceofficeref06_Path.f
 rw [rparse_eq k s hs hk]
 simp only [Option.bind_some]
 rcases pr_cases s.data.toList with ⟨q, hq, e⟩ | ⟨hn, e⟩
 ·rw [e]
  simp only [if_true]
  have := hq.1.2.1
  rw [show (0 : Int) = ((0 : Nat) : Int) from rfl, rpath_l0 hq.1 q.length k 0 [] (by omega) (by omega) (by simp), pl_ok hq]
  rfl
 ·rw [e, pl_no hn]
  rfl
theorem occ_one (s : List UInt8) (i : Nat) : Lib.occAt s [46] i = true ↔ s[i]? = some 46 := by
 unfold Lib.occAt
 rcases Nat.lt_or_ge i s.length with h | h
 ·rw [List.drop_eq_getElem_cons h]
  simp only [List.isPrefixOf, Bool.and_true, List.getElem?_eq_getElem h, Option.some.injEq, beq_iff_eq]
  exact eq_comm
 ·rw [List.drop_eq_nil_of_le h]
  simp [List.isPrefixOf, List.getElem?_eq_none h]
theorem last_none (w : List UInt8) (h : (46 : UInt8) ∉ w) : max (Lib.lastIndex w [46]) 0 = 0 := by
 unfold Lib.lastIndex
 split
 ·rcases Lib.lastOcc_spec w [46] (w.length - ([46] : List UInt8).length + 1) with ⟨e, _⟩ | ⟨i, _, e, ho, _⟩
  ·rw [e]; rfl
  ·exact absurd (List.mem_of_getElem? ((occ_one w i).1 ho)) h
 ·rfl
theorem last_at (w r : List UInt8) (h : (46 : UInt8) ∉ r) : Lib.lastIndex (w ++ 46 :: r) [46] = w.length := by
 unfold Lib.lastIndex
 rw [if_pos (by simp; omega)]
 have hw : (w ++ 46 :: r)[w.length]? = some 46 := by simp
 rcases Lib.lastOcc_spec (w ++ 46 :: r) [46] ((w ++ 46 :: r).length - ([46] : List UInt8).length + 1) with ⟨_, hn⟩ | ⟨i, hi, e, ho, hn⟩
 ·have := hn w.length (by simp; omega)
  rw [(occ_one _ _).2 hw] at this
  cases this
 ·rw [e]
  have ho2 := (occ_one _ _).1 ho
  rcases Nat.lt_trichotomy i w.length with hl | hl | hl
  ·have := hn w.length hl (by simp; omega)
   rw [(occ_one _ _).2 hw] at this
   cases this
  ·rw [hl]
  ·exfalso
   rw [List.getElem?_append_right (by omega), show i - w.length = (i - w.length - 1) + 1 by omega, List.getElem?_cons_succ] at ho2
   exact h (List.mem_of_getElem? ho2)
theorem par_ok {s : List UInt8} {q : List Int} (h : isC s q) : par s = (fmt (q.take (q.length - 1)), true) := by
 unfold par
 rw [if_pos (isB_ok h)]
 obtain ⟨hg, rfl⟩ := h
 congr 1
 rcases List.eq_nil_or_concat q with e | ⟨a, n, e⟩
 ·have := hg.1; rw [e] at this; simp at this
 ·rw [List.concat_eq_append] at e
  subst e
  have hn := hg.2.2 n (by simp)
  rw [show (a ++ [n]).length - 1 = a.length by simp, List.take_left]
  by_cases ha : a = []
  ·subst ha
   simp only [List.nil_append, fmt, fmtTail, List.append_nil]
   rw [last_none _ (tx2_nodot n hn)]
   rfl
  ·rw [fmt_snoc a n ha, last_at _ _ (tx1_nodot n hn)]
   simp
theorem par_no {s : List UInt8} (h : ∀ q, ¬ isC s q) : par s = ([], false) := by
 unfold par
 rw [isB_no h]
 rfl
theorem pathOf_len (q : List Int) : (pathOf q).length = q.length := by simp [pathOf]
theorem pathOf_get (q : List Int) (j : Nat) (h : j < q.length) : (pathOf q)[j]'(by rw [pathOf_len]; exact h) = fmt (q.take (j + 1)) := by
 simp [pathOf, Nat.add_comm]
theorem rdOf_get {α : Type} (z : α) {l : List α} {i : Nat} (h : i < l.length) : rdOf z l (i : Int) = l[i] := by unfold rdOf; simp [List.getD_eq_getElem?_getD, h]
theorem rparent_eq (k : Nat) (s : ByteArray) (hs : s.size ≤ 1000) (hk : 2000 ≤ k) : priceofficeref06_Parent.f k s = some (bs (par s.data.toList).1, (par s.data.toList).2) := by
 unfold priceofficeref06_Parent.f
 rw [rpath_eq k s hs hk]
 simp only [Option.bind_some, List.length_map]
 rcases pr_cases s.data.toList with ⟨q, hq, e⟩ | ⟨hn, e⟩
 ·rw [pl_ok hq, par_ok hq, pathOf_len]
  have h1 := hq.1.1
  have h5 := hq.1.2.1
  rw [if_neg (by omega)]
  by_cases hl : (q.length : Int) = 1
  ·rw [if_pos hl, show q.length - 1 = 0 by omega]
   rfl
  ·rw [if_neg hl, w64 (x := (q.length : Int) - 2) (by omega) (by omega), if_pos (by omega), if_pos (by omega), show (q.length : Int) - 2 = ((q.length - 2 : Nat) : Int) by omega, rdOf_get _ (by rw [List.length_map, pathOf_len]; omega)]
   rw [List.getElem_map, pathOf_get q _ (by omega), show q.length - 2 + 1 = q.length - 1 by omega]
 ·rw [pl_no hn, par_no hn]
  rfl
theorem rlevel_eq (k : Nat) (s : ByteArray) (hs : s.size ≤ 1000) (hk : 2000 ≤ k) : priceofficeref06_Level.f k s = some (lev s.data.toList) := by
 unfold priceofficeref06_Level.f lev
 rw [rparse_eq k s hs hk]
 simp only [Option.bind_some, ByteArray.toList_eq]
 by_cases h : (pr s.data.toList).2 = 0
 ·rw [if_pos h, if_pos (Or.inl h)]
 ·rw [if_neg h]
  by_cases h2 : s.data.toList = []
  ·rw [if_pos h2, if_pos (Or.inr h2)]
  ·rw [if_neg h2, if_neg (by rintro (e | e); exact h e; exact h2 e)]
theorem pl_len (s : List UInt8) : (pl s).length ≤ 5 := by
 rcases pr_cases s with ⟨q, hq, e⟩ | ⟨hn, e⟩
 ·rw [pl_ok hq, pathOf_len]; exact hq.1.2.1
 ·rw [pl_no hn]; simp
end Go.Proofs.YtpnoliognpmkmaaDoor
namespace Go.Proofs.YtpnoliognpmkmaaDoor
open Cls
set_option linter.unusedVariables false
set_option linter.unusedSimpArgs false

theorem fmt_inj {p q : List Int} (hp : good p) (hq : good q) (h : fmt p = fmt q) : p = q :=
 Option.some.inj ((isC_prL (s := fmt p) (q := p) ⟨hp, rfl⟩).symm.trans (isC_prL (s := fmt p) (q := q) ⟨hq, h.symm⟩))
theorem isC_fmt {q : List Int} (h : good q) : isC (fmt q) q := ⟨h, rfl⟩
theorem good_ne {q : List Int} (h : good q) : q ≠ [] := fun e => by
 have := h.1
 rw [e] at this
 exact absurd this (by simp)
theorem fmt_ne {q : List Int} (h : good q) : fmt q ≠ [] := by
 cases q with
 | nil => exact absurd rfl (good_ne h)
 | cons n r => simp [fmt, tx2]
theorem good_pre {p q : List Int} (hq : good q) (hp : p ≠ []) (h : p <+: q) : good p := by
 have e := List.prefix_iff_eq_take.1 h
 rw [e]
 exact good_take hq _ (List.length_pos_iff.2 hp)
theorem mem_pathOf {q : List Int} {s : List UInt8} : s ∈ pathOf q ↔ ∃ p, p ≠ [] ∧ p <+: q ∧ s = fmt p := by
 unfold pathOf
 rw [List.mem_map]
 constructor
 ·rintro ⟨j, hj, rfl⟩
  rw [List.mem_range'_1] at hj
  refine ⟨q.take j, fun e => ?_, List.take_prefix _ _, rfl⟩
  have := congrArg List.length e
  rw [List.length_take, List.length_nil] at this
  omega
 ·rintro ⟨p, h1, h2, rfl⟩
  have h3 := List.length_pos_iff.2 h1
  have h4 := h2.length_le
  exact ⟨p.length, by rw [List.mem_range'_1]; omega, by rw [← List.prefix_iff_eq_take.1 h2]⟩
theorem mem_pl {q : List Int} (h : good q) {s : List UInt8} : s ∈ pl (fmt q) ↔ ∃ p, p ≠ [] ∧ p <+: q ∧ s = fmt p := by
 rw [pl_ok (isC_fmt h), mem_pathOf]
theorem mem_pl_fmt {p q : List Int} (hp : good p) (hq : good q) : fmt p ∈ pl (fmt q) ↔ p <+: q := by
 rw [mem_pl hq]
 constructor
 ·rintro ⟨r, h1, h2, e⟩
  rw [fmt_inj hp (good_pre hq h1 h2) e]
  exact h2
 ·exact fun h => ⟨p, good_ne hp, h, rfl⟩
theorem code_or (s : List UInt8) : (∃ q, good q ∧ s = fmt q) ∨ ∀ q, ¬ isC s q := by
 rcases pr_cases s with ⟨q, hq, _⟩ | ⟨h, _⟩
 ·exact .inl ⟨q, hq.1, hq.2.symm⟩
 ·exact .inr h
theorem lev_fmt {q : List Int} (h : good q) : lev (fmt q) = q.length := by
 unfold lev
 rw [pr_ok (isC_fmt h)]
 simp
theorem lev_nil : lev [] = 0 := by decide +kernel
theorem lev_no {s : List UInt8} (h : ∀ q, ¬ isC s q) (h0 : s ≠ []) : lev s = -1 := by
 unfold lev
 rcases pr_cases s with ⟨q, hq, _⟩ | ⟨_, e⟩
 ·exact absurd hq (h q)
 ·rw [e, if_neg (by simp [h0])]
/-- Within -/
def wi (s a : List UInt8) : Bool := decide (0 ≤ lev s) && (a.isEmpty || decide (a ∈ pl s))
theorem wi_nil (s : List UInt8) : wi s [] = decide (0 ≤ lev s) := by simp [wi]
theorem wi_fmt {p q : List Int} (hp : good p) (hq : good q) : wi (fmt q) (fmt p) = p.isPrefixOf q := by
 unfold wi
 rw [lev_fmt hq, Bool.eq_iff_iff, List.isPrefixOf_iff_prefix, ← mem_pl_fmt hp hq]
 have : (fmt p).isEmpty = false := by simpa using fmt_ne hp
 simp [this]
theorem dots_in : ∀ (w p r : List UInt8), p ++ w ∈ dots p (w ++ 46 :: r)
 | [], p, r => by simp [dots]
 | c :: w, p, r => by
  have ih := dots_in w (p ++ [c]) r
  rw [List.append_assoc, List.singleton_append] at ih
  simp only [List.cons_append, dots]
  split
  ·exact List.mem_cons_of_mem _ ih
  ·exact ih
theorem dots_out : ∀ (s p x : List UInt8), x ∈ dots p s → (x ++ [46]) <+: (p ++ s)
 | [], p, x, h => by simp [dots] at h
 | c :: s, p, x, h => by
  simp only [dots] at h
  have ih := dots_out s (p ++ [c]) x
  rw [List.append_assoc, List.singleton_append] at ih
  split at h
  ·rename_i e
   rcases List.mem_cons.1 h with rfl | h
   ·exact ⟨s, by rw [e]; simp⟩
   ·exact ih h
  ·exact ih h
theorem dot_iff {q : List Int} (h : good q) (a : List UInt8) : a ∈ pl (fmt q) ↔ a = fmt q ∨ (a ++ [46]) <+: fmt q := by
 rw [pl_ok (isC_fmt h), ← dots_path h, List.mem_append, List.mem_singleton]
 constructor
 ·rintro (h1 | h1)
  ·exact .inr (by simpa using dots_out (fmt q) [] a h1)
  ·exact .inl h1
 ·rintro (h1 | ⟨r, e⟩)
  ·exact .inr h1
  ·refine .inl ?_
   have := dots_in a [] r
   rw [List.nil_append] at this
   rw [← e]
   simpa using this
theorem isB_iff (s : List UInt8) : isB s = true ↔ ∃ q, good q ∧ s = fmt q := by
 rcases code_or s with ⟨q, h1, h2⟩ | h
 ·exact ⟨fun _ => ⟨q, h1, h2⟩, fun _ => isB_ok ⟨h1, h2.symm⟩⟩
 ·exact ⟨fun e => by rw [isB_no h] at e; exact absurd e (by simp), fun ⟨q, h1, h2⟩ => absurd ⟨h1, h2.symm⟩ (h q)⟩
/-- Within as the program has it -/
theorem wi_prog (s a : List UInt8) : wi s a = if (s ≠ [] ∧ isB s = false) ∨ (a ≠ [] ∧ isB a = false) then false else decide (a = [] ∨ s = a ∨ (a ++ [46]) <+: s) := by
 rcases code_or s with ⟨q, hq, rfl⟩ | h
 ·have e1 := isB_ok (isC_fmt hq)
  have e2 : decide (0 ≤ lev (fmt q)) = true := by rw [lev_fmt hq]; simp
  unfold wi
  rw [e1, e2, Bool.true_and]
  rw [Bool.eq_iff_iff, Bool.or_eq_true, decide_eq_true_eq, dot_iff hq, List.isEmpty_iff]
  by_cases ha : a = []
  ·rw [if_neg (by simp [ha])]; simp [ha]
  ·rcases code_or a with ⟨p, hp, rfl⟩ | h'
   ·rw [if_neg (by simp [isB_ok (isC_fmt hp)]), decide_eq_true_eq]
    constructor
    ·rintro (h | h | h)
     ·exact .inl h
     ·exact .inr (.inl h.symm)
     ·exact .inr (.inr h)
    ·rintro (h | h | h)
     ·exact .inl h
     ·exact .inr (.inl h.symm)
     ·exact .inr (.inr h)
   ·rw [if_pos (.inr ⟨ha, isB_no h'⟩)]
    refine ⟨fun hh => ?_, fun hh => absurd hh (by simp)⟩
    rcases hh with hh | hh
    ·exact absurd hh ha
    ·obtain ⟨p, h1, h2, h3⟩ := (mem_pl hq).1 ((dot_iff hq a).2 hh)
     exact absurd ⟨good_pre hq h1 h2, h3.symm⟩ (h' p)
 ·by_cases hs : s = []
  ·subst hs
   rw [wi, pl_no h]
   by_cases ha : a = []
   ·subst ha; simp [lev_nil]
   ·have : ¬ (a = [] ∨ [] = a ∨ a ++ [46] <+: []) := by
     rintro (e | e | e)
     ·exact ha e
     ·exact ha e.symm
     ·simp at e
    rw [decide_eq_false this]
    simp [ha]
  ·rw [if_pos (.inl ⟨hs, isB_no h⟩), wi, lev_no h hs]; simp
/-- Within as the document has it -/
theorem wi_doc (s a : List UInt8) : wi s a = if lev s < 0 then false else if a = [] ∨ a = s then true else decide (a ∈ pl s) := by
 unfold wi
 by_cases h : lev s < 0
 ·rw [if_pos h, decide_eq_false (by omega)]; rfl
 ·rw [if_neg h, decide_eq_true (by omega), Bool.true_and]
  by_cases ha : a = []
  ·rw [if_pos (.inl ha)]; simp [ha]
  ·have e : a.isEmpty = false := by simpa using ha
   rw [e, Bool.false_or]
   by_cases hs : a = s
   ·rw [if_pos (.inr hs)]
    subst hs
    rcases code_or a with ⟨q, hq, rfl⟩ | h'
    ·exact decide_eq_true ((dot_iff hq _).2 (.inl rfl))
    ·rw [lev_no h' ha] at h; exact absurd (by decide) h
   ·rw [if_neg (by simp [ha, hs])]
theorem kl_fmt {q : List Int} (h : good q) : kl (fmt q) = 1 := by
 unfold kl
 rw [if_neg (fmt_ne h), if_pos (isB_ok (isC_fmt h))]
theorem cmpS_fmt {p q : List Int} (hp : good p) (hq : good q) : cmpS (fmt p) (fmt q) = lexi p q := by
 unfold cmpS keyOf
 rw [kl_fmt hp, kl_fmt hq, pr_ok (isC_fmt hp), pr_ok (isC_fmt hq)]
 simp [lexi]
end Go.Proofs.YtpnoliognpmkmaaDoor
namespace Go.Proofs.YtpnoliognpmkmaaDoor
open Go.RowKit P Cls Go.Proofs.YtpnoliognpmkmaaDoorW.PrintWords
set_option linter.unusedVariables false

theorem ris_eq (k : Nat) (s : ByteArray) (hs : s.size ≤ 1000) (hk : 2000 ≤ k) : priceofficeref06_Is.f k s = some (isB s.data.toList) := by
 unfold priceofficeref06_Is.f
 rw [rparse_eq k s hs hk]
 rfl
theorem rank_eq (k : Nat) (s : ByteArray) (hs : s.size ≤ 1000) (hk : 2000 ≤ k) : priceofficeref06_rank.f k s = some (kl s.data.toList) := by
 unfold priceofficeref06_rank.f kl
 rw [ByteArray.toList_eq]
 split
 ·rfl
 ·rw [ris_eq k s hs hk]
  simp only [Option.bind_some]
  split <;> rfl
theorem less_bytes : ∀ a b : List UInt8, (if Op.bytesLess a b = true then (-1 : Int) else if Op.bytesLess b a = true then 1 else 0) = Lib.compareBytes a b
 | [], [] => rfl
 | [], _ :: _ => rfl
 | _ :: _, [] => rfl
 | x :: a, y :: b => by
  have ih := less_bytes a b
  simp only [Op.bytesLess, Lib.compareBytes, Bool.or_eq_true, Bool.and_eq_true, decide_eq_true_eq, beq_iff_eq]
  by_cases h1 : x < y
  ·rw [if_pos (Or.inl h1), if_pos h1]
  ·rw [if_neg h1]
   by_cases h2 : y < x
   ·rw [if_neg, if_pos (Or.inl h2), if_pos h2]
    rintro (h | ⟨h, _⟩)
    ·exact h1 h
    ·subst h
     exact h1 h2
   ·have e : x = y := by
     apply UInt8.toNat_inj.1
     rw [UInt8.lt_iff_toNat_lt] at h1 h2
     omega
    subst e
    rw [if_neg h1, ← ih]
    simp [h1]
theorem rcmp_l0 (x y : List Int) (hx : x.length ≤ 1000) (hy : y.length ≤ 1000) : ∀ (c k i : Nat), i + c = x.length → 2 * c + 1 < k → i ≤ y.length →
  priceofficeref06_Compare.l0 k x y i = some (lexi (x.drop i) (y.drop i)) := by
 intro c
 induction c with
 | zero =>
  intro k i h hk hi
  obtain ⟨k, rfl⟩ : ∃ q, k = q + 2 := ⟨k - 2, by omega⟩
  rw [priceofficeref06_Compare.l0, if_neg (by omega), priceofficeref06_Compare.j1, if_neg (by decide), List.drop_eq_nil_of_le (show x.length ≤ i by omega)]
  unfold priceofficeref06_order.f
  by_cases hl : x.length < y.length
  ·rw [if_pos (by omega), List.drop_eq_getElem_cons (show i < y.length by omega)]
   rfl
  ·rw [if_neg (by omega), if_neg (by omega), List.drop_eq_nil_of_le (show y.length ≤ i by omega)]
   rfl
 | succ c ih =>
  intro k i h hk hi
  obtain ⟨k, rfl⟩ : ∃ q, k = q + 2 := ⟨k - 2, by omega⟩
  have hix : i < x.length := by omega
  rw [priceofficeref06_Compare.l0, if_pos (by omega), priceofficeref06_Compare.j1]
  by_cases hl : i < y.length
  ·rw [if_pos (by simpa using hl), if_pos (by omega), if_pos (by omega), if_pos (by omega), rd_get hix, rd_get hl, List.drop_eq_getElem_cons hix, List.drop_eq_getElem_cons hl]
   simp only [lexi]
   unfold priceofficeref06_order.f
   by_cases he : x[i] = y[i]
   ·rw [if_pos he, w64 (x := (i : Int) + 1) (by omega) (by omega), show (i : Int) + 1 = ((i + 1 : Nat) : Int) by omega, ih k (i + 1) (by omega) (by omega) (by omega), if_neg (by omega), if_neg (by omega)]
   ·rw [if_neg he]
    by_cases h1 : x[i] < y[i]
    ·rw [if_pos h1, if_pos h1]; rfl
    ·rw [if_neg h1, if_neg h1, if_pos (by omega), if_pos (by omega)]; rfl
  ·rw [if_neg (by simpa using hl), List.drop_eq_getElem_cons hix, List.drop_eq_nil_of_le (show y.length ≤ i by omega)]
   unfold priceofficeref06_order.f
   rw [if_neg (by omega), if_pos (by omega)]
   rfl
theorem rcompare_eq (k : Nat) (a b : ByteArray) (ha : a.size ≤ 1000) (hb : b.size ≤ 1000) (hk : 2000 ≤ k) : priceofficeref06_Compare.f k a b = some (cmpS a.data.toList b.data.toList) := by
 unfold priceofficeref06_Compare.f
 rw [rank_eq k a ha hk, rank_eq k b hb hk, rparse_eq k a ha hk, rparse_eq k b hb hk]
 simp only [Option.bind_some]
 have hla := pr_len a.data.toList
 have hlb := pr_len b.data.toList
 unfold priceofficeref06_order.f
 by_cases h : kl a.data.toList = kl b.data.toList
 ·rw [if_neg (by omega), if_neg (by omega)]
  simp only [Option.bind_some, if_true]
  by_cases h1 : kl a.data.toList = 1
  ·rw [if_pos h1, show (0 : Int) = ((0 : Nat) : Int) from rfl, rcmp_l0 _ _ (by omega) (by omega) _ k 0 (Nat.zero_add _) (by omega) (by omega)]
   unfold cmpS keyOf
   rw [if_pos h1, if_pos (h ▸ h1), h]
   simp [lexi]
  ·rw [if_neg h1]
   have e := less_bytes a.data.toList b.data.toList
   rw [← ByteArray.toList_eq, ← ByteArray.toList_eq] at e
   unfold cmpS keyOf
   rw [if_neg (show ¬ kl a.data.toList = 1 from h1), if_neg (show ¬ kl b.data.toList = 1 from h ▸ h1), h]
   simp only [lexi, Int.lt_irrefl, if_false]
   rw [← bytes_lexi, ← ByteArray.toList_eq, ← ByteArray.toList_eq, ← e]
   split
   ·rfl
   ·split <;> rfl
 ·by_cases h1 : kl a.data.toList < kl b.data.toList
  ·rw [if_pos h1]
   simp only [Option.bind_some]
   rw [if_neg (by decide)]
   unfold cmpS keyOf
   simp only [lexi]
   rw [if_pos h1]
  ·rw [if_neg h1, if_pos (by omega)]
   simp only [Option.bind_some]
   rw [if_neg (by decide)]
   unfold cmpS keyOf
   simp only [lexi]
   rw [if_neg h1, if_pos (by omega)]
def tls (l : List ByteArray) : List (List UInt8) := l.map fun s => s.data.toList
theorem mem_tls (l : List ByteArray) (s : ByteArray) : s.data.toList ∈ tls l ↔ s ∈ l := by
 unfold tls
 rw [List.mem_map]
 exact ⟨fun ⟨a, h, e⟩ => data_inj e ▸ h, fun h => ⟨s, h, rfl⟩⟩
theorem index_l0 (l : List ByteArray) (s : ByteArray) (hl : l.length ≤ 100000) : ∀ (c k i : Nat), i + c = l.length → c < k →
  ∃ t, slices_Index_string_string.l0 k l s l.length i = some t ∧ (t ≥ 0 ↔ s ∈ l.drop i) := by
 intro c
 induction c with
 | zero =>
  intro k i h hk
  obtain ⟨k, rfl⟩ : ∃ q, k = q + 1 := ⟨k - 1, by omega⟩
  simp only [slices_Index_string_string.l0]
  rw [if_neg (by omega), List.drop_eq_nil_of_le (by omega)]
  exact ⟨-1, rfl, by simp⟩
 | succ c ih =>
  intro k i h hk
  obtain ⟨k, rfl⟩ : ∃ q, k = q + 1 := ⟨k - 1, by omega⟩
  simp only [slices_Index_string_string.l0]
  have hi : i < l.length := by omega
  rw [if_pos (by omega), if_pos (by omega), if_pos (by omega), rdOf_get _ hi, List.drop_eq_getElem_cons hi]
  by_cases e : s = l[i]
  ·rw [if_pos (by rw [e])]
   exact ⟨i, rfl, fun _ => by rw [e]; exact List.mem_cons_self, fun _ => by omega⟩
  ·rw [if_neg (fun h => e ((toList_iff _ _).1 h)), w64 (x := (i : Int) + 1) (by omega) (by omega), show (i : Int) + 1 = ((i + 1 : Nat) : Int) by omega]
   obtain ⟨t, h1, h2⟩ := ih k (i + 1) (by omega) (by omega)
   exact ⟨t, h1, by rw [h2, List.mem_cons]; exact ⟨Or.inr, fun h => h.resolve_left e⟩⟩
theorem contains_eq (k : Nat) (l : List ByteArray) (s : ByteArray) (hl : l.length ≤ 100000) (hk : l.length < k) : slices_Contains_string_string.f k l s = some (decide (s.data.toList ∈ tls l)) := by
 unfold slices_Contains_string_string.f slices_Index_string_string.f
 obtain ⟨t, h1, h2⟩ := index_l0 l s hl l.length k 0 (by omega) hk
 rw [show (0 : Int) = ((0 : Nat) : Int) from rfl, h1]
 simp only [Option.bind_some]
 congr 1
 rw [decide_eq_decide, mem_tls]
 simpa using h2
theorem has_l0 (l : List ByteArray) (s : ByteArray) (hl : l.length ≤ 100000) : ∀ (c k i : Nat), i + c = l.length → c < k → priceofficeref06_has.l0 k s l l.length i = some (decide (s.data.toList ∈ tls (l.drop i))) := by
 intro c
 induction c with
 | zero =>
  intro k i h hk
  obtain ⟨k, rfl⟩ : ∃ q, k = q + 1 := ⟨k - 1, by omega⟩
  simp only [priceofficeref06_has.l0]
  rw [if_neg (by omega), List.drop_eq_nil_of_le (by omega)]
  rfl
 | succ c ih =>
  intro k i h hk
  obtain ⟨k, rfl⟩ : ∃ q, k = q + 1 := ⟨k - 1, by omega⟩
  simp only [priceofficeref06_has.l0]
  have hi : i < l.length := by omega
  rw [if_pos (by omega), if_pos (by omega), if_pos (by omega), rdOf_get _ hi, List.drop_eq_getElem_cons hi]
  by_cases e : s = l[i]
  ·rw [if_pos (by rw [e]), decide_eq_true]
   rw [mem_tls, e]
   exact List.mem_cons_self
  ·rw [if_neg (fun h => e ((toList_iff _ _).1 h).symm), w64 (x := (i : Int) + 1) (by omega) (by omega), show (i : Int) + 1 = ((i + 1 : Nat) : Int) by omega, ih k (i + 1) (by omega) (by omega)]
   congr 1
   rw [decide_eq_decide, mem_tls, mem_tls, List.mem_cons]
   exact ⟨Or.inr, fun h => h.resolve_left e⟩
theorem has_eq (k : Nat) (l : List ByteArray) (s : ByteArray) (hl : l.length ≤ 100000) (hk : l.length < k) : priceofficeref06_has.f k l s = some (decide (s.data.toList ∈ tls l)) := by
 unfold priceofficeref06_has.f
 rw [show (0 : Int) = ((0 : Nat) : Int) from rfl, has_l0 l s hl l.length k 0 (by omega) hk, List.drop_zero]
def valI (l : List (List UInt8)) : Nat → Nat → Int
 | 0, _ => 0
 | c + 1, i => if isB (l.getD i []) = true then (if 0 < i ∧ cmpS (l.getD (i - 1) []) (l.getD i []) ≥ 0 then 62 else if (par (l.getD i [])).1 = [] ∨ (par (l.getD i [])).1 ∈ l.take i then valI l c (i + 1) else 63) else 60
def val (l : List (List UInt8)) : Int := if l.length < 1 ∨ 200 < l.length then 61 else valI l l.length 0
theorem tls_getD (l : List ByteArray) (i : Nat) (h : i < l.length) : (tls l).getD i [] = l[i].data.toList := by
 simp [tls, List.getD_eq_getElem?_getD, h]
theorem tls_take (l : List ByteArray) (i : Nat) : tls (l.take i) = (tls l).take i := by simp [tls, List.map_take]
theorem tls_length (l : List ByteArray) : (tls l).length = l.length := by simp [tls]
theorem par_snd (s : List UInt8) : (par s).2 = isB s := by
 unfold par
 split
 ·rename_i h; rw [h]
 ·rename_i h; simp at h; rw [h]
theorem val_l0 (nm : ByteArray) (l : List ByteArray) (hl : l.length ≤ 200) (hz : ∀ s ∈ l, s.size ≤ 1000) : ∀ (c k i : Nat), i + c = l.length → 2 * c + 2300 ≤ k →
  classification_Validate.l0 k l l.length i nm l = some (valI (tls l) c i) := by
 intro c
 induction c with
 | zero =>
  intro k i h hk
  obtain ⟨k, rfl⟩ : ∃ q, k = q + 1 := ⟨k - 1, by omega⟩
  rw [classification_Validate.l0, if_neg (by omega)]
  rfl
 | succ c ih =>
  intro k i h hk
  obtain ⟨k, rfl⟩ : ∃ q, k = q + 2 := ⟨k - 2, by omega⟩
  have hi : i < l.length := by omega
  have hzi := hz _ (List.getElem_mem hi)
  rw [classification_Validate.l0, if_pos (by omega), if_pos (by omega), if_pos (by omega), rdOf_get _ hi, parent_eq (k + 1) _ hzi (by omega)]
  simp only [Option.bind_some, par_snd, valI, tls_getD l i hi]
  by_cases hb : isB l[i].data.toList = true
  ·rw [if_pos hb, if_pos hb]
   have tail : classification_Validate.j2 (k + 1) i (bs (par l[i].data.toList).1) l l.length i false nm l = some (if (par l[i].data.toList).1 = [] ∨ (par l[i].data.toList).1 ∈ (tls l).take i then valI (tls l) c (i + 1) else 63) := by
    rw [classification_Validate.j2, if_neg (by decide)]
    have nxt : classification_Validate.l0 k l l.length (wrap64 ((i : Int) + 1)) nm l = some (valI (tls l) c (i + 1)) := by
     rw [w64 (x := (i : Int) + 1) (by omega) (by omega), show (i : Int) + 1 = ((i + 1 : Nat) : Int) by omega]
     exact ih k (i + 1) (by omega) (by omega)
    rw [bs_toList, nxt]
    by_cases hp : (par l[i].data.toList).1 = []
    ·rw [if_pos hp, if_pos (Or.inl hp)]
    ·rw [if_neg hp, if_pos (by omega), if_pos (by omega), show ((i : Nat) : Int).toNat = i from rfl, contains_eq k _ _ (by rw [List.length_take]; omega) (by rw [List.length_take]; omega), bs_data, tls_take]
     simp only [Option.bind_some, decide_eq_true_eq]
     by_cases hm : (par l[i].data.toList).1 ∈ (tls l).take i
     ·rw [if_pos hm, if_pos (Or.inr hm)]
     ·rw [if_neg hm, if_neg (by rintro (h | h); exact hp h; exact hm h)]
   by_cases h0 : 0 < i
   ·rw [if_pos (by omega), w64 (x := (i : Int) - 1) (by omega) (by omega), if_pos (by omega), if_pos (by omega), show (i : Int) - 1 = ((i - 1 : Nat) : Int) by omega, rdOf_get _ (show i - 1 < l.length by omega), compare_eq (k + 1) _ _ (hz _ (List.getElem_mem _)) hzi (by omega)]
    simp only [Option.bind_some, tls_getD l (i - 1) (show i - 1 < l.length by omega)]
    by_cases hc : cmpS (l[i - 1]'(by omega)).data.toList l[i].data.toList ≥ 0
    ·rw [if_pos ⟨h0, hc⟩, decide_eq_true hc, classification_Validate.j2, if_pos rfl]
    ·rw [if_neg (fun h => hc h.2), decide_eq_false hc, tail]
   ·rw [if_neg (by omega), if_neg (fun h => h0 h.1), tail]
  ·rw [if_neg hb, if_neg hb]
theorem validate_eq (k : Nat) (nm : ByteArray) (l : List ByteArray) (hz : ∀ s ∈ l, s.size ≤ 1000) (hk : 3000 ≤ k) : classification_Validate.f k nm l = some (val (tls l)) := by
 obtain ⟨k, rfl⟩ : ∃ q, k = q + 1 := ⟨k - 1, by omega⟩
 unfold classification_Validate.f val
 rw [tls_length]
 by_cases h1 : (l.length : Int) < 1
 ·rw [if_pos h1, if_pos (Or.inl (by omega)), classification_Validate.j0, if_pos rfl]
 ·rw [if_neg h1, classification_Validate.j0]
  by_cases h2 : (l.length : Int) > 200
  ·rw [if_pos (by simpa using h2), if_pos (Or.inr (by omega))]
  ·rw [if_neg (by simpa using h2), if_neg (by omega), show (0 : Int) = ((0 : Nat) : Int) from rfl, val_l0 nm l (by omega) hz l.length k 0 (by omega) (by omega)]
theorem rval_l0 (nm : ByteArray) (l : List ByteArray) (hl : l.length ≤ 200) (hz : ∀ s ∈ l, s.size ≤ 1000) : ∀ (c k i : Nat), i + c = l.length → 2 * c + 2300 ≤ k →
  priceofficeref06_Validate.l0 k l l.length i nm l = some (valI (tls l) c i) := by
 intro c
 induction c with
 | zero =>
  intro k i h hk
  obtain ⟨k, rfl⟩ : ∃ q, k = q + 1 := ⟨k - 1, by omega⟩
  rw [priceofficeref06_Validate.l0, if_neg (by omega)]
  rfl
 | succ c ih =>
  intro k i h hk
  obtain ⟨k, rfl⟩ : ∃ q, k = q + 2 := ⟨k - 2, by omega⟩
  have hi : i < l.length := by omega
  have hzi := hz _ (List.getElem_mem hi)
  rw [priceofficeref06_Validate.l0, if_pos (by omega), if_pos (by omega), if_pos (by omega), rdOf_get _ hi, ris_eq (k + 1) _ hzi (by omega)]
  simp only [Option.bind_some, valI, tls_getD l i hi]
  by_cases hb : isB l[i].data.toList = true
  ·rw [if_pos hb, if_pos hb]
   have tail : priceofficeref06_Validate.j2 (k + 1) i l[i] l l.length i false nm l = some (if (par l[i].data.toList).1 = [] ∨ (par l[i].data.toList).1 ∈ (tls l).take i then valI (tls l) c (i + 1) else 63) := by
    rw [priceofficeref06_Validate.j2, if_neg (by decide), rparent_eq k _ hzi (by omega)]
    simp only [Option.bind_some]
    have nxt : priceofficeref06_Validate.l0 k l l.length (wrap64 ((i : Int) + 1)) nm l = some (valI (tls l) c (i + 1)) := by
     rw [w64 (x := (i : Int) + 1) (by omega) (by omega), show (i : Int) + 1 = ((i + 1 : Nat) : Int) by omega]
     exact ih k (i + 1) (by omega) (by omega)
    rw [bs_toList, nxt]
    by_cases hp : (par l[i].data.toList).1 = []
    ·rw [if_pos hp, if_pos (Or.inl hp)]
    ·rw [if_neg hp, if_pos (by omega), if_pos (by omega), show ((i : Nat) : Int).toNat = i from rfl, has_eq k _ _ (by rw [List.length_take]; omega) (by rw [List.length_take]; omega), bs_data, tls_take]
     simp only [Option.bind_some, decide_eq_true_eq]
     by_cases hm : (par l[i].data.toList).1 ∈ (tls l).take i
     ·rw [if_pos hm, if_pos (Or.inr hm)]
     ·rw [if_neg hm, if_neg (by rintro (h | h); exact hp h; exact hm h)]
   by_cases h0 : 0 < i
   ·rw [if_pos (by omega), w64 (x := (i : Int) - 1) (by omega) (by omega), if_pos (by omega), if_pos (by omega), show (i : Int) - 1 = ((i - 1 : Nat) : Int) by omega, rdOf_get _ (show i - 1 < l.length by omega), rcompare_eq (k + 1) _ _ (hz _ (List.getElem_mem _)) hzi (by omega)]
    simp only [Option.bind_some, tls_getD l (i - 1) (show i - 1 < l.length by omega)]
    by_cases hc : cmpS (l[i - 1]'(by omega)).data.toList l[i].data.toList ≥ 0
    ·rw [if_pos ⟨h0, hc⟩, decide_eq_true hc, priceofficeref06_Validate.j2, if_pos rfl]
    ·rw [if_neg (fun h => hc h.2), decide_eq_false hc, tail]
   ·rw [if_neg (by omega), if_neg (fun h => h0 h.1), tail]
  ·rw [if_neg hb, if_neg hb]
theorem rvalidate_eq (k : Nat) (nm : ByteArray) (l : List ByteArray) (hz : ∀ s ∈ l, s.size ≤ 1000) (hk : 3000 ≤ k) : priceofficeref06_Validate.f k nm l = some (val (tls l)) := by
 obtain ⟨k, rfl⟩ : ∃ q, k = q + 1 := ⟨k - 1, by omega⟩
 unfold priceofficeref06_Validate.f val
 rw [tls_length]
 by_cases h1 : (l.length : Int) < 1
 ·rw [if_pos h1, if_pos (Or.inl (by omega)), priceofficeref06_Validate.j0, if_pos rfl]
 ·rw [if_neg h1, priceofficeref06_Validate.j0]
  by_cases h2 : (l.length : Int) > 200
  ·rw [if_pos (by simpa using h2), if_pos (Or.inr (by omega))]
  ·rw [if_neg (by simpa using h2), if_neg (by omega), show (0 : Int) = ((0 : Nat) : Int) from rfl, rval_l0 nm l (by omega) hz l.length k 0 (by omega) (by omega)]
end Go.Proofs.YtpnoliognpmkmaaDoor
namespace Go.Proofs.YtpnoliognpmkmaaDoor
open Cls
set_option linter.unusedVariables false
set_option linter.unusedSimpArgs false

theorem lexi_lt_trans {a b c : List Int} (h1 : lexi a b < 0) (h2 : lexi b c < 0) : lexi a c < 0 := by
 have h := lexi_trans a b c (Int.le_of_lt h1) (Int.le_of_lt h2)
 by_cases e : lexi a c = 0
 ·rw [(lexi_zero a c).1 e] at h1; exact absurd h2 (lexi_asymm h1)
 ·omega
theorem valI_zero {l : List (List UInt8)} : ∀ (c i : Nat), i + c = l.length → valI l c i = 0 → ∀ j (hj : j < l.length), i ≤ j → isB l[j] = true ∧ (0 < j → cmpS (l.getD (j - 1) []) l[j] < 0) ∧ ((par l[j]).1 = [] ∨ (par l[j]).1 ∈ l.take j)
 | 0, i, hi, _, j, hj, hij => by omega
 | c + 1, i, hi, h, j, hj, hij => by
  rw [valI] at h
  have hil : i < l.length := by omega
  have eg : l.getD i [] = l[i] := by simp [List.getD_eq_getElem?_getD, hil]
  rw [eg] at h
  split at h
  ·rename_i h1
   split at h
   ·exact absurd h (by decide)
   ·rename_i h2
    split at h
    ·rename_i h3
     by_cases e : j = i
     ·subst e
      refine ⟨h1, fun h0 => ?_, h3⟩
      have : ¬ cmpS (l.getD (j - 1) []) l[j] ≥ 0 := fun g => h2 ⟨h0, g⟩
      omega
     ·exact valI_zero c (i + 1) (by omega) h j hj (by omega)
    ·exact absurd h (by decide)
  ·exact absurd h (by decide)
theorem fmt_nil : fmt [] = [] := rfl
/-- a valid list, as the parts of its codes -/
structure Made (l : List (List UInt8)) (L : List (List Int)) : Prop where
 eq : l = L.map fmt
 vl : VL L
 good : ∀ q ∈ L, good q
theorem dropLast_good {q : List Int} (h : good q) : q.dropLast = [] ∨ good q.dropLast := by
 by_cases e : q.dropLast = []
 ·exact .inl e
 ·exact .inr (good_pre h e (List.dropLast_prefix q))
theorem par_fmt {q : List Int} (h : good q) : par (fmt q) = (fmt q.dropLast, true) := by rw [par_ok (isC_fmt h), List.dropLast_eq_take]
theorem val_made {l : List (List UInt8)} (h : val l = 0) : ∃ L, Made l L := by
 unfold val at h
 split at h
 ·exact absurd h (by decide)
 ·rename_i h0
  have hz := valI_zero (l := l) l.length 0 (by omega) h
  have hq : ∀ s ∈ l, fmt (pr s).1 = s ∧ good (pr s).1 := fun s hs => by
   obtain ⟨j, hj, rfl⟩ := List.getElem_of_mem hs
   obtain ⟨q, h1, h2⟩ := (isB_iff _).1 (hz j hj (Nat.zero_le _)).1
   rw [h2, pr_ok (isC_fmt h1)]
   exact ⟨rfl, h1⟩
  have hgood : ∀ q ∈ l.map (fun s => (pr s).1), good q := fun q hq' => by
   obtain ⟨s, hs, rfl⟩ := List.mem_map.1 hq'
   exact (hq s hs).2
  refine ⟨l.map fun s => (pr s).1, ?_, ⟨?_, fun q h' => good_ne (hgood q h'), ?_⟩, hgood⟩
  ·rw [List.map_map]
   conv => lhs; rw [← List.map_id l]
   exact List.map_congr_left fun s hs => ((hq s hs).1).symm
  ·rw [Rise, List.pairwise_map, List.pairwise_iff_getElem]
   intro i j hi hj hij
   induction j with
   | zero => omega
   | succ j ih =>
    have hs := (hz (j + 1) hj (Nat.zero_le _)).2.1 (by omega)
    have eg : l.getD (j + 1 - 1) [] = l[j] := by simp [List.getD_eq_getElem?_getD, show j < l.length by omega]
    rw [eg] at hs
    obtain ⟨e1, g1⟩ := hq l[j] (List.getElem_mem _)
    obtain ⟨e2, g2⟩ := hq l[j + 1] (List.getElem_mem _)
    rw [← e1, ← e2, cmpS_fmt g1 g2] at hs
    by_cases e : i = j
    ·subst e; exact hs
    ·exact lexi_lt_trans (ih (by omega) (by omega)) hs
  ·intro q h'
   obtain ⟨s, hs, rfl⟩ := List.mem_map.1 h'
   obtain ⟨e1, g1⟩ := hq s hs
   obtain ⟨j, hj, rfl⟩ := List.getElem_of_mem hs
   have hp := (hz j hj (Nat.zero_le _)).2.2
   rw [← e1, par_fmt g1] at hp
   rcases hp with hp | hp
   ·rcases dropLast_good g1 with h2 | h2
    ·exact .inl h2
    ·exact absurd hp (fmt_ne h2)
   ·rcases dropLast_good g1 with h2 | h2
    ·exact .inl h2
    ·refine .inr (List.mem_map.2 ⟨_, List.mem_of_mem_take hp, ?_⟩)
     show (pr (fmt _)).1 = _
     rw [pr_ok (isC_fmt h2)]
theorem valI_mk {l : List (List UInt8)} (hz : ∀ j (hj : j < l.length), isB l[j] = true ∧ (0 < j → cmpS (l.getD (j - 1) []) l[j] < 0) ∧ ((par l[j]).1 = [] ∨ (par l[j]).1 ∈ l.take j)) : ∀ (c i : Nat), i + c = l.length → valI l c i = 0
 | 0, i, hi => rfl
 | c + 1, i, hi => by
  have hil : i < l.length := by omega
  have eg : l.getD i [] = l[i] := by simp [List.getD_eq_getElem?_getD, hil]
  obtain ⟨h1, h2, h3⟩ := hz i hil
  rw [valI, eg, if_pos h1, if_neg (fun g => by have := h2 g.1; omega), if_pos h3]
  exact valI_mk hz c (i + 1) (by omega)
theorem Made.val {l : List (List UInt8)} {L : List (List Int)} (h : Made l L) (h0 : 1 ≤ l.length) (h1 : l.length ≤ 200) : val l = 0 := by
 unfold Go.Proofs.YtpnoliognpmkmaaDoor.val
 rw [if_neg (by omega)]
 refine valI_mk (fun j hj => ?_) l.length 0 (by omega)
 obtain ⟨rfl, hv, hg⟩ := h
 have hjL : j < L.length := by simpa using hj
 have gj := hg L[j] (List.getElem_mem _)
 rw [List.getElem_map]
 refine ⟨isB_ok (isC_fmt gj), fun hj0 => ?_, ?_⟩
 ·have hr := hv.rise
  rw [Rise, List.pairwise_iff_getElem] at hr
  have e : (L.map fmt).getD (j - 1) [] = fmt (L[j - 1]'(by omega)) := by simp [List.getD_eq_getElem?_getD, show j - 1 < L.length by omega]
  rw [e, cmpS_fmt (hg _ (List.getElem_mem _)) gj]
  exact hr (j - 1) j (by omega) hjL (by omega)
 ·rw [par_fmt gj]
  rcases hv.up L[j] (List.getElem_mem _) with h2 | h2
  ·rw [h2]; exact .inl rfl
  ·refine .inr ?_
   have hlt : lexi (L[j]).dropLast L[j] < 0 := lexi_pre (List.dropLast_prefix _) (drop_ne (good_ne gj))
   obtain ⟨i, hi, e⟩ := List.getElem_of_mem h2
   have hij : i < j := by
    have hr := hv.rise
    rw [Rise, List.pairwise_iff_getElem] at hr
    rcases Nat.lt_trichotomy i j with h3 | h3 | h3
    ·exact h3
    ·subst h3; exact absurd e.symm (lexi_ne hlt)
    ·have := hr j i hjL hi h3
     rw [e] at this
     exact absurd hlt (lexi_asymm this)
   rw [← List.map_take]
   refine List.mem_map.2 ⟨_, ?_, rfl⟩
   rw [← e, List.mem_take_iff_getElem]
   exact ⟨i, by omega, rfl⟩
/-- the classification is valid and has the code -/
def known (l : List (List UInt8)) (u : List UInt8) : Bool := decide (val l = 0) && (u.isEmpty || decide (u ∈ l))
def kidsB (l : List (List UInt8)) (u : List UInt8) : List (List UInt8) := if known l u = true then l.filter (fun x => wi x u && lev x == lev u + 1) else []
def lvsB (l : List (List UInt8)) (u : List UInt8) : List (List UInt8) := if known l u = true then l.filter (fun x => wi x u && !decide (x ∈ l.map fun y => (par y).1)) else []
/-- the leaves as the document has them -/
def rlvB (u : List UInt8) : List (List UInt8) → List (List UInt8)
 | [] => []
 | [x] => if wi x u = true then [x] else []
 | x :: y :: r => if wi y x = true then rlvB u (y :: r) else if wi x u = true then x :: rlvB u (y :: r) else rlvB u (y :: r)
theorem known_made {l : List (List UInt8)} {u : List UInt8} (h : known l u = true) : ∃ L p, Made l L ∧ u = fmt p ∧ (p = [] ∨ p ∈ L) := by
 rw [known, Bool.and_eq_true, decide_eq_true_eq] at h
 obtain ⟨L, hL⟩ := val_made h.1
 rcases Bool.or_eq_true_iff.1 h.2 with h2 | h2
 ·exact ⟨L, [], hL, by rw [fmt_nil]; simpa using h2, .inl rfl⟩
 ·rw [decide_eq_true_eq] at h2
  rw [hL.eq] at h2
  obtain ⟨p, hp, rfl⟩ := List.mem_map.1 h2
  exact ⟨L, p, hL, rfl, .inr hp⟩
theorem Made.known {l : List (List UInt8)} {L : List (List Int)} (h : Made l L) (h0 : 1 ≤ l.length) (h1 : l.length ≤ 200) {p : List Int} (hp : p = [] ∨ p ∈ L) : known l (fmt p) = true := by
 unfold Go.Proofs.YtpnoliognpmkmaaDoor.known
 rw [h.val h0 h1]
 rcases hp with rfl | hp
 ·rfl
 ·have : fmt p ∈ l := by rw [h.eq]; exact List.mem_map.2 ⟨p, hp, rfl⟩
  simp [this]
theorem wi_parts {p q : List Int} (hp : p = [] ∨ good p) (hq : good q) : wi (fmt q) (fmt p) = p.isPrefixOf q := by
 rcases hp with rfl | hp
 ·rw [fmt_nil, wi_nil, lev_fmt hq]; simp
 ·exact wi_fmt hp hq
theorem lev_parts {p : List Int} (hp : p = [] ∨ good p) : lev (fmt p) = p.length := by
 rcases hp with rfl | hp
 ·exact lev_nil
 ·exact lev_fmt hp
theorem Made.or {l : List (List UInt8)} {L : List (List Int)} (h : Made l L) {p : List Int} (hp : p = [] ∨ p ∈ L) : p = [] ∨ Cls.good p := hp.imp id (h.good p)
theorem inn_fmt {l : List (List UInt8)} {L : List (List Int)} (h : Made l L) {q : List Int} (hq : good q) : decide (fmt q ∈ l.map fun y => (par y).1) = inn L q := by
 rw [Bool.eq_iff_iff, decide_eq_true_eq, inn_iff, h.eq, List.map_map, List.mem_map]
 constructor
 ·rintro ⟨y, hy, e⟩
  have gy := h.good y hy
  rw [Function.comp, par_fmt gy] at e
  rcases dropLast_good gy with h2 | h2
  ·rw [h2] at e; exact absurd e.symm (fmt_ne hq)
  ·exact ⟨y, hy, fmt_inj h2 hq e⟩
 ·rintro ⟨y, hy, e⟩
  exact ⟨y, hy, by rw [Function.comp, par_fmt (h.good y hy), e]⟩
theorem kids_fmt {l : List (List UInt8)} {L : List (List Int)} (h : Made l L) {p : List Int} (hp : p = [] ∨ p ∈ L) (hk : known l (fmt p) = true) : kidsB l (fmt p) = (kids L p).map fmt := by
 unfold kidsB
 rw [if_pos hk, h.eq, List.filter_map]
 congr 1
 refine List.filter_congr fun q hq => ?_
 have gq := h.good q hq
 rw [Function.comp, wi_parts (h.or hp) gq, lev_fmt gq, lev_parts (h.or hp), Bool.eq_iff_iff, Bool.and_eq_true, List.isPrefixOf_iff_prefix, beq_iff_eq, beq_iff_eq]
 constructor
 ·rintro ⟨h1, h2⟩
  rw [List.prefix_iff_eq_take.1 h1, List.dropLast_eq_take]
  congr 1
  omega
 ·rintro rfl
  refine ⟨List.dropLast_prefix q, ?_⟩
  have := List.length_pos_iff.2 (good_ne gq)
  rw [List.length_dropLast]
  omega
theorem lvs_fmt {l : List (List UInt8)} {L : List (List Int)} (h : Made l L) {p : List Int} (hp : p = [] ∨ p ∈ L) (hk : known l (fmt p) = true) : lvsB l (fmt p) = (lvs L p).map fmt := by
 unfold lvsB
 rw [if_pos hk]
 conv => lhs; arg 2; rw [h.eq]
 rw [List.filter_map]
 congr 1
 refine List.filter_congr fun q hq => ?_
 have gq := h.good q hq
 rw [Function.comp, wi_parts (h.or hp) gq, inn_fmt h gq]
theorem rlvB_fmt {p : List Int} (hp : p = [] ∨ good p) : ∀ (S : List (List Int)), (∀ q ∈ S, good q) → rlvB (fmt p) (S.map fmt) = (rlv p S).map fmt
 | [], _ => rfl
 | [x], h => by
  simp only [List.map_cons, List.map_nil, rlvB, rlv, wi_parts hp (h x (by simp))]
  split <;> rfl
 | x :: y :: r, h => by
  have ih := rlvB_fmt hp (y :: r) fun q hq => h q (List.mem_cons_of_mem _ hq)
  simp only [List.map_cons] at ih
  simp only [List.map_cons, rlvB, rlv, wi_parts hp (h x (by simp)), wi_parts (.inr (h x (by simp))) (h y (by simp)), ih]
  split
  ·rfl
  ·split <;> rfl
theorem rlvB_eq {l : List (List UInt8)} {u : List UInt8} (hk : known l u = true) : rlvB u l = lvsB l u := by
 obtain ⟨L, p, hL, rfl, hp⟩ := known_made hk
 rw [lvs_fmt hL hp hk, ← rlv_eq hL.vl, ← rlvB_fmt (hL.or hp) L hL.good, ← hL.eq]
theorem rkids_eq (l : List (List UInt8)) (u : List UInt8) : (l.filter fun x => known l u && ((par x).2 && (par x).1 == u)) = kidsB l u := by
 by_cases hk : known l u = true
 ·rw [hk]
  simp only [Bool.true_and]
  obtain ⟨L, p, hL, rfl, hp⟩ := known_made hk
  rw [kids_fmt hL hp hk, hL.eq, List.filter_map]
  congr 1
  refine List.filter_congr fun q hq => ?_
  have gq := hL.good q hq
  rw [Function.comp, par_fmt gq, Bool.true_and, Bool.eq_iff_iff, beq_iff_eq, beq_iff_eq]
  constructor
  ·intro e
   rcases dropLast_good gq with h2 | h2 <;> rcases hL.or hp with h3 | h3
   ·rw [h2, h3]
   ·rw [h2] at e; exact absurd e.symm (fmt_ne h3)
   ·rw [h3] at e; exact absurd e (fmt_ne h2)
   ·exact fmt_inj h2 h3 e
  ·intro e; rw [e]
 ·unfold kidsB
  rw [if_neg hk]
  simp only [Bool.not_eq_true] at hk
  rw [hk]
  simp
/-- Cover -/
def covB (l : List (List UInt8)) (u : List UInt8) (list : List (List UInt8)) : Bool :=
 known l u && list.all (fun x => decide (x ∈ l) && wi x u) && (lvsB l u).all fun y => ((list.filter (wi y)).length == 1)
theorem cover_leaves {l : List (List UInt8)} {u : List UInt8} (hk : known l u = true) : covB l u (lvsB l u) = true := by
 obtain ⟨L, p, hL, rfl, hp⟩ := known_made hk
 unfold covB
 rw [hk, Bool.true_and, lvs_fmt hL hp hk, Bool.and_eq_true]
 constructor
 ·rw [List.all_eq_true]
  intro x hx
  obtain ⟨q, hq, rfl⟩ := List.mem_map.1 hx
  obtain ⟨h1, h2, _⟩ := mem_lvs.1 hq
  have : fmt q ∈ l := by rw [hL.eq]; exact List.mem_map.2 ⟨q, h1, rfl⟩
  rw [wi_parts (hL.or hp) (hL.good q h1), decide_eq_true this, Bool.true_and, List.isPrefixOf_iff_prefix]
  exact h2
 ·rw [List.all_eq_true]
  intro x hx
  obtain ⟨q, hq, rfl⟩ := List.mem_map.1 hx
  have h1 := (mem_lvs.1 hq).1
  rw [List.filter_map, List.length_map, beq_iff_eq]
  have e : (lvs L p).filter (wi (fmt q) ∘ fmt) = (lvs L p).filter fun y => y.isPrefixOf q := List.filter_congr fun y hy => wi_fmt (hL.good y (mem_lvs.1 hy).1) (hL.good q h1)
  rw [e, one_leaf hL.vl hq]
  rfl
theorem cover_tops {l : List (List UInt8)} (hk : known l [] = true) : covB l [] (kidsB l []) = true := by
 obtain ⟨L, p, hL, e0, hp⟩ := known_made hk
 have hp0 : p = [] := by
  rcases hL.or hp with h | h
  ·exact h
  ·exact absurd e0.symm (fmt_ne h)
 subst hp0
 have hk' : known l (fmt []) = true := hk
 show covB l (fmt []) (kidsB l (fmt [])) = true
 unfold covB
 rw [hk', Bool.true_and, lvs_fmt hL hp hk', kids_fmt hL hp hk', Bool.and_eq_true]
 constructor
 ·rw [List.all_eq_true]
  intro x hx
  obtain ⟨q, hq, rfl⟩ := List.mem_map.1 hx
  obtain ⟨h1, h2⟩ := mem_kids.1 hq
  have : fmt q ∈ l := by rw [hL.eq]; exact List.mem_map.2 ⟨q, h1, rfl⟩
  rw [wi_parts (.inl rfl) (hL.good q h1), decide_eq_true this]
  rfl
 ·rw [List.all_eq_true]
  intro x hx
  obtain ⟨q, hq, rfl⟩ := List.mem_map.1 hx
  have h1 := (mem_lvs.1 hq).1
  rw [List.filter_map, List.length_map, beq_iff_eq]
  have e : (kids L []).filter (wi (fmt q) ∘ fmt) = (kids L []).filter fun y => y.isPrefixOf q := List.filter_congr fun y hy => wi_fmt (hL.good y (mem_kids.1 hy).1) (hL.good q h1)
  obtain ⟨z, hz⟩ := one_top hL.vl h1
  rw [e, hz]
  rfl
end Go.Proofs.YtpnoliognpmkmaaDoor
namespace Go.Proofs.YtpnoliognpmkmaaDoor
open Go.RowKit P Cls Go.Proofs.YtpnoliognpmkmaaDoorW.PrintWords
set_option linter.unusedVariables false

theorem tl (s : ByteArray) : s.toList = s.data.toList := ByteArray.toList_eq s
theorem hp_eq (a b : ByteArray) : strings_HasPrefix.f a b = some (decide (b.data.toList <+: a.data.toList)) := by
 unfold strings_HasPrefix.f stringslite_HasPrefix.f
 by_cases h : (a.size : Int) ≥ (b.size : Int)
 ·rw [if_pos h, if_pos (by omega), if_pos (by omega)]
  simp only [Option.bind_some]
  congr 1
  rw [Bool.eq_iff_iff, beq_iff_eq, decide_eq_true_eq, tl, tl, Lib.extract_from_zero]
  rw [List.prefix_iff_eq_take, ← size_data]
  exact ⟨fun e => e.symm, fun e => e.symm⟩
 ·rw [if_neg h]
  simp only [Option.bind_some]
  rw [decide_eq_false]
  intro hp
  have := hp.length_le
  rw [← size_data, ← size_data] at this
  omega
theorem app46 (b : ByteArray) : (b ++ (⟨#[46]⟩ : ByteArray)).data.toList = b.data.toList ++ [46] := by
 rw [ByteArray.data_append]
 simp
theorem within_eq (k : Nat) (a b : ByteArray) (ha : a.size ≤ 1000) (hb : b.size ≤ 1000) (hk : 2000 ≤ k) : classification_Within.f k a b = some (wi a.data.toList b.data.toList) := by
 unfold classification_Within.f
 rw [is_eq k a ha hk, is_eq k b hb hk, hp_eq, app46, tl, tl, wi_prog]
 simp only [Option.bind_some]
 rw [if_pos (show b.size + 1 ≤ 9223372036854775807 by omega)]
 generalize a.data.toList = s
 generalize b.data.toList = t
 by_cases h1 : s = [] <;> by_cases h2 : t = [] <;> by_cases h3 : isB s = true <;> by_cases h4 : isB t = true <;> by_cases h5 : s = t <;> simp [h1, h2, h3, h4, h5]
theorem rw_l0 (a : ByteArray) (l : List ByteArray) (hl : l.length ≤ 1000) : ∀ (c k i : Nat), i + c = l.length → c < k → priceofficeref06_Within.l0 k a l l.length i = some (decide (a.data.toList ∈ tls (l.drop i))) := by
 intro c
 induction c with
 | zero =>
  intro k i h hk
  obtain ⟨k, rfl⟩ : ∃ q, k = q + 1 := ⟨k - 1, by omega⟩
  simp only [priceofficeref06_Within.l0]
  rw [if_neg (by omega), List.drop_eq_nil_of_le (by omega)]
  rfl
 | succ c ih =>
  intro k i h hk
  obtain ⟨k, rfl⟩ : ∃ q, k = q + 1 := ⟨k - 1, by omega⟩
  simp only [priceofficeref06_Within.l0]
  have hi : i < l.length := by omega
  rw [if_pos (by omega), if_pos (by omega), if_pos (by omega), rdOf_get _ hi, List.drop_eq_getElem_cons hi]
  by_cases e : a = l[i]
  ·rw [if_pos (by rw [e]), decide_eq_true]
   rw [mem_tls, ← e]
   exact List.mem_cons_self
  ·rw [if_neg (fun h => e ((toList_iff _ _).1 h).symm), w64 (x := (i : Int) + 1) (by omega) (by omega), show (i : Int) + 1 = ((i + 1 : Nat) : Int) by omega, ih k (i + 1) (by omega) (by omega)]
   congr 1
   rw [decide_eq_decide, mem_tls, mem_tls, List.mem_cons]
   exact ⟨Or.inr, fun h => h.resolve_left e⟩
theorem tls_bs (l : List (List UInt8)) : tls (l.map bs) = l := by
 unfold tls
 rw [List.map_map]
 conv => rhs; rw [← List.map_id l]
 exact List.map_congr_left fun x _ => rfl
theorem rwithin_eq (k : Nat) (a b : ByteArray) (ha : a.size ≤ 1000) (hb : b.size ≤ 1000) (hk : 2010 ≤ k) : priceofficeref06_Within.f k a b = some (wi a.data.toList b.data.toList) := by
 unfold priceofficeref06_Within.f
 rw [rlevel_eq k a ha (by omega), wi_doc]
 simp only [Option.bind_some]
 obtain ⟨k, rfl⟩ : ∃ q, k = q + 1 := ⟨k - 1, by omega⟩
 have hp := pl_len a.data.toList
 by_cases h1 : lev a.data.toList < 0
 ·rw [if_pos h1, if_pos h1]
 ·rw [if_neg h1, if_neg h1]
  simp only [priceofficeref06_Within.j0]
  rw [rpath_eq k a ha (by omega)]
  simp only [Option.bind_some]
  rw [show (0 : Int) = ((0 : Nat) : Int) from rfl, rw_l0 b _ (by rw [List.length_map]; omega) _ k 0 (Nat.zero_add _) (by rw [List.length_map]; omega), List.drop_zero]
  rw [tl, tl]
  by_cases h2 : b.data.toList = []
  ·simp [h2]
  ·by_cases h3 : b.data.toList = a.data.toList
   ·simp [h3]
   ·rw [if_neg h2, if_neg (by simpa using h3), if_neg (by simp [h2, h3])]
    rw [tls_bs]
end Go.Proofs.YtpnoliognpmkmaaDoor
namespace Go.Proofs.YtpnoliognpmkmaaDoor
open Go.RowKit P Cls Go.Proofs.YtpnoliognpmkmaaDoorW.PrintWords
set_option linter.unusedVariables false

def Short (n : Nat) (l : List ByteArray) : Prop := ∀ s ∈ l, s.size ≤ n
theorem Short.app {n : Nat} {a b : List ByteArray} (h : Short n a) (g : Short n b) : Short n (a ++ b) := by
 intro s hs
 rcases List.mem_append.1 hs with h1 | h1
 ·exact h s h1
 ·exact g s h1
theorem Short.one {n : Nat} {s : ByteArray} (h : s.size ≤ n) : Short n [s] := by
 intro x hx
 simp only [List.mem_cons, List.not_mem_nil, or_false] at hx
 subst hx
 exact h
theorem mn_range (n : Nat) (m : Int) (h : 0 ≤ m) : 0 ≤ mn (n : Int) m ∧ mn (n : Int) m ≤ n ∧ mn (n : Int) m ≤ m := by
 unfold mn
 split <;> omega
theorem raw_l0 (x15 : List ByteArray) (nm : ByteArray) (hl : x15.length ≤ 30) : ∀ (c k i : Nat) (out : List ByteArray), i + c = x15.length → c < k → out.length ≤ i → Short 20 out →
  ∃ cs, priceofficelaw06_raw.l0 k x15 x15.length i nm out = some (nm, cs) ∧ cs.length = out.length + c ∧ Short 20 cs := by
 intro c
 induction c with
 | zero =>
  intro k i out h hk ho hs
  obtain ⟨k, rfl⟩ : ∃ q, k = q + 1 := ⟨k - 1, by omega⟩
  simp only [priceofficelaw06_raw.l0]
  rw [if_neg (by omega)]
  exact ⟨out, rfl, rfl, hs⟩
 | succ c ih =>
  intro k i out h hk ho hs
  obtain ⟨k, rfl⟩ : ∃ q, k = q + 1 := ⟨k - 1, by omega⟩
  simp only [priceofficelaw06_raw.l0]
  have hi : i < x15.length := by omega
  obtain ⟨m0, m1, m2⟩ := mn_range (rdOf ByteArray.empty x15 (i : Int)).size 20 (by omega)
  rw [if_pos (by omega), if_pos (by omega), if_pos (by omega), if_pos m0, if_pos m1, if_pos (by omega), w64 (x := (i : Int) + 1) (by omega) (by omega), show (i : Int) + 1 = ((i + 1 : Nat) : Int) by omega]
  obtain ⟨cs, h1, h2, h3⟩ := ih k (i + 1) (out ++ [(rdOf ByteArray.empty x15 (i : Int)).extract 0 ((mn ((rdOf ByteArray.empty x15 (i : Int)).size : Int) 20) : Int).toNat]) (by omega) (by omega) (by simp; omega) (hs.app (Short.one (by rw [ByteArray.size_extract]; omega)))
  exact ⟨cs, h1, by rw [h2]; simp; omega, h3⟩
theorem raw_ex (k : Nat) (nm : ByteArray) (l : List ByteArray) (hk : 100 ≤ k) : ∃ cs, priceofficelaw06_raw.f k nm l = some (nm, cs) ∧ cs.length ≤ 30 ∧ Short 20 cs := by
 unfold priceofficelaw06_raw.f
 obtain ⟨m0, m1, m2⟩ := mn_range l.length 30 (by omega)
 rw [if_pos m0, if_pos m1]
 have hlen : (l.take ((mn (l.length : Int) 30) : Int).toNat).length ≤ 30 := by rw [List.length_take]; omega
 obtain ⟨cs, h1, h2, h3⟩ := raw_l0 (l.take ((mn (l.length : Int) 30) : Int).toNat) nm hlen _ k 0 [] (Nat.zero_add _) (by omega) (by simp) (by intro s hs; cases hs)
 exact ⟨cs, h1, by rw [h2]; simp only [List.length_nil]; omega, h3⟩
end Go.Proofs.YtpnoliognpmkmaaDoor
namespace Go.Proofs.YtpnoliognpmkmaaDoor
open Go.RowKit P Cls Go.Proofs.YtpnoliognpmkmaaDoorW.PrintWords
set_option linter.unusedVariables false

def enc (L : List (List Int)) : List ByteArray := L.map fun q => bs (fmt q)
theorem enc_len (L : List (List Int)) : (enc L).length = L.length := by simp [enc]
theorem enc_snoc (L : List (List Int)) (q : List Int) : enc L ++ [bs (fmt q)] = enc (L ++ [q]) := by simp [enc]
theorem tls_enc (L : List (List Int)) : tls (enc L) = L.map fmt := by
 unfold tls enc
 rw [List.map_map]
 exact List.map_congr_left fun x _ => rfl
/-- a valid list of good codes -/
structure Inv (L : List (List Int)) : Prop where
 vl : VL L
 good : ∀ q ∈ L, Cls.good q
theorem Inv.made {L : List (List Int)} (h : Inv L) : Made (tls (enc L)) L := ⟨tls_enc L, h.vl, h.good⟩
theorem Inv.nil : Inv [] := ⟨⟨List.Pairwise.nil, fun q h => absurd h (by simp), fun q h => absurd h (by simp)⟩, fun q h => absurd h (by simp)⟩
theorem Inv.snoc {L : List (List Int)} (h : Inv L) {q : List Int} (hl : ∀ x, L.getLast? = some x → lexi x q < 0) (hg : Cls.good q) (hu : q.dropLast = [] ∨ q.dropLast ∈ L) : Inv (L ++ [q]) := by
 refine ⟨⟨?_, ?_, ?_⟩, ?_⟩
 ·rw [Rise, List.pairwise_append]
  refine ⟨h.vl.rise, List.pairwise_singleton _ _, fun a ha b hb => ?_⟩
  rw [List.mem_singleton] at hb
  subst hb
  rcases e : L.getLast? with _ | x
  ·rw [List.getLast?_eq_none_iff] at e
   rw [e] at ha
   exact absurd ha (by simp)
  ·obtain ⟨A, rfl⟩ := List.getLast?_eq_some_iff.1 e
   have hx := hl x e
   rcases List.mem_append.1 ha with ha | ha
   ·have hr := h.vl.rise
    rw [Rise, List.pairwise_append] at hr
    exact lexi_lt_trans (hr.2.2 a ha x (by simp)) hx
   ·rw [List.mem_singleton.1 ha]; exact hx
 ·intro p hp
  rcases List.mem_append.1 hp with hp | hp
  ·exact h.vl.ne p hp
  ·rw [List.mem_singleton.1 hp]; exact good_ne hg
 ·intro p hp
  rcases List.mem_append.1 hp with hp | hp
  ·exact (h.vl.up p hp).imp id fun g => List.mem_append_left _ g
  ·rw [List.mem_singleton.1 hp]; exact hu.imp id fun g => List.mem_append_left _ g
 ·intro p hp
  rcases List.mem_append.1 hp with hp | hp
  ·exact h.good p hp
  ·rw [List.mem_singleton.1 hp]; exact hg
theorem last_snoc (L : List (List Int)) (q : List Int) : (L ++ [q]).getLast? = some q := by simp
theorem fm_good {q : List Int} (h : Cls.good q) : fm q = (bs (fmt q), 0) := by unfold fm; rw [if_pos h]
theorem fmt_size {q : List Int} (h : Cls.good q) : (bs (fmt q)).size ≤ 15 := by
 rw [bs_size]
 have := fmt_len q
 have := h.2.1
 omega
theorem good1 {n : Int} (h : okP n) : Cls.good [n] := ⟨by simp, by simp, fun x hx => by rw [List.mem_singleton.1 hx]; exact h⟩
theorem good2 {n m : Int} (h : okP n) (g : okP m) : Cls.good [n, m] := ⟨by simp, by simp, fun x hx => by
 simp only [List.mem_cons, List.not_mem_nil, or_false] at hx
 rcases hx with rfl | rfl <;> assumption⟩
theorem good3 {n m o : Int} (h : okP n) (g : okP m) (f : okP o) : Cls.good [n, m, o] := ⟨by simp, by simp, fun x hx => by
 simp only [List.mem_cons, List.not_mem_nil, or_false] at hx
 rcases hx with rfl | rfl | rfl <;> assumption⟩
theorem treem_l1 (l : List Int) (nm : ByteArray) (n : Int) (hn : okP n) (x19 x20 x65 : Int) (h65 : x65 ≤ 2) : ∀ (c k : Nat) (i a : Int) (L : List (List Int)), i + c = x65 → 0 ≤ i → c + 4000 ≤ k → 0 ≤ a → a + 2 * c ≤ 600 → L.length + 2 * c ≤ 600 →
  Inv L → [n] ∈ L → (∃ r, L.getLast? = some (n :: r) ∧ (r = [] ∨ ∃ h t, r = h :: t ∧ h < 1 + 9 * i)) →
  ∃ (k' : Nat) (a' : Int) (L' : List (List Int)), k ≤ k' + c + 1 ∧ a ≤ a' ∧ a' ≤ a + 2 * c ∧ L.length ≤ L'.length ∧ L'.length ≤ L.length + 2 * c ∧ Inv L' ∧ (∃ r, L'.getLast? = some (n :: r)) ∧
   priceofficemake_Tape_Tree.l1 k (bs (fmt [n])) x19 x20 x65 i l a nm (enc L) = priceofficemake_Tape_Tree.l0 k' x19 (wrap64 (x20 + 1)) l a' nm (enc L') := by
 intro c
 induction c with
 | zero =>
  intro k i a L h h0 hk ha ha1 hl hI hm hr
  obtain ⟨k, rfl⟩ : ∃ q, k = q + 1 := ⟨k - 1, by omega⟩
  obtain ⟨r, hr, _⟩ := hr
  refine ⟨k, a, L, by omega, by omega, by omega, by omega, by omega, hI, ⟨r, hr⟩, ?_⟩
  rw [priceofficemake_Tape_Tree.l1, if_neg (by omega)]
 | succ c ih =>
  intro k i a L h h0 hk ha ha1 hl hI hm hr
  obtain ⟨k, rfl⟩ : ∃ q, k = q + 1 := ⟨k - 1, by omega⟩
  have gn := good1 hn
  have hz := fmt_size gn
  have hok : okP (1 + 9 * i) := by unfold okP; omega
  have g2 := good2 hn hok
  have hz2 := fmt_size g2
  rw [priceofficemake_Tape_Tree.l1, if_pos (by omega), rparse_eq k _ (by omega) (by omega), bs_data, pr_ok (isC_fmt gn)]
  simp only [Option.bind_some, List.length_cons, List.length_nil]
  rw [if_pos (by decide), w64 (x := i * 9) (by omega) (by omega), w64 (x := 1 + i * 9) (by omega) (by omega), show 1 + i * 9 = 1 + 9 * i by omega, show [n] ++ [1 + 9 * i] = [n, 1 + 9 * i] from rfl, rformat_eq k (by omega), fm_good g2]
  simp only [Option.bind_some]
  rw [if_pos (by rw [enc_len]; omega), enc_snoc]
  obtain ⟨v, e1, r0, r1⟩ := next_ex l a 3 ha (by omega) (by omega) (by omega)
  rw [e1]
  simp only [Option.bind_some]
  have hI1 : Inv (L ++ [[n, 1 + 9 * i]]) := by
   refine hI.snoc (fun x hx => ?_) g2 (.inr hm)
   obtain ⟨r, hr, hh⟩ := hr
   rw [hr] at hx
   obtain rfl := Option.some.inj hx
   rcases hh with rfl | ⟨h', t, rfl, hlt⟩
   ·exact lexi_pre ⟨[1 + 9 * i], rfl⟩ (by simp)
   ·simp only [lexi]
    rw [if_neg (Int.lt_irrefl n), if_neg (Int.lt_irrefl n), if_pos hlt]
    decide
  have hm1 : [n] ∈ L ++ [[n, 1 + 9 * i]] := List.mem_append_left _ hm
  by_cases hv : v = 0
  ·rw [if_pos hv, rparse_eq k _ (by omega) (by omega), bs_data, pr_ok (isC_fmt g2)]
   simp only [Option.bind_some, List.length_cons, List.length_nil]
   obtain ⟨r2, e2, q0, q1⟩ := next_ex l (a + 1) 99 (by omega) (by omega) (by omega) (by omega)
   rw [e2]
   simp only [Option.bind_some]
   have hok3 : okP (1 + r2) := by unfold okP; omega
   have g3 := good3 hn hok hok3
   rw [if_pos (by decide), w64 (x := 1 + r2) (by omega) (by omega), show [n, 1 + 9 * i] ++ [1 + r2] = [n, 1 + 9 * i, 1 + r2] from rfl, rformat_eq k (by omega), fm_good g3]
   simp only [Option.bind_some]
   rw [if_pos (by rw [enc_len]; simp; omega), enc_snoc, w64 (x := i + 1) (by omega) (by omega)]
   have hI2 : Inv (L ++ [[n, 1 + 9 * i]] ++ [[n, 1 + 9 * i, 1 + r2]]) := by
    refine hI1.snoc (fun x hx => ?_) g3 (.inr (by simp))
    rw [last_snoc] at hx
    obtain rfl := Option.some.inj hx
    exact lexi_pre ⟨[1 + r2], rfl⟩ (by simp)
   obtain ⟨k', a', L', g1, g2', g3', g4, g5, g6, g7, g8⟩ := ih k (i + 1) (a + 1 + 1) _ (by omega) (by omega) (by omega) (by omega) (by omega) (by simp; omega) hI2 (List.mem_append_left _ hm1) ⟨[1 + 9 * i, 1 + r2], last_snoc _ _, .inr ⟨_, _, rfl, by omega⟩⟩
   simp only [List.length_append, List.length_cons, List.length_nil] at g4 g5
   exact ⟨k', a', L', by omega, by omega, by omega, by omega, by omega, g6, g7, g8⟩
  ·rw [if_neg hv, w64 (x := i + 1) (by omega) (by omega)]
   obtain ⟨k', a', L', g1, g2', g3', g4, g5, g6, g7, g8⟩ := ih k (i + 1) (a + 1) _ (by omega) (by omega) (by omega) (by omega) (by omega) (by simp; omega) hI1 hm1 ⟨[1 + 9 * i], last_snoc _ _, .inr ⟨_, _, rfl, by omega⟩⟩
   simp only [List.length_append, List.length_cons, List.length_nil] at g4 g5
   exact ⟨k', a', L', by omega, by omega, by omega, by omega, by omega, g6, g7, g8⟩
theorem treem_l0 (l : List Int) (nm : ByteArray) (x19 : Int) (h19 : x19 ≤ 2) : ∀ (c k : Nat) (i a : Int) (L : List (List Int)), i + c = x19 → 0 ≤ i → 10 * c + 4000 ≤ k → 0 ≤ a → a + 10 * c ≤ 600 → L.length + 10 * c ≤ 600 → Inv L →
  ((i = 0 ∧ L = []) ∨ (i = 1 ∧ ∃ m r, L.getLast? = some (m :: r) ∧ m ≤ 11) ∨ 2 ≤ i) →
  ∃ (a' : Int) (L' : List (List Int)), a ≤ a' ∧ a' ≤ a + 10 * c ∧ L.length + c ≤ L'.length ∧ L'.length ≤ L.length + 10 * c ∧ Inv L' ∧
   priceofficemake_Tape_Tree.l0 k x19 i l a nm (enc L) = some (nm, enc L', a') := by
 intro c
 induction c with
 | zero =>
  intro k i a L h h0 hk ha ha1 hl hI _
  obtain ⟨k, rfl⟩ : ∃ q, k = q + 1 := ⟨k - 1, by omega⟩
  refine ⟨a, L, by omega, by omega, by omega, by omega, hI, ?_⟩
  rw [priceofficemake_Tape_Tree.l0, if_neg (by omega)]
 | succ c ih =>
  intro k i a L h h0 hk ha ha1 hl hI hst
  obtain ⟨k, rfl⟩ : ∃ q, k = q + 3 := ⟨k - 3, by omega⟩
  rw [priceofficemake_Tape_Tree.l0, if_pos (by omega)]
  obtain ⟨v, e1, r0, r1⟩ := next_ex l a 2 ha (by omega) (by omega) (by omega)
  rw [e1]
  simp only [Option.bind_some]
  rw [w64 (x := 1 + i) (by omega) (by omega), w64 (x := v * 10) (by omega) (by omega), w64 (x := 1 + i + v * 10) (by omega) (by omega)]
  have hok : okP (1 + i + v * 10) := by unfold okP; omega
  rw [rformat_eq (k + 2) (by omega), fm_good (good1 hok)]
  simp only [Option.bind_some]
  have hj2 : ∀ (k0 : Nat) (n : Int), k ≤ k0 → k0 ≤ k + 2 → okP n → (∀ x, L.getLast? = some x → lexi x [n] < 0) → (i = 0 → n ≤ 11) → ∃ (a' : Int) (L' : List (List Int)), a ≤ a' ∧ a' ≤ a + 10 * ((c + 1 : Nat) : Int) ∧ L.length + (c + 1) ≤ L'.length ∧ L'.length ≤ L.length + 10 * (c + 1) ∧ Inv L' ∧
    priceofficemake_Tape_Tree.j2 (k0 + 1) (bs (fmt [n])) x19 i l (a + 1) nm (enc L) = some (nm, enc L', a') := by
   intro k0 n hk0 hk1 hn hx h11
   rw [priceofficemake_Tape_Tree.j2, if_pos (by rw [enc_len]; omega)]
   obtain ⟨r2, e2, q0, q1⟩ := next_ex l (a + 1) 3 (by omega) (by omega) (by omega) (by omega)
   rw [e2]
   simp only [Option.bind_some]
   rw [enc_snoc]
   have hI1 : Inv (L ++ [[n]]) := hI.snoc hx (good1 hn) (.inl rfl)
   obtain ⟨k', a', L', g1, g2, g3, g4, g5, g6, ⟨r, g7⟩, g8⟩ := treem_l1 l nm n hn x19 i r2 (by omega) r2.toNat k0 0 (a + 1 + 1) (L ++ [[n]]) (by omega) (by omega) (by omega) (by omega) (by omega) (by simp; omega) hI1 (by simp) ⟨[], last_snoc _ _, .inl rfl⟩
   simp only [List.length_append, List.length_cons, List.length_nil] at g4 g5
   rw [g8, w64 (x := i + 1) (by omega) (by omega)]
   obtain ⟨a2, L2, f1, f2, f3, f4, f5, f6⟩ := ih k' (i + 1) a' L' (by omega) (by omega) (by omega) (by omega) (by omega) (by omega) g6 (by
    by_cases hi : i = 0
    ·exact .inr (.inl ⟨by omega, n, r, g7, h11 hi⟩)
    ·exact .inr (.inr (by omega)))
   exact ⟨a2, L2, by omega, by omega, by omega, by omega, f5, f6⟩
  have hj1 : ∀ b : Bool, (b = true → i = 1 ∧ ∃ m r, L.getLast? = some (m :: r) ∧ m ≤ 11) → (b = false → ∀ x, L.getLast? = some x → lexi x [1 + i + v * 10] < 0) → ∃ (a' : Int) (L' : List (List Int)), a ≤ a' ∧ a' ≤ a + 10 * ((c + 1 : Nat) : Int) ∧ L.length + (c + 1) ≤ L'.length ∧ L'.length ≤ L.length + 10 * (c + 1) ∧ Inv L' ∧
    priceofficemake_Tape_Tree.j1 (k + 2) i (bs (fmt [1 + i + v * 10])) x19 i b l (a + 1) nm (enc L) = some (nm, enc L', a') := by
   intro b hb1 hb2
   rw [priceofficemake_Tape_Tree.j1]
   cases b with
   | true =>
    obtain ⟨hi, m, r, hm, hm11⟩ := hb1 rfl
    have hok2 : okP (30 + i) := by unfold okP; omega
    rw [if_pos rfl, w64 (x := 30 + i) (by omega) (by omega), rformat_eq (k + 1) (by omega), fm_good (good1 hok2)]
    simp only [Option.bind_some]
    refine hj2 k (30 + i) (by omega) (by omega) hok2 (fun x hx => ?_) (by omega)
    rw [hm] at hx
    obtain rfl := Option.some.inj hx
    simp only [lexi]
    rw [if_pos (by omega)]
    decide
   | false =>
    rw [if_neg (by decide)]
    exact hj2 k _ (by omega) (by omega) hok (hb2 rfl) (by omega)
  rcases e : L.getLast? with _ | x
  ·have hL := List.getLast?_eq_none_iff.1 e
   rw [if_neg (by rw [enc_len, hL]; simp)]
   exact hj1 false (fun h => absurd h (by simp)) (fun _ x hx => by rw [e] at hx; exact absurd hx (by simp))
  ·obtain ⟨A, hA⟩ := List.getLast?_eq_some_iff.1 e
   have hlen : 0 < L.length := by rw [hA]; simp
   have hgx : Cls.good x := hI.good x (by rw [hA]; simp)
   have hlast : (enc L)[(enc L).length - 1]'(by rw [enc_len]; omega) = bs (fmt x) := by
    have : (enc L)[(enc L).length - 1]? = some (bs (fmt x)) := by
     rw [← List.getLast?_eq_getElem?, enc, List.getLast?_map, e]
     rfl
    exact (List.getElem?_eq_some_iff.1 this).2
   have hel := enc_len L
   rw [if_pos (by omega), w64 (x := ((enc L).length : Int) - 1) (by omega) (by omega), if_pos (by omega), if_pos (by omega), show ((enc L).length : Int) - 1 = (((enc L).length - 1 : Nat) : Int) by omega, rdOf_get _ (show (enc L).length - 1 < (enc L).length by omega), hlast]
   rw [rcompare_eq (k + 2) _ _ (by have := fmt_size hgx; omega) (by have := fmt_size (good1 hok); omega) (by omega), bs_data, bs_data, cmpS_fmt hgx (good1 hok)]
   simp only [Option.bind_some]
   refine hj1 _ (fun hb => ?_) (fun hb y hy => ?_)
   ·rcases hst with ⟨_, hL⟩ | hst | hst
    ·rw [hL] at hlen; exact absurd hlen (by simp)
    ·exact hst
    ·omega
   ·rw [e] at hy
    obtain rfl := Option.some.inj hy
    have := of_decide_eq_false hb
    omega
theorem treem_ex (k : Nat) (l : List Int) (a : Int) (hk : 5000 ≤ k) (h0 : 0 ≤ a) (h1 : a ≤ 100) : ∃ nm L m, priceofficemake_Tape_Tree.f k l a = some (nm, enc L, m) ∧ 1 ≤ L.length ∧ L.length ≤ 20 ∧ Inv L ∧ a ≤ m ∧ m ≤ a + 21 := by
 unfold priceofficemake_Tape_Tree.f
 obtain ⟨r, e1, r0, r1⟩ := next_ex l a 2 h0 (by omega) (by omega) (by omega)
 rw [e1]
 simp only [Option.bind_some]
 rw [w64 (x := 1 + r) (by omega) (by omega)]
 obtain ⟨a2, L2, f1, f2, f3, f4, f5, f6⟩ := treem_l0 l (⟨#[99]⟩ : ByteArray) (1 + r) (by omega) (1 + r).toNat k 0 (a + 1) [] (by omega) (by omega) (by omega) (by omega) (by omega) (by simp; omega) Inv.nil (.inl ⟨rfl, rfl⟩)
 simp only [List.length_nil] at f3 f4
 exact ⟨_, L2, a2, f6, by omega, by omega, f5, by omega, by omega⟩
theorem Inv.short {L : List (List Int)} (h : Inv L) : Short 15 (enc L) := fun s hs => by
 obtain ⟨q, hq, rfl⟩ := List.mem_map.1 hs
 exact fmt_size (h.good q hq)
end Go.Proofs.YtpnoliognpmkmaaDoor
namespace Go.Proofs.YtpnoliognpmkmaaDoor
open Go.RowKit P Cls Go.Proofs.YtpnoliognpmkmaaDoorW.PrintWords
set_option linter.unusedVariables false

theorem filter_tls (P : List UInt8 → Bool) : ∀ l : List ByteArray, l.filter (fun x => P x.data.toList) = ((tls l).filter P).map bs
 | [] => rfl
 | x :: l => by
  have ih := filter_tls P l
  simp only [tls, List.map_cons, List.filter_cons] at *
  by_cases h : P x.data.toList = true
  ·rw [if_pos h, if_pos h, List.map_cons, ih]
   rfl
  ·rw [if_neg h, if_neg h, ih]
theorem chosen_l0 (p : ByteArray → Option Bool) (P : List UInt8 → Bool) (l : List ByteArray) (hl : l.length ≤ 200) (hp : ∀ x ∈ l, p x = some (P x.data.toList)) : ∀ (c k i : Nat) (out : List ByteArray), i + c = l.length → c < k → out.length ≤ i →
  classification_chosen.l0 p k out l l.length i = some (out ++ (l.drop i).filter fun x => P x.data.toList) := by
 intro c
 induction c with
 | zero =>
  intro k i out h hk ho
  obtain ⟨k, rfl⟩ : ∃ q, k = q + 1 := ⟨k - 1, by omega⟩
  simp only [classification_chosen.l0]
  rw [if_neg (by omega), List.drop_eq_nil_of_le (by omega)]
  simp
 | succ c ih =>
  intro k i out h hk ho
  obtain ⟨k, rfl⟩ : ∃ q, k = q + 1 := ⟨k - 1, by omega⟩
  simp only [classification_chosen.l0]
  have hi : i < l.length := by omega
  rw [if_pos (by omega), if_pos (by omega), if_pos (by omega), rdOf_get _ hi, hp _ (List.getElem_mem hi), List.drop_eq_getElem_cons hi, List.filter_cons]
  simp only [Option.bind_some]
  rw [w64 (x := (i : Int) + 1) (by omega) (by omega), show (i : Int) + 1 = ((i + 1 : Nat) : Int) by omega]
  by_cases e : P l[i].data.toList = true
  ·rw [if_pos e, if_pos e, if_pos (by omega), ih k (i + 1) _ (by omega) (by omega) (by simp; omega)]
   simp
  ·rw [if_neg e, if_neg e, ih k (i + 1) _ (by omega) (by omega) (by omega)]
theorem has_prog (k : Nat) (nm : ByteArray) (l : List ByteArray) (u : ByteArray) (hz : ∀ s ∈ l, s.size ≤ 1000) (hk : 3000 ≤ k) (hl : l.length ≤ 1000) : classification_has.f k nm l u = some (known (tls l) u.data.toList) := by
 unfold classification_has.f known
 rw [validate_eq k nm l hz hk, contains_eq k l u (by omega) (by omega), tl]
 simp only [Option.bind_some]
 by_cases h : val (tls l) = 0
 ·rw [if_pos h, decide_eq_true h, Bool.true_and]
  by_cases h2 : u.data.toList = []
  ·rw [if_pos h2]; simp [h2]
  ·rw [if_neg h2]
   have : u.data.toList.isEmpty = false := by simpa using h2
   rw [this, Bool.false_or]
 ·rw [if_neg h, decide_eq_false h]
  rfl
theorem rknown_eq (k : Nat) (nm : ByteArray) (l : List ByteArray) (u : ByteArray) (hz : ∀ s ∈ l, s.size ≤ 1000) (hk : 3000 ≤ k) (hl : l.length ≤ 1000) : priceofficeref06_known.f k nm l u = some (known (tls l) u.data.toList) := by
 unfold priceofficeref06_known.f known
 rw [rvalidate_eq k nm l hz hk, has_eq k l u (by omega) (by omega), tl]
 simp only [Option.bind_some]
 by_cases h : val (tls l) = 0
 ·rw [if_pos h, decide_eq_true h, Bool.true_and]
  by_cases h2 : u.data.toList = []
  ·rw [if_pos h2]; simp [h2]
  ·rw [if_neg h2]
   have : u.data.toList.isEmpty = false := by simpa using h2
   rw [this, Bool.false_or]
 ·rw [if_neg h, decide_eq_false h]
  rfl
theorem known_len {l : List (List UInt8)} {u : List UInt8} (h : known l u = true) : 1 ≤ l.length ∧ l.length ≤ 200 := by
 rw [known, Bool.and_eq_true, decide_eq_true_eq] at h
 have := h.1
 unfold val at this
 split at this
 ·exact absurd this (by decide)
 ·omega
theorem par_len (s : List UInt8) : (par s).1.length ≤ s.length := by
 unfold par
 split
 ·rw [List.length_take]; omega
 ·exact Nat.zero_le _
theorem leaves_l0 (k : Nat) (hk : 3000 ≤ k) : ∀ l : List ByteArray, (∀ s ∈ l, s.size ≤ 1000) → classification_Leaves.l0 k l = some ((tls l).map fun y => (par y).1)
 | [], _ => rfl
 | x :: l, h => by
  have hx := h x (by simp)
  have hp := par_len x.data.toList
  rw [← size_data] at hp
  simp only [classification_Leaves.l0]
  rw [parent_eq k x hx (by omega), leaves_l0 k hk l fun s hs => h s (List.mem_cons_of_mem _ hs)]
  simp only [Option.bind_some]
  rw [if_pos (by rw [bs_size]; omega)]
  rfl
theorem leafIn_eq (k : Nat) (ps : List (List UInt8)) (u x : ByteArray) (hu : u.size ≤ 1000) (hx : x.size ≤ 1000) (hk : 3000 ≤ k) : classification_LeafIn.f k ps u x = some (wi x.data.toList u.data.toList && !decide (x.data.toList ∈ ps)) := by
 unfold classification_LeafIn.f
 rw [within_eq k x u hx hu (by omega)]
 simp only [Option.bind_some]
 by_cases h : wi x.data.toList u.data.toList = true
 ·rw [if_pos h, h, Bool.true_and, if_pos (by omega)]
 ·rw [if_neg h]
  simp only [Bool.not_eq_true] at h
  rw [h]
  rfl
theorem leaves_eq (k : Nat) (nm : ByteArray) (l : List ByteArray) (u : ByteArray) (hz : ∀ s ∈ l, s.size ≤ 1000) (hu : u.size ≤ 1000) (hl : l.length ≤ 1000) (hk : 3000 ≤ k) : classification_Leaves.f k nm l u = some ((lvsB (tls l) u.data.toList).map bs) := by
 unfold classification_Leaves.f classification_chosen.f lvsB
 rw [if_pos (by omega), leaves_l0 k hk l hz]
 simp only [Option.bind_some]
 rw [has_prog k nm l u hz hk hl]
 simp only [Option.bind_some]
 by_cases h : known (tls l) u.data.toList = true
 ·have hk2 := (known_len h).2
  rw [tls_length] at hk2
  rw [if_pos h, if_pos h, show (0 : Int) = ((0 : Nat) : Int) from rfl, chosen_l0 _ (fun x => wi x u.data.toList && !decide (x ∈ (tls l).map fun y => (par y).1)) l hk2 (fun x hx => leafIn_eq k _ u x hu (hz x hx) hk) l.length k 0 [] (by omega) (by omega) (Nat.le_refl _), List.drop_zero, List.nil_append]
  rw [filter_tls (fun x => wi x u.data.toList && !decide (x ∈ (tls l).map fun y => (par y).1))]
 ·rw [if_neg h, if_neg h]
  rfl
theorem rkids_l0 (nm : ByteArray) (l : List ByteArray) (u : ByteArray) (hz : ∀ s ∈ l, s.size ≤ 1000) (hl : l.length ≤ 1000) : ∀ (c k i : Nat) (out : List ByteArray), i + c = l.length → c + 3100 ≤ k → out.length ≤ i →
  priceofficeref06_Children.l0 k u out l l.length i nm l = some (out ++ (l.drop i).filter fun x => known (tls l) u.data.toList && ((par x.data.toList).2 && (par x.data.toList).1 == u.data.toList)) := by
 intro c
 induction c with
 | zero =>
  intro k i out h hk ho
  obtain ⟨k, rfl⟩ : ∃ q, k = q + 1 := ⟨k - 1, by omega⟩
  simp only [priceofficeref06_Children.l0]
  rw [if_neg (by omega), List.drop_eq_nil_of_le (by omega)]
  simp
 | succ c ih =>
  intro k i out h hk ho
  obtain ⟨k, rfl⟩ : ∃ q, k = q + 1 := ⟨k - 1, by omega⟩
  simp only [priceofficeref06_Children.l0]
  have hi : i < l.length := by omega
  have hzi := hz _ (List.getElem_mem hi)
  rw [if_pos (by omega), if_pos (by omega), if_pos (by omega), rdOf_get _ hi, rparent_eq k _ hzi (by omega), rknown_eq k nm l u hz (by omega) hl, List.drop_eq_getElem_cons hi, List.filter_cons]
  simp only [Option.bind_some]
  rw [w64 (x := (i : Int) + 1) (by omega) (by omega), show (i : Int) + 1 = ((i + 1 : Nat) : Int) by omega, if_pos (show out.length < 8796093022208 by omega), ih k (i + 1) _ (by omega) (by omega) (by simp; omega), ih k (i + 1) _ (by omega) (by omega) (by omega), tl, tl, bs_data]
  cases hkn : known (tls l) u.data.toList
  ·simp
  ·cases hp : (par l[i].data.toList).2
   ·simp
   ·by_cases e : (par l[i].data.toList).1 = u.data.toList <;> simp [e]
theorem rchildren_eq (k : Nat) (nm : ByteArray) (l : List ByteArray) (u : ByteArray) (hz : ∀ s ∈ l, s.size ≤ 1000) (hl : l.length ≤ 1000) (hk : 5000 ≤ k) : priceofficeref06_Children.f k nm l u = some ((kidsB (tls l) u.data.toList).map bs) := by
 unfold priceofficeref06_Children.f
 rw [show (0 : Int) = ((0 : Nat) : Int) from rfl, rkids_l0 nm l u hz hl l.length k 0 [] (by omega) (by omega) (Nat.le_refl _), List.drop_zero, List.nil_append, filter_tls (fun x => known (tls l) u.data.toList && ((par x).2 && (par x).1 == u.data.toList)), rkids_eq]
theorem rlv_l0 (nm : ByteArray) (l : List ByteArray) (u : ByteArray) (hu : u.size ≤ 1000) (hz : ∀ s ∈ l, s.size ≤ 1000) (hl : l.length ≤ 1000) : ∀ (c k i : Nat) (out : List ByteArray), i + c = l.length → c + 3100 ≤ k → out.length ≤ i →
  priceofficeref06_Leaves.l0 k u out l l.length i nm l = some (out ++ (rlvB u.data.toList (tls (l.drop i))).map bs) := by
 intro c
 induction c with
 | zero =>
  intro k i out h hk ho
  obtain ⟨k, rfl⟩ : ∃ q, k = q + 1 := ⟨k - 1, by omega⟩
  simp only [priceofficeref06_Leaves.l0]
  rw [if_neg (by omega), List.drop_eq_nil_of_le (by omega)]
  simp [tls, rlvB]
 | succ c ih =>
  intro k i out h hk ho
  obtain ⟨k, rfl⟩ : ∃ q, k = q + 1 := ⟨k - 1, by omega⟩
  simp only [priceofficeref06_Leaves.l0]
  have hi : i < l.length := by omega
  have hzi := hz _ (List.getElem_mem hi)
  have ih1 := fun o ho => ih k (i + 1) o (by omega) (by omega) ho
  rw [if_pos (by omega), if_pos (by omega), if_pos (by omega), rdOf_get _ hi, rwithin_eq k _ u hzi hu (by omega), w64 (x := (i : Int) + 1) (by omega) (by omega), show (i : Int) + 1 = ((i + 1 : Nat) : Int) by omega]
  simp only [Option.bind_some]
  rw [if_pos (show out.length < 8796093022208 by omega), ih1 _ (by simp; omega), ih1 _ (by omega), List.drop_eq_getElem_cons hi]
  by_cases hlast : i + 1 = l.length
  ·rw [if_pos (by omega), List.drop_eq_nil_of_le (by omega)]
   simp only [tls, List.map_cons, List.map_nil, rlvB, List.append_nil]
   by_cases e : wi l[i].data.toList u.data.toList = true
   ·rw [if_pos e, if_pos e]; rfl
   ·rw [if_neg e, if_neg e]; simp
  ·have hj : i + 1 < l.length := by omega
   rw [if_neg (by omega), if_pos (by omega), if_pos (by omega), rdOf_get _ hj, rwithin_eq k _ _ (hz _ (List.getElem_mem hj)) hzi (by omega), List.drop_eq_getElem_cons hj]
   simp only [Option.bind_some, tls, List.map_cons, rlvB]
   by_cases e : wi l[i + 1].data.toList l[i].data.toList = true
   ·rw [if_pos e, if_pos e]
   ·rw [if_neg e, if_neg e]
    by_cases e2 : wi l[i].data.toList u.data.toList = true
    ·rw [if_pos e2, if_pos e2]; simp; rfl
    ·rw [if_neg e2, if_neg e2]
theorem rleaves_eq (k : Nat) (nm : ByteArray) (l : List ByteArray) (u : ByteArray) (hz : ∀ s ∈ l, s.size ≤ 1000) (hu : u.size ≤ 1000) (hl : l.length ≤ 1000) (hk : 5000 ≤ k) : priceofficeref06_Leaves.f k nm l u = some ((lvsB (tls l) u.data.toList).map bs) := by
 unfold priceofficeref06_Leaves.f
 rw [rknown_eq k nm l u hz (by omega) hl]
 simp only [Option.bind_some]
 by_cases h : known (tls l) u.data.toList = true
 ·rw [if_pos h, show (0 : Int) = ((0 : Nat) : Int) from rfl, rlv_l0 nm l u hu hz hl l.length k 0 [] (by omega) (by omega) (Nat.le_refl _), List.drop_zero, List.nil_append, rlvB_eq h]
 ·rw [if_neg h]
  unfold lvsB
  rw [if_neg h]
  rfl
end Go.Proofs.YtpnoliognpmkmaaDoor
namespace Go.Proofs.YtpnoliognpmkmaaDoor
open Go.RowKit P Cls Go.Proofs.YtpnoliognpmkmaaDoorW.PrintWords
set_option linter.unusedVariables false
theorem cov_l2 (x2 : List ByteArray) (y : ByteArray) (x38 : List ByteArray) (x39 x40 : Int) (hy : y.size ≤ 1000) (hz : ∀ s ∈ x2, s.size ≤ 1000) (hl : x2.length ≤ 1000) :
  ∀ (c k i n : Nat), i + c = x2.length → 2000 ≤ k → n ≤ i → classification_Cover.l2 (k + c + 1) x2 y n x38 x39 x40 x2 x2.length i =
   if n + ((tls (x2.drop i)).filter (wi y.data.toList)).length = 1 then classification_Cover.l1 k x2 x38 x39 (wrap64 (x40 + 1)) else some false := by
 intro c
 induction c with
 | zero =>
  intro k i n hi hk hn
  unfold classification_Cover.l2
  rw [if_neg (by omega), List.drop_eq_nil_of_le (by omega)]
  have e : (n + ((tls ([] : List ByteArray)).filter (wi y.data.toList)).length = 1) ↔ ((n : Int) = 1) := by simp [tls]; omega
  simp only [e]
 | succ c ih =>
  intro k i n hi hk hn
  have h1 : i < x2.length := by omega
  unfold classification_Cover.l2
  have e : rdOf ByteArray.empty x2 (i : Int) = x2[i] := by simp [rdOf, h1]
  rw [if_pos (by omega), if_pos (by omega), if_pos (by omega), e, within_eq _ _ _ hy (hz _ (List.getElem_mem h1)) (by omega)]
  simp only [Option.bind_some]
  have w1 : wrap64 ((i : Int) + 1) = ((i + 1 : Nat) : Int) := by unfold wrap64; omega
  have w2 : wrap64 ((n : Int) + 1) = ((n + 1 : Nat) : Int) := by unfold wrap64; omega
  have hd : tls (x2.drop i) = x2[i].data.toList :: tls (x2.drop (i + 1)) := by rw [List.drop_eq_getElem_cons h1]; rfl
  rw [w1, w2, hd, List.filter_cons]
  by_cases hw : wi y.data.toList x2[i].data.toList = true
  ·rw [if_pos hw, if_pos hw, show k + (c + 1) = k + c + 1 by omega, ih k (i + 1) (n + 1) (by omega) hk (by omega), List.length_cons]
   rw [show n + 1 + (List.filter (wi y.data.toList) (tls (x2.drop (i + 1)))).length = n + ((List.filter (wi y.data.toList) (tls (x2.drop (i + 1)))).length + 1) by omega]
  ·rw [if_neg hw, if_neg hw, show k + (c + 1) = k + c + 1 by omega, ih k (i + 1) n (by omega) hk (by omega)]
theorem cov_l1 (x2 : List ByteArray) (x38 : List ByteArray) (hy : ∀ s ∈ x38, s.size ≤ 1000) (hz : ∀ s ∈ x2, s.size ≤ 1000) (hl : x2.length ≤ 1000) (hl2 : x38.length ≤ 1000) :
  ∀ (c k i : Nat), i + c = x38.length → 2000 + c * (x2.length + 2) < k → classification_Cover.l1 k x2 x38 x38.length i =
   some ((tls (x38.drop i)).all fun y => ((tls x2).filter (wi y)).length == 1) := by
 intro c
 induction c with
 | zero =>
  intro k i hi hk
  obtain ⟨k, rfl⟩ : ∃ q, k = q + 1 := ⟨k - 1, by omega⟩
  unfold classification_Cover.l1
  rw [if_neg (by omega), List.drop_eq_nil_of_le (by omega)]
  rfl
 | succ c ih =>
  intro k i hi hk
  rw [Nat.add_mul, Nat.one_mul] at hk
  obtain ⟨k, rfl⟩ : ∃ q, k = q + x2.length + 1 + 1 := ⟨k - x2.length - 2, by omega⟩
  have h1 : i < x38.length := by omega
  unfold classification_Cover.l1
  have e : rdOf ByteArray.empty x38 (i : Int) = x38[i] := by simp [rdOf, h1]
  have w1 : wrap64 ((i : Int) + 1) = ((i + 1 : Nat) : Int) := by unfold wrap64; omega
  have hd : tls (x38.drop i) = x38[i].data.toList :: tls (x38.drop (i + 1)) := by rw [List.drop_eq_getElem_cons h1]; rfl
  have h2 := cov_l2 x2 x38[i] x38 x38.length (i : Int) (hy _ (List.getElem_mem h1)) hz hl x2.length k 0 0 (by omega) (by omega) (Nat.le_refl _)
  rw [List.drop_zero, Nat.zero_add] at h2
  rw [if_pos (by omega), if_pos (by omega), if_pos (by omega), e, hd, List.all_cons]
  refine h2.trans ?_
  rw [w1]
  by_cases hw : ((tls x2).filter (wi x38[i].data.toList)).length = 1
  ·rw [if_pos hw, ih k (i + 1) (by omega) (by omega), beq_iff_eq.mpr hw, Bool.true_and]
  ·rw [if_neg hw, beq_eq_false_iff_ne.mpr hw, Bool.false_and]
theorem rcov_l2 (x2 : List ByteArray) (y : ByteArray) (x38 : List ByteArray) (x39 x40 : Int) (hy : y.size ≤ 1000) (hz : ∀ s ∈ x2, s.size ≤ 1000) (hl : x2.length ≤ 1000) :
  ∀ (c k i n : Nat), i + c = x2.length → 2010 ≤ k → n ≤ i → priceofficeref06_Cover.l2 (k + c + 1) x2 y n x38 x39 x40 x2 x2.length i =
   if n + ((tls (x2.drop i)).filter (wi y.data.toList)).length = 1 then priceofficeref06_Cover.l1 k x2 x38 x39 (wrap64 (x40 + 1)) else some false := by
 intro c
 induction c with
 | zero =>
  intro k i n hi hk hn
  unfold priceofficeref06_Cover.l2
  rw [if_neg (by omega), List.drop_eq_nil_of_le (by omega)]
  have e : (n + ((tls ([] : List ByteArray)).filter (wi y.data.toList)).length = 1) ↔ ((n : Int) = 1) := by simp [tls]; omega
  simp only [e]
 | succ c ih =>
  intro k i n hi hk hn
  have h1 : i < x2.length := by omega
  unfold priceofficeref06_Cover.l2
  have e : rdOf ByteArray.empty x2 (i : Int) = x2[i] := by simp [rdOf, h1]
  rw [if_pos (by omega), if_pos (by omega), if_pos (by omega), e, rwithin_eq _ _ _ hy (hz _ (List.getElem_mem h1)) (by omega)]
  simp only [Option.bind_some]
  have w1 : wrap64 ((i : Int) + 1) = ((i + 1 : Nat) : Int) := by unfold wrap64; omega
  have w2 : wrap64 ((n : Int) + 1) = ((n + 1 : Nat) : Int) := by unfold wrap64; omega
  have hd : tls (x2.drop i) = x2[i].data.toList :: tls (x2.drop (i + 1)) := by rw [List.drop_eq_getElem_cons h1]; rfl
  rw [w1, w2, hd, List.filter_cons]
  by_cases hw : wi y.data.toList x2[i].data.toList = true
  ·rw [if_pos hw, if_pos hw, show k + (c + 1) = k + c + 1 by omega, ih k (i + 1) (n + 1) (by omega) hk (by omega), List.length_cons]
   rw [show n + 1 + (List.filter (wi y.data.toList) (tls (x2.drop (i + 1)))).length = n + ((List.filter (wi y.data.toList) (tls (x2.drop (i + 1)))).length + 1) by omega]
  ·rw [if_neg hw, if_neg hw, show k + (c + 1) = k + c + 1 by omega, ih k (i + 1) n (by omega) hk (by omega)]
theorem rcov_l1 (x2 : List ByteArray) (x38 : List ByteArray) (hy : ∀ s ∈ x38, s.size ≤ 1000) (hz : ∀ s ∈ x2, s.size ≤ 1000) (hl : x2.length ≤ 1000) (hl2 : x38.length ≤ 1000) :
  ∀ (c k i : Nat), i + c = x38.length → 2010 + c * (x2.length + 2) < k → priceofficeref06_Cover.l1 k x2 x38 x38.length i =
   some ((tls (x38.drop i)).all fun y => ((tls x2).filter (wi y)).length == 1) := by
 intro c
 induction c with
 | zero =>
  intro k i hi hk
  obtain ⟨k, rfl⟩ : ∃ q, k = q + 1 := ⟨k - 1, by omega⟩
  unfold priceofficeref06_Cover.l1
  rw [if_neg (by omega), List.drop_eq_nil_of_le (by omega)]
  rfl
 | succ c ih =>
  intro k i hi hk
  rw [Nat.add_mul, Nat.one_mul] at hk
  obtain ⟨k, rfl⟩ : ∃ q, k = q + x2.length + 1 + 1 := ⟨k - x2.length - 2, by omega⟩
  have h1 : i < x38.length := by omega
  unfold priceofficeref06_Cover.l1
  have e : rdOf ByteArray.empty x38 (i : Int) = x38[i] := by simp [rdOf, h1]
  have w1 : wrap64 ((i : Int) + 1) = ((i + 1 : Nat) : Int) := by unfold wrap64; omega
  have hd : tls (x38.drop i) = x38[i].data.toList :: tls (x38.drop (i + 1)) := by rw [List.drop_eq_getElem_cons h1]; rfl
  have h2 := rcov_l2 x2 x38[i] x38 x38.length (i : Int) (hy _ (List.getElem_mem h1)) hz hl x2.length k 0 0 (by omega) (by omega) (Nat.le_refl _)
  rw [List.drop_zero, Nat.zero_add] at h2
  rw [if_pos (by omega), if_pos (by omega), if_pos (by omega), e, hd, List.all_cons]
  refine h2.trans ?_
  rw [w1]
  by_cases hw : ((tls x2).filter (wi x38[i].data.toList)).length = 1
  ·rw [if_pos hw, ih k (i + 1) (by omega) (by omega), beq_iff_eq.mpr hw, Bool.true_and]
  ·rw [if_neg hw, beq_eq_false_iff_ne.mpr hw, Bool.false_and]
theorem lvsB_in (l : List (List UInt8)) (u : List UInt8) : (lvsB l u).length ≤ l.length ∧ ∀ x ∈ lvsB l u, x ∈ l := by
 unfold lvsB
 split
 ·exact ⟨List.length_filter_le _ _, fun x hx => (List.mem_filter.1 hx).1⟩
 ·simp
theorem cov_l0 (nm : ByteArray) (l : List ByteArray) (u : ByteArray) (x2 : List ByteArray) (hu : u.size ≤ 1000) (hz : ∀ s ∈ l, s.size ≤ 1000) (hl : l.length ≤ 1000) (hz2 : ∀ s ∈ x2, s.size ≤ 1000) (hl2 : x2.length ≤ 1000) :
  ∀ (c k i : Nat), i + c = x2.length → 2000000 + c < k → classification_Cover.l0 k u x2 x2 x2.length i nm l =
   some (((tls (x2.drop i)).all fun x => decide (x ∈ tls l) && wi x u.data.toList) && (lvsB (tls l) u.data.toList).all fun y => ((tls x2).filter (wi y)).length == 1) := by
 intro c
 induction c with
 | zero =>
  intro k i hi hk
  obtain ⟨k, rfl⟩ : ∃ q, k = q + 1 := ⟨k - 1, by omega⟩
  unfold classification_Cover.l0
  rw [if_neg (by omega), List.drop_eq_nil_of_le (by omega), leaves_eq k nm l u hz hu hl (by omega)]
  simp only [Option.bind_some]
  obtain ⟨hn, hm⟩ := lvsB_in (tls l) u.data.toList
  have htl : (tls l).length = l.length := by simp [tls]
  have hle : ((lvsB (tls l) u.data.toList).map bs).length ≤ 1000 := by rw [List.length_map]; omega
  have h2 := cov_l1 x2 ((lvsB (tls l) u.data.toList).map bs) (by
   intro s hs
   obtain ⟨y, hy, rfl⟩ := List.mem_map.1 hs
   obtain ⟨z, hz', rfl⟩ := List.mem_map.1 (hm y hy)
   exact hz z hz') hz2 hl2 hle ((lvsB (tls l) u.data.toList).map bs).length k 0 (by omega) (by
    have := Nat.mul_le_mul hle (show x2.length + 2 ≤ 1002 by omega)
    omega)
  rw [List.drop_zero, tls_bs] at h2
  refine h2.trans ?_
  simp [tls]
 | succ c ih =>
  intro k i hi hk
  obtain ⟨k, rfl⟩ : ∃ q, k = q + 1 := ⟨k - 1, by omega⟩
  have h1 : i < x2.length := by omega
  unfold classification_Cover.l0
  have e : rdOf ByteArray.empty x2 (i : Int) = x2[i] := by simp [rdOf, h1]
  have w1 : wrap64 ((i : Int) + 1) = ((i + 1 : Nat) : Int) := by unfold wrap64; omega
  have hd : tls (x2.drop i) = x2[i].data.toList :: tls (x2.drop (i + 1)) := by rw [List.drop_eq_getElem_cons h1]; rfl
  rw [if_pos (by omega), if_pos (by omega), if_pos (by omega), e, contains_eq k l x2[i] (by omega) (by omega), hd, List.all_cons]
  simp only [Option.bind_some]
  by_cases hc : x2[i].data.toList ∈ tls l
  ·rw [if_pos (decide_eq_true hc), within_eq k x2[i] u (hz2 _ (List.getElem_mem h1)) hu (by omega), decide_eq_true hc, Bool.true_and]
   simp only [Option.bind_some]
   by_cases hw : wi x2[i].data.toList u.data.toList = true
   ·rw [if_pos hw, w1, ih k (i + 1) (by omega) (by omega), hw, Bool.true_and]
   ·rw [if_neg hw, (by simpa using hw : wi x2[i].data.toList u.data.toList = false)]
    simp
  ·rw [if_neg (by simpa using hc), decide_eq_false hc]
   simp
theorem cover_eq (k : Nat) (nm : ByteArray) (l : List ByteArray) (u : ByteArray) (x2 : List ByteArray) (hu : u.size ≤ 1000) (hz : ∀ s ∈ l, s.size ≤ 1000) (hl : l.length ≤ 1000) (hz2 : ∀ s ∈ x2, s.size ≤ 1000) (hl2 : x2.length ≤ 1000) (hk : 2010000 ≤ k) :
  classification_Cover.f k nm l u x2 = some (covB (tls l) u.data.toList (tls x2)) := by
 unfold classification_Cover.f covB
 rw [has_prog k nm l u hz (by omega) hl]
 simp only [Option.bind_some]
 by_cases hh : known (tls l) u.data.toList = true
 ·have h0 := cov_l0 nm l u x2 hu hz hl hz2 hl2 x2.length k 0 (by omega) (by omega)
  rw [List.drop_zero] at h0
  rw [if_pos hh, hh, Bool.true_and]
  exact h0
 ·rw [if_neg hh]
  simp only [Bool.not_eq_true] at hh
  rw [hh]
  rfl
theorem rcov_l0 (nm : ByteArray) (l : List ByteArray) (u : ByteArray) (x2 : List ByteArray) (hu : u.size ≤ 1000) (hz : ∀ s ∈ l, s.size ≤ 1000) (hl : l.length ≤ 1000) (hz2 : ∀ s ∈ x2, s.size ≤ 1000) (hl2 : x2.length ≤ 1000) :
  ∀ (c k i : Nat), i + c = x2.length → 2000000 + c < k → priceofficeref06_Cover.l0 k u x2 x2 x2.length i nm l =
   some (((tls (x2.drop i)).all fun x => decide (x ∈ tls l) && wi x u.data.toList) && (lvsB (tls l) u.data.toList).all fun y => ((tls x2).filter (wi y)).length == 1) := by
 intro c
 induction c with
 | zero =>
  intro k i hi hk
  obtain ⟨k, rfl⟩ : ∃ q, k = q + 1 := ⟨k - 1, by omega⟩
  unfold priceofficeref06_Cover.l0
  rw [if_neg (by omega), List.drop_eq_nil_of_le (by omega), rleaves_eq k nm l u hz hu hl (by omega)]
  simp only [Option.bind_some]
  obtain ⟨hn, hm⟩ := lvsB_in (tls l) u.data.toList
  have htl : (tls l).length = l.length := by simp [tls]
  have hle : ((lvsB (tls l) u.data.toList).map bs).length ≤ 1000 := by rw [List.length_map]; omega
  have h2 := rcov_l1 x2 ((lvsB (tls l) u.data.toList).map bs) (by
   intro s hs
   obtain ⟨y, hy, rfl⟩ := List.mem_map.1 hs
   obtain ⟨z, hz', rfl⟩ := List.mem_map.1 (hm y hy)
   exact hz z hz') hz2 hl2 hle ((lvsB (tls l) u.data.toList).map bs).length k 0 (by omega) (by
    have := Nat.mul_le_mul hle (show x2.length + 2 ≤ 1002 by omega)
    omega)
  rw [List.drop_zero, tls_bs] at h2
  refine h2.trans ?_
  simp [tls]
 | succ c ih =>
  intro k i hi hk
  obtain ⟨k, rfl⟩ : ∃ q, k = q + 1 := ⟨k - 1, by omega⟩
  have h1 : i < x2.length := by omega
  unfold priceofficeref06_Cover.l0
  have e : rdOf ByteArray.empty x2 (i : Int) = x2[i] := by simp [rdOf, h1]
  have w1 : wrap64 ((i : Int) + 1) = ((i + 1 : Nat) : Int) := by unfold wrap64; omega
  have hd : tls (x2.drop i) = x2[i].data.toList :: tls (x2.drop (i + 1)) := by rw [List.drop_eq_getElem_cons h1]; rfl
  rw [if_pos (by omega), if_pos (by omega), if_pos (by omega), e, has_eq k l x2[i] (by omega) (by omega), hd, List.all_cons]
  simp only [Option.bind_some]
  by_cases hc : x2[i].data.toList ∈ tls l
  ·rw [if_pos (decide_eq_true hc), rwithin_eq k x2[i] u (hz2 _ (List.getElem_mem h1)) hu (by omega), decide_eq_true hc, Bool.true_and]
   simp only [Option.bind_some]
   by_cases hw : wi x2[i].data.toList u.data.toList = true
   ·rw [if_pos hw, w1, ih k (i + 1) (by omega) (by omega), hw, Bool.true_and]
   ·rw [if_neg hw, (by simpa using hw : wi x2[i].data.toList u.data.toList = false)]
    simp
  ·rw [if_neg (by simpa using hc), decide_eq_false hc]
   simp
theorem rcover_eq (k : Nat) (nm : ByteArray) (l : List ByteArray) (u : ByteArray) (x2 : List ByteArray) (hu : u.size ≤ 1000) (hz : ∀ s ∈ l, s.size ≤ 1000) (hl : l.length ≤ 1000) (hz2 : ∀ s ∈ x2, s.size ≤ 1000) (hl2 : x2.length ≤ 1000) (hk : 2010000 ≤ k) :
  priceofficeref06_Cover.f k nm l u x2 = some (covB (tls l) u.data.toList (tls x2)) := by
 unfold priceofficeref06_Cover.f covB
 rw [rknown_eq k nm l u hz (by omega) hl]
 simp only [Option.bind_some]
 by_cases hh : known (tls l) u.data.toList = true
 ·have h0 := rcov_l0 nm l u x2 hu hz hl hz2 hl2 x2.length k 0 (by omega) (by omega)
  rw [List.drop_zero] at h0
  rw [if_pos hh, hh, Bool.true_and]
  exact h0
 ·rw [if_neg hh]
  simp only [Bool.not_eq_true] at hh
  rw [hh]
  rfl
end Go.Proofs.YtpnoliognpmkmaaDoor
namespace Go.Proofs.YtpnoliognpmkmaaDoor
open Go.RowKit P Cls Go.Proofs.YtpnoliognpmkmaaDoorW.PrintWords
set_option linter.unusedVariables false
theorem short_bs {n : Nat} {cs : List ByteArray} (h : Short n cs) {l : List (List UInt8)} (hl : ∀ x ∈ l, x ∈ tls cs) : Short n (l.map bs) := fun s hs => by
 obtain ⟨x, hx, rfl⟩ := List.mem_map.1 hs
 obtain ⟨s, hs, e⟩ := List.mem_map.1 (hl x hx)
 have := h s hs
 rw [size_data, e] at this
 rw [bs_size]
 exact this
theorem covers_l0 (s : ByteArray) (l2 : List ByteArray) (u : ByteArray) (nmc : ByteArray) (cl : List ByteArray) (l3 : List Int) (nm : ByteArray) (ds : List ByteArray) (hds : Short 15 ds) (hlen : ds.length ≤ 20) (hu : u.size ≤ 15) (hku : known (tls ds) u.data.toList = true) (hk0 : known (tls ds) [] = true) : ∀ (c k i : Nat) (a : Int) (out : List ByteArray), i + c = ds.length → c + 2020000 ≤ k → 0 ≤ a → a + c ≤ 1000 → out.length ≤ i → Short 15 out →
  priceofficelaw06_ClassificationCovers.l0 k s l2 u out ds ds.length i nmc cl l3 a nm ds = some true := by
 have hs : ∀ n, 15 ≤ n → ∀ s ∈ ds, s.size ≤ n := fun n hn s hs => by have := hds s hs; omega
 have hl15 : (ds.map fun s => s.data.toList).length ≤ 20 := by rw [List.length_map]; exact hlen
 intro c
 induction c with
 | zero =>
  intro k i a out h hk ha ha2 ho hso
  obtain ⟨k, rfl⟩ : ∃ q, k = q + 1 := ⟨k - 1, by omega⟩
  simp only [priceofficelaw06_ClassificationCovers.l0]
  obtain ⟨c1, e1, g1, g2⟩ := raw_ex k nmc cl (by omega)
  obtain ⟨c2, e2, g3, g4⟩ := raw_ex k (⟨#[]⟩ : ByteArray) l2 (by omega)
  obtain ⟨m0, m1, m2⟩ := mn_range s.size 20 (by omega)
  rw [if_neg (by omega), e1]
  simp only [Option.bind_some]
  rw [e2]
  simp only [Option.bind_some]
  rw [if_pos m0, if_pos m1]
  have hx : (s.extract 0 (mn (s.size : Int) 20).toNat).size ≤ 1000 := by rw [ByteArray.size_extract]; omega
  generalize s.extract 0 (mn (s.size : Int) 20).toNat = x at *
  have z1 : ∀ s ∈ c1, s.size ≤ 1000 := fun s hs => by have := g2 s hs; omega
  have z2 : ∀ s ∈ c2, s.size ≤ 1000 := fun s hs => by have := g4 s hs; omega
  have zo : ∀ s ∈ out, s.size ≤ 1000 := fun s hs => by have := hso s hs; omega
  rw [cover_eq k nmc c1 x c2 hx z1 (by omega) z2 (by omega) (by omega), rcover_eq k nmc c1 x c2 hx z1 (by omega) z2 (by omega) (by omega)]
  simp only [Option.bind_some]
  rw [if_pos (by simp), cover_eq k nm ds u out (by omega) (hs 1000 (by omega)) (by omega) zo (by omega) (by omega), rcover_eq k nm ds u out (by omega) (hs 1000 (by omega)) (by omega) zo (by omega) (by omega)]
  simp only [Option.bind_some]
  rw [if_pos (by simp), rleaves_eq k nm ds u (hs 1000 (by omega)) (by omega) (by omega) (by omega)]
  simp only [Option.bind_some]
  have hl1 := lvsB_in (tls ds) u.data.toList
  have hl2 : (kidsB (tls ds) []).length ≤ (tls ds).length ∧ ∀ x ∈ kidsB (tls ds) [], x ∈ tls ds := by
   unfold kidsB
   rw [if_pos hk0]
   exact ⟨List.length_filter_le _ _, fun x hx => (List.mem_filter.1 hx).1⟩
  rw [tls_length] at hl1 hl2
  have zl : ∀ s ∈ (lvsB (tls ds) u.data.toList).map bs, s.size ≤ 1000 := fun s hs => by have := short_bs hds hl1.2 s hs; omega
  have zk : ∀ s ∈ (kidsB (tls ds) []).map bs, s.size ≤ 1000 := fun s hs => by have := short_bs hds hl2.2 s hs; omega
  rw [cover_eq k nm ds u _ (by omega) (hs 1000 (by omega)) (by omega) zl (by rw [List.length_map]; omega) (by omega), tls_bs, cover_leaves hku]
  simp only [Option.bind_some, if_true]
  rw [rchildren_eq k nm ds _ (hs 1000 (by omega)) (by omega) (by omega)]
  simp only [Option.bind_some]
  have e0 : (⟨#[]⟩ : ByteArray).data.toList = [] := rfl
  rw [show (kidsB (tls ds) (⟨#[]⟩ : ByteArray).data.toList) = kidsB (tls ds) [] from rfl, cover_eq k nm ds _ _ (by decide) (hs 1000 (by omega)) (by omega) zk (by rw [List.length_map]; omega) (by omega), tls_bs, show covB (tls ds) (⟨#[]⟩ : ByteArray).data.toList (kidsB (tls ds) []) = true from cover_tops hk0]
  simp only [Option.bind_some, if_true]
  rw [awake_eq k (by omega)]
  rfl
 | succ c ih =>
  intro k i a out h hk ha ha2 ho hso
  obtain ⟨k, rfl⟩ : ∃ q, k = q + 1 := ⟨k - 1, by omega⟩
  have hi : i < ds.length := by omega
  simp only [priceofficelaw06_ClassificationCovers.l0]
  obtain ⟨r, er, r0, r1⟩ := next_ex l3 a 2 (by omega) (by omega) (by omega) (by omega)
  rw [if_pos (by omega), if_pos (by omega), if_pos (by omega), er, rdOf_get _ hi, w64 (x := (i : Int) + 1) (by omega) (by omega), show (i : Int) + 1 = ((i + 1 : Nat) : Int) by omega]
  simp only [Option.bind_some]
  by_cases e : r = 0
  ·rw [if_pos e, if_pos (by omega)]
   refine ih k (i + 1) (a + 1) _ (by omega) (by omega) (by omega) (by omega) (by rw [List.length_append]; simp; omega) (Short.app hso (Short.one (hds _ (List.getElem_mem hi))))
  ·rw [if_neg e]
   exact ih k (i + 1) (a + 1) _ (by omega) (by omega) (by omega) (by omega) (by omega) hso
theorem pureClassificationCovers (a0_0 : ByteArray) (l0 : List ByteArray) (a1 : ByteArray) (l2 : List ByteArray) (l3 : List Int) (w1 : a1.size ≤ 140737488351232) (hm3 : l3.length ≤ maxLen) (y3 : l3.length * 8 ≤ 140737488351232) (hw3 : ∀ n ∈ l3, (Lit.int .i64 n).wf = true) : ∃ k, priceofficelaw06_ClassificationCovers.f k a0_0 l0 a1 l2 l3 = some true := by
 obtain ⟨k, hk⟩ : ∃ k : Nat, 2030000 ≤ k := ⟨_, Nat.le_refl _⟩
 refine ⟨k, ?_⟩
 unfold priceofficelaw06_ClassificationCovers.f
 obtain ⟨nm, L, m, e, h1, h2, hI, m1, m2⟩ := treem_ex k l3 0 (by omega) (by omega) (by omega)
 have hel := enc_len L
 have htl : (tls (enc L)).length = L.length := by rw [tls_length, enc_len]
 rw [e]
 simp only [Option.bind_some, List.length_cons, List.length_nil]
 rw [if_pos (by omega), w64 (by omega) (by omega)]
 obtain ⟨r, er, r0, r1⟩ := next_ex l3 m ((enc L).length + 1) (by omega) (by omega) (by omega) (by omega)
 rw [er]
 simp only [Option.bind_some]
 have hr : r.toNat < ([(⟨#[]⟩ : ByteArray)] ++ enc L).length := by rw [List.length_append]; simp; omega
 rw [if_pos r0, if_pos (by rw [List.length_append]; simp; omega)]
 obtain ⟨j, rfl⟩ : ∃ j : Nat, r = (j : Int) := ⟨r.toNat, by omega⟩
 rw [Int.toNat_natCast] at hr
 rw [rdOf_get _ hr]
 have hk0 := hI.made.known (by omega) (by omega) (p := []) (.inl rfl)
 have hu : (([(⟨#[]⟩ : ByteArray)] ++ enc L)[j]).size ≤ 15 ∧ known (tls (enc L)) (([(⟨#[]⟩ : ByteArray)] ++ enc L)[j]).data.toList = true := by
  rcases List.mem_append.1 (List.getElem_mem hr) with hu | hu
  ·rw [List.mem_singleton.1 hu]
   exact ⟨Nat.zero_le _, hk0⟩
  ·obtain ⟨q, hq, e⟩ := List.mem_map.1 hu
   rw [← e]
   exact ⟨fmt_size (hI.good q hq), hI.made.known (by omega) (by omega) (p := q) (.inr hq)⟩
 exact covers_l0 a1 l2 _ a0_0 l0 l3 nm (enc L) hI.short (by omega) hu.1 hu.2 hk0 (enc L).length k 0 (m + 1) [] (Nat.zero_add _) (by omega) (by omega) (by omega) (Nat.le_refl _) (fun s hs => absurd hs (by simp))
end Go.Proofs.YtpnoliognpmkmaaDoor
