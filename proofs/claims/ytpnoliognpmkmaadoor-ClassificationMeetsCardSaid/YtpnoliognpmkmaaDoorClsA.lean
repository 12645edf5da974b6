/- The codes of a classification as lists of bytes: what a list of parts is written as, and how it is read. Plain Lean, no program in sight. -/
import Derived.Lib.SplitLaws
import Derived.Lib.AtoiErrMem
import Derived.Lib.ItoaNum
import Derived.Lib.AtoiAll
namespace Go.Proofs.YtpnoliognpmkmaaDoor.Cls
set_option linter.unusedVariables false

def dg (n : Int) : UInt8 := UInt8.ofNat (48 + n.toNat)
def tx2 (n : Int) : List UInt8 := [dg (n / 10), dg (n % 10)]
def tx1 (n : Int) : List UInt8 := if n < 10 then [dg n] else tx2 n
def fmtTail : List Int → List UInt8
  | [] => []
  | n :: r => 46 :: (tx1 n ++ fmtTail r)
def fmt : List Int → List UInt8
  | [] => []
  | n :: r => tx2 n ++ fmtTail r
def okP (n : Int) : Prop := 1 ≤ n ∧ n ≤ 99
instance (n : Int) : Decidable (okP n) := by unfold okP; infer_instance
def good (ps : List Int) : Prop := 1 ≤ ps.length ∧ ps.length ≤ 5 ∧ ∀ n ∈ ps, okP n
instance (ps : List Int) : Decidable (good ps) := by unfold good; infer_instance
def isC (s : List UInt8) (q : List Int) : Prop := good q ∧ fmt q = s

/-- the value of a digit -/
def vd (c : UInt8) : Int := (c.toNat : Int) - 48
def isD (c : UInt8) : Bool := 48 ≤ c.toNat && c.toNat ≤ 57
theorem dg_toNat (n : Int) (h0 : 0 ≤ n) (h1 : n ≤ 9) : (dg n).toNat = 48 + n.toNat := by
  unfold dg
  rw [UInt8.toNat_ofNat']
  omega
theorem dg_vd (n : Int) (h0 : 0 ≤ n) (h1 : n ≤ 9) : vd (dg n) = n := by
  unfold vd
  rw [dg_toNat n h0 h1]
  omega
theorem dg_isD (n : Int) (h0 : 0 ≤ n) (h1 : n ≤ 9) : isD (dg n) = true := by
  unfold isD
  rw [dg_toNat n h0 h1]
  simp
  omega
theorem vd_dg (c : UInt8) (h : isD c = true) : dg (vd c) = c := by
  simp [isD] at h
  apply UInt8.toNat_inj.1
  rw [dg_toNat _ (by unfold vd; omega) (by unfold vd; omega)]
  unfold vd
  omega
theorem vd_range (c : UInt8) (h : isD c = true) : 0 ≤ vd c ∧ vd c ≤ 9 := by
  simp [isD] at h
  unfold vd
  omega
theorem isD_dot : isD 46 = false := by decide
theorem dg_ne_dot (n : Int) (h0 : 0 ≤ n) (h1 : n ≤ 9) : dg n ≠ 46 := fun h => by
  have := dg_isD n h0 h1
  rw [h, isD_dot] at this
  cases this

/-- the first part: two digits -/
def scan2 : List UInt8 → Option (Int × List UInt8)
  | c :: d :: r => if isD c = true ∧ isD d = true ∧ 1 ≤ 10 * vd c + vd d then some (10 * vd c + vd d, r) else none
  | _ => none
/-- another part: no zero ahead -/
def scan1 : List UInt8 → Option (Int × List UInt8)
  | [] => none
  | [c] => if isD c = true ∧ 1 ≤ vd c then some (vd c, []) else none
  | c :: d :: r => if isD c = true ∧ 1 ≤ vd c then (if isD d = true then some (10 * vd c + vd d, r) else some (vd c, d :: r)) else none
def prT : Nat → List UInt8 → Option (List Int)
  | _, [] => some []
  | 0, _ :: _ => none
  | m + 1, c :: r => if c = 46 then (match scan1 r with | some (n, r') => (prT m r').map (n :: ·) | none => none) else none
def prL (s : List UInt8) : Option (List Int) := match scan2 s with | some (n, r) => (prT 4 r).map (n :: ·) | none => none
/-- what Parse answers -/
def pr (s : List UInt8) : List Int × Int := match prL s with | some q => (q, 0) | none => ([], 60)

theorem scan2_some {s r : List UInt8} {n : Int} (h : scan2 s = some (n, r)) : okP n ∧ s = tx2 n ++ r := by
  match s, h with
  | c :: d :: t, h =>
    simp only [scan2] at h
    split at h
    · rename_i hc
      simp only [Option.some.injEq, Prod.mk.injEq] at h
      obtain ⟨rfl, rfl⟩ := h
      obtain ⟨h1, h2, h3⟩ := hc
      have := vd_range c h1
      have := vd_range d h2
      refine ⟨⟨h3, by omega⟩, ?_⟩
      have e1 : (10 * vd c + vd d) / 10 = vd c := by omega
      have e2 : (10 * vd c + vd d) % 10 = vd d := by omega
      simp [tx2, e1, e2, vd_dg c h1, vd_dg d h2]
    · cases h
theorem scan1_some {s r : List UInt8} {n : Int} (h : scan1 s = some (n, r)) : okP n ∧ s = tx1 n ++ r := by
  match s, h with
  | [c], h =>
    simp only [scan1] at h
    split at h
    · rename_i hc
      simp only [Option.some.injEq, Prod.mk.injEq] at h
      obtain ⟨rfl, rfl⟩ := h
      have := vd_range c hc.1
      refine ⟨⟨hc.2, by omega⟩, ?_⟩
      simp [tx1, show vd c < 10 by omega, vd_dg c hc.1]
    · cases h
  | c :: d :: t, h =>
    simp only [scan1] at h
    split at h
    · rename_i hc
      have := vd_range c hc.1
      split at h
      · rename_i hd
        simp only [Option.some.injEq, Prod.mk.injEq] at h
        obtain ⟨rfl, rfl⟩ := h
        have := vd_range d hd
        refine ⟨⟨by omega, by omega⟩, ?_⟩
        have e1 : (10 * vd c + vd d) / 10 = vd c := by omega
        have e2 : (10 * vd c + vd d) % 10 = vd d := by omega
        simp [tx1, show ¬ 10 * vd c + vd d < 10 by omega, tx2, e1, e2, vd_dg c hc.1, vd_dg d hd]
      · simp only [Option.some.injEq, Prod.mk.injEq] at h
        obtain ⟨rfl, rfl⟩ := h
        refine ⟨⟨hc.2, by omega⟩, ?_⟩
        simp [tx1, show vd c < 10 by omega, vd_dg c hc.1]
    · cases h
theorem prT_some : ∀ {m : Nat} {s : List UInt8} {q : List Int}, prT m s = some q → q.length ≤ m ∧ (∀ n ∈ q, okP n) ∧ fmtTail q = s := by
  intro m
  induction m with
  | zero =>
    intro s q h
    cases s with
    | nil =>
      simp only [prT, Option.some.injEq] at h
      subst h
      exact ⟨Nat.le_refl _, by simp, rfl⟩
    | cons c r => simp [prT] at h
  | succ m ih =>
    intro s q h
    cases s with
    | nil =>
      simp only [prT, Option.some.injEq] at h
      subst h
      exact ⟨by simp, by simp, rfl⟩
    | cons c r =>
      simp only [prT] at h
      split at h
      · rename_i hc
        split at h
        · rename_i n r' hs
          obtain ⟨hn, hr⟩ := scan1_some hs
          obtain ⟨q', hq, rfl⟩ := Option.map_eq_some_iff.1 h
          obtain ⟨h1, h2, h3⟩ := ih hq
          refine ⟨by simp; omega, by simpa using ⟨hn, h2⟩, ?_⟩
          simp [fmtTail, h3, hc, hr]
        · cases h
      · cases h
theorem prL_isC {s : List UInt8} {q : List Int} (h : prL s = some q) : isC s q := by
  unfold prL at h
  split at h
  · rename_i n r hs
    obtain ⟨hn, hr⟩ := scan2_some hs
    obtain ⟨q', hq, rfl⟩ := Option.map_eq_some_iff.1 h
    obtain ⟨h1, h2, h3⟩ := prT_some hq
    refine ⟨⟨by simp, by simp; omega, by simpa using ⟨hn, h2⟩⟩, ?_⟩
    simp [fmt, h3, hr]
  · cases h
theorem fmtTail_head (q : List Int) : fmtTail q = [] ∨ ∃ r, fmtTail q = 46 :: r := by
  cases q with
  | nil => exact .inl rfl
  | cons n r => exact .inr ⟨_, rfl⟩
theorem scan2_tx (n : Int) (h : okP n) (r : List UInt8) : scan2 (tx2 n ++ r) = some (n, r) := by
  have h0 : 0 ≤ n / 10 ∧ n / 10 ≤ 9 := by have := h.1; have := h.2; omega
  have h1 : 0 ≤ n % 10 ∧ n % 10 ≤ 9 := by omega
  have := h.1
  simp only [tx2, List.cons_append, List.nil_append, scan2]
  rw [if_pos ⟨dg_isD _ h0.1 h0.2, dg_isD _ h1.1 h1.2, by rw [dg_vd _ h0.1 h0.2, dg_vd _ h1.1 h1.2]; omega⟩, dg_vd _ h0.1 h0.2, dg_vd _ h1.1 h1.2]
  simp
  omega
theorem scan1_tx (n : Int) (h : okP n) (q : List Int) : scan1 (tx1 n ++ fmtTail q) = some (n, fmtTail q) := by
  have hn := h.1
  have hn2 := h.2
  unfold tx1
  split
  · rename_i hl
    rcases fmtTail_head q with e | ⟨r, e⟩
    · rw [e]
      simp only [List.append_nil, scan1]
      rw [if_pos ⟨dg_isD _ (by omega) (by omega), by rw [dg_vd _ (by omega) (by omega)]; omega⟩, dg_vd _ (by omega) (by omega)]
    · rw [e]
      simp only [List.cons_append, List.nil_append, scan1]
      rw [if_pos ⟨dg_isD _ (by omega) (by omega), by rw [dg_vd _ (by omega) (by omega)]; omega⟩, if_neg (by rw [isD_dot]; decide), dg_vd _ (by omega) (by omega)]
  · rename_i hl
    have h0 : 0 ≤ n / 10 ∧ n / 10 ≤ 9 := by omega
    have h1 : 0 ≤ n % 10 ∧ n % 10 ≤ 9 := by omega
    simp only [tx2, List.cons_append, List.nil_append, scan1]
    rw [if_pos ⟨dg_isD _ h0.1 h0.2, by rw [dg_vd _ h0.1 h0.2]; omega⟩, if_pos (dg_isD _ h1.1 h1.2), dg_vd _ h0.1 h0.2, dg_vd _ h1.1 h1.2]
    simp
    omega
theorem prT_tx : ∀ (q : List Int) (m : Nat), q.length ≤ m → (∀ n ∈ q, okP n) → prT m (fmtTail q) = some q := by
  intro q
  induction q with
  | nil => intro m _ _; cases m <;> rfl
  | cons n r ih =>
    intro m hm hq
    obtain ⟨m, rfl⟩ : ∃ k, m = k + 1 := ⟨m - 1, by simp at hm; omega⟩
    simp only [fmtTail, prT, if_true]
    rw [scan1_tx n (hq n (by simp)) r]
    simp only
    rw [ih m (by simp at hm; omega) (fun x hx => hq x (by simp [hx]))]
    rfl
theorem isC_prL {s : List UInt8} {q : List Int} (h : isC s q) : prL s = some q := by
  obtain ⟨⟨h1, h2, h3⟩, rfl⟩ := h
  cases q with
  | nil => simp at h1
  | cons n r =>
    unfold prL
    simp only [fmt]
    rw [scan2_tx n (h3 n (by simp))]
    simp only
    rw [prT_tx r 4 (by simp at h2; omega) (fun x hx => h3 x (by simp [hx]))]
    rfl
theorem prL_iff {s : List UInt8} {q : List Int} : prL s = some q ↔ isC s q := ⟨prL_isC, isC_prL⟩
theorem pr_ok {s : List UInt8} {q : List Int} (h : isC s q) : pr s = (q, 0) := by unfold pr; rw [isC_prL h]
theorem pr_cases (s : List UInt8) : (∃ q, isC s q ∧ pr s = (q, 0)) ∨ ((∀ q, ¬ isC s q) ∧ pr s = ([], 60)) := by
  rcases h : prL s with _ | q
  · refine .inr ⟨fun q hq => ?_, ?_⟩
    · rw [isC_prL hq] at h
      cases h
    · unfold pr
      rw [h]
  · exact .inl ⟨q, prL_isC h, by unfold pr; rw [h]⟩

/-! The words between the dots -/
def wordsOf : List Int → List (List UInt8)
  | [] => []
  | n :: r => tx2 n :: r.map tx1
theorem tx2_nodot (n : Int) (h : okP n) : (46 : UInt8) ∉ tx2 n := by
  have h0 : 0 ≤ n / 10 ∧ n / 10 ≤ 9 := by have := h.1; have := h.2; omega
  have h1 : 0 ≤ n % 10 ∧ n % 10 ≤ 9 := by omega
  simp only [tx2, List.mem_cons, List.not_mem_nil, or_false, not_or]
  exact ⟨(dg_ne_dot _ h0.1 h0.2).symm, (dg_ne_dot _ h1.1 h1.2).symm⟩
theorem tx1_nodot (n : Int) (h : okP n) : (46 : UInt8) ∉ tx1 n := by
  unfold tx1
  split
  · have := h.1
    simp only [List.mem_cons, List.not_mem_nil, or_false]
    exact (dg_ne_dot _ (by omega) (by omega)).symm
  · exact tx2_nodot n h
theorem index_none : ∀ (w : List UInt8), (46 : UInt8) ∉ w → Lib.index w [46] = -1
  | [], _ => by simp [Lib.index]
  | c :: r, h => by
    simp only [List.mem_cons, not_or] at h
    have hp : ([46] : List UInt8).isPrefixOf (c :: r) = false := by simp [List.isPrefixOf, h.1]
    rw [Lib.index, hp, index_none r h.2]
    simp
theorem index_at : ∀ (w : List UInt8) (r : List UInt8), (46 : UInt8) ∉ w → Lib.index (w ++ 46 :: r) [46] = (w.length : Nat)
  | [], r, _ => by
    rw [List.nil_append, Lib.index]
    simp [List.isPrefixOf]
  | c :: w, r, h => by
    simp only [List.mem_cons, not_or] at h
    have hp : ([46] : List UInt8).isPrefixOf (c :: (w ++ 46 :: r)) = false := by simp [List.isPrefixOf, h.1]
    rw [List.cons_append, Lib.index, hp, index_at w r h.2]
    have : ¬ ((w.length : Nat) : Int) = -1 := by omega
    simp [this]
theorem split_tail : ∀ (q : List Int) (w : List UInt8), (46 : UInt8) ∉ w → (∀ n ∈ q, okP n) → Lib.splitK [46] 0 q.length (w ++ fmtTail q) = w :: q.map tx1
  | [], w, _, _ => by simp [fmtTail, Lib.splitK]
  | n :: r, w, hw, hq => by
    have ih := split_tail r (tx1 n) (tx1_nodot n (hq n (by simp))) (fun x hx => hq x (by simp [hx]))
    simp only [fmtTail, List.length_cons, Lib.splitK]
    rw [index_at w _ hw, if_neg (by simp)]
    simp [ih]
theorem count_tail : ∀ (q : List Int) (w : List UInt8), (46 : UInt8) ∉ w → (∀ n ∈ q, okP n) → (w ++ fmtTail q).count 46 = q.length
  | [], w, hw, _ => by simp [fmtTail, List.count_eq_zero.2 hw]
  | n :: r, w, hw, hq => by
    have ih := count_tail r (tx1 n) (tx1_nodot n (hq n (by simp))) (fun x hx => hq x (by simp [hx]))
    simp only [fmtTail, List.count_append, List.count_eq_zero.2 hw, List.count_cons_self, List.length_cons] at *
    rw [← List.count_append, ← ih]
    simp [List.count_append]
theorem split_fmt {q : List Int} (h : good q) : Lib.split (fmt q) [46] = wordsOf q := by
  obtain ⟨h1, h2, h3⟩ := h
  cases q with
  | nil => simp at h1
  | cons n r =>
    have hn := h3 n (by simp)
    have hr : ∀ x ∈ r, okP x := fun x hx => h3 x (by simp [hx])
    unfold Lib.split
    rw [Lib.count_one]
    simp only [fmt, wordsOf]
    rw [count_tail r _ (tx2_nodot n hn) hr, split_tail r _ (tx2_nodot n hn) hr]
/-- the number that strconv.Atoi hands back, beside whatever error -/
def numL (l : List UInt8) : Int := match Lib.atoiAll l with
  | .ok v => v
  | .range => Lib.atoiSat l
  | _ => 0
theorem num_all : ∀ n : Fin 100, numL (tx1 (n.val : Int)) = n.val ∧ numL (tx2 (n.val : Int)) = n.val ∧ (1 ≤ n.val → Lib.itoa (n.val : Int) = tx1 (n.val : Int)) := by decide +kernel
theorem num_tx1 (n : Int) (h : okP n) : numL (tx1 n) = n := by
  have := h.1
  have := h.2
  have := (num_all ⟨n.toNat, by omega⟩).1
  simp only [show ((n.toNat : Nat) : Int) = n by omega] at this
  exact this
theorem num_tx2 (n : Int) (h : okP n) : numL (tx2 n) = n := by
  have := h.1
  have := h.2
  have := (num_all ⟨n.toNat, by omega⟩).2.1
  simp only [show ((n.toNat : Nat) : Int) = n by omega] at this
  exact this
theorem itoa_tx1 (n : Int) (h : okP n) : Lib.itoa n = tx1 n := by
  have := h.1
  have := h.2
  have := (num_all ⟨n.toNat, by omega⟩).2.2 (by simp; omega)
  simp only [show ((n.toNat : Nat) : Int) = n by omega] at this
  exact this
theorem num_words {q : List Int} (h : ∀ n ∈ q, okP n) : (wordsOf q).map numL = q := by
  cases q with
  | nil => rfl
  | cons n r =>
    have hr : ∀ x ∈ r, okP x := fun x hx => h x (by simp [hx])
    simp only [wordsOf, List.map_cons, num_tx2 n (h n (by simp)), List.map_map, List.cons.injEq, true_and]
    clear h
    induction r with
    | nil => rfl
    | cons x r ih => simp [num_tx1 x (hr x (by simp)), ih (fun y hy => hr y (by simp [hy]))]
/-- Parse as the program has it. -/
theorem pr_split (s : List UInt8) : pr s = (let ps := (Lib.split s [46]).map numL; if good ps ∧ fmt ps = s then (ps, 0) else ([], 60)) := by
  simp only
  split
  · rename_i h
    exact pr_ok h
  · rename_i h
    rcases pr_cases s with ⟨q, hq, e⟩ | ⟨hn, e⟩
    · exfalso
      apply h
      have : (Lib.split s [46]).map numL = q := by rw [← hq.2, split_fmt hq.1, num_words hq.1.2.2]
      rw [this]
      exact hq
    · exact e
end Go.Proofs.YtpnoliognpmkmaaDoor.Cls
