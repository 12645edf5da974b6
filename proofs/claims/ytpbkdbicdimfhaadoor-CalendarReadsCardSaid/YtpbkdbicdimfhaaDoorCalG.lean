/- The texts of dates as lists of bytes: what a date is written as, and how it is read, both as the program has it and as the document has it. Plain Lean, no program in sight. -/
import Derived.Lib.SplitLaws
import Derived.Lib.AtoiErrMem
import Derived.Lib.ItoaNum
import Derived.Lib.AtoiAll
import Derived.Test.YtpbkdbicdimfhaaDoorCalA
namespace Go.Proofs.YtpbkdbicdimfhaaDoor.Dt
set_option linter.unusedVariables false
def dg (n : Int) : UInt8 := UInt8.ofNat (48 + n.toNat)
def vdg (c : UInt8) : Int := (c.toNat : Int) - 48
def isD (c : UInt8) : Bool := 48 ≤ c.toNat && c.toNat ≤ 57
def tx2 (n : Int) : List UInt8 := [dg (n / 10), dg (n % 10)]
def y4 (y : Int) : List UInt8 := [dg (y / 1000), dg (y / 100 % 10), dg (y / 10 % 10), dg (y % 10)]
def fmtD (y m d : Int) : List UInt8 := y4 y ++ 45 :: (tx2 m ++ 45 :: tx2 d)
def fmD (y m d : Int) : List UInt8 := if Cal.vd y m d = true then fmtD y m d else []
def numL (l : List UInt8) : Int := match Lib.atoiAll l with
  | .ok v => v
  | .range => Lib.atoiSat l
  | _ => 0
theorem dg_toNat (n : Int) (h0 : 0 ≤ n) (h1 : n ≤ 9) : (dg n).toNat = 48 + n.toNat := by
  unfold dg
  rw [UInt8.toNat_ofNat']
  omega
theorem vdg_dg (n : Int) (h0 : 0 ≤ n) (h1 : n ≤ 9) : vdg (dg n) = n := by
  unfold vdg
  rw [dg_toNat n h0 h1]
  omega
theorem isD_dg (n : Int) (h0 : 0 ≤ n) (h1 : n ≤ 9) : isD (dg n) = true := by
  unfold isD
  rw [dg_toNat n h0 h1]
  simp
  omega
theorem dg_vdg (c : UInt8) (h : isD c = true) : dg (vdg c) = c := by
  unfold isD at h
  simp at h
  apply UInt8.toNat_inj.1
  rw [dg_toNat _ (by unfold vdg; omega) (by unfold vdg; omega)]
  unfold vdg
  omega
theorem vdg_range (c : UInt8) (h : isD c = true) : 0 ≤ vdg c ∧ vdg c ≤ 9 := by
  unfold isD at h
  simp at h
  unfold vdg
  omega
theorem num_tx : ∀ n : Fin 100, numL (tx2 (n.val : Int)) = n.val ∧ (45 : UInt8) ∉ tx2 (n.val : Int) ∧ (if (n.val : Int) < 10 then 48 :: Lib.itoa (n.val : Int) else Lib.itoa (n.val : Int)) = tx2 (n.val : Int) := by decide +kernel
theorem num_y : ∀ n : Fin 500, numL (y4 (1900 + (n.val : Int))) = 1900 + n.val ∧ (45 : UInt8) ∉ y4 (1900 + (n.val : Int)) ∧ Lib.itoa (1900 + (n.val : Int)) = y4 (1900 + (n.val : Int)) := by decide +kernel
theorem tx_at {n : Int} (h0 : 0 ≤ n) (h1 : n ≤ 99) : numL (tx2 n) = n ∧ (45 : UInt8) ∉ tx2 n ∧ (if n < 10 then 48 :: Lib.itoa n else Lib.itoa n) = tx2 n := by
  have := num_tx ⟨n.toNat, by omega⟩
  simp only [show ((n.toNat : Nat) : Int) = n by omega] at this
  exact this
theorem y_at {y : Int} (h0 : 1900 ≤ y) (h1 : y ≤ 2399) : numL (y4 y) = y ∧ (45 : UInt8) ∉ y4 y ∧ Lib.itoa y = y4 y := by
  have := num_y ⟨(y - 1900).toNat, by omega⟩
  simp only [show (1900 + ((y - 1900).toNat : Nat) : Int) = y by omega] at this
  exact this
theorem vd_small {y m d : Int} (h : Cal.vd y m d = true) : 1900 ≤ y ∧ y ≤ 2399 ∧ 1 ≤ m ∧ m ≤ 12 ∧ 1 ≤ d ∧ d ≤ 31 := by
  obtain ⟨a, b, c, e, f, g⟩ := Cal.vd_of h
  have := Cal.ln_bd y m
  exact ⟨a, b, c, e, f, by omega⟩
theorem index_at : ∀ (w : List UInt8) (r : List UInt8), (45 : UInt8) ∉ w → Lib.index (w ++ 45 :: r) [45] = (w.length : Nat)
  | [], r, _ => by simp [Lib.index]
  | c :: w, r, h => by
    have hc : c ≠ 45 := fun e => h (by simp [e])
    have ih := index_at w r fun hh => h (by simp [hh])
    have e : ¬ ([45] <+: c :: (w ++ 45 :: r)) := fun hh => by
      rw [List.cons_prefix_cons] at hh
      exact hc hh.1.symm
    rw [List.cons_append, Lib.index]
    simp [ih, e]
/-- the words between the strokes, at most three -/
def wordsL (s : List UInt8) : List (List UInt8) := Lib.splitK [45] 0 (min 3 (s.length + 1) - 1) s
theorem words_fmt {y m d : Int} (h : Cal.vd y m d = true) : wordsL (fmtD y m d) = [y4 y, tx2 m, tx2 d] := by
  obtain ⟨a, b, c, e, f, g⟩ := vd_small h
  have hl : (fmtD y m d).length = 10 := rfl
  have h1 := (y_at a b).2.1
  have h2 := (tx_at (n := m) (by omega) (by omega)).2.1
  unfold wordsL
  rw [hl]
  show Lib.splitK [45] 0 2 (fmtD y m d) = _
  have i1 : Lib.index (fmtD y m d) [45] = ((4 : Nat) : Int) := index_at (y4 y) (tx2 m ++ 45 :: tx2 d) h1
  have i2 : Lib.index (tx2 m ++ 45 :: tx2 d) [45] = ((2 : Nat) : Int) := index_at (tx2 m) (tx2 d) h2
  rw [Lib.splitK, i1]
  show (fmtD y m d).take 4 :: Lib.splitK [45] 0 1 ((fmtD y m d).drop 5) = _
  have e1 : (fmtD y m d).take 4 = y4 y := rfl
  have e2 : (fmtD y m d).drop 5 = tx2 m ++ 45 :: tx2 d := rfl
  rw [e1, e2, Lib.splitK, i2]
  rfl
/-- what ParseDate answers: the numbers between the strokes, if the date that they are reads so -/
def pd (s : List UInt8) : Int × Int × Int × Int :=
  let l := (wordsL s).map numL
  if s ≠ [] ∧ fmD (l.getD 0 0) (l.getD 1 0) (l.getD 2 0) = s then (l.getD 0 0, l.getD 1 0, l.getD 2 0, 0) else (0, 0, 0, 54)
theorem fmtD_ne (y m d : Int) : fmtD y m d ≠ [] := by simp [fmtD, y4]
theorem pd_ok {y m d : Int} (h : Cal.vd y m d = true) : pd (fmtD y m d) = (y, m, d, 0) := by
  obtain ⟨a, b, c, e, f, g⟩ := vd_small h
  unfold pd
  rw [words_fmt h]
  simp only [List.map_cons, List.map_nil, (y_at a b).1, (tx_at (n := m) (by omega) (by omega)).1, (tx_at (n := d) (by omega) (by omega)).1, List.getD_cons_zero, List.getD_cons_succ]
  rw [if_pos ⟨fmtD_ne _ _ _, by unfold fmD; rw [if_pos h]⟩]
theorem pd_cases (s : List UInt8) : (∃ y m d, Cal.vd y m d = true ∧ s = fmtD y m d ∧ pd s = (y, m, d, 0)) ∨ ((∀ y m d, Cal.vd y m d = true → s ≠ fmtD y m d) ∧ pd s = (0, 0, 0, 54)) := by
  by_cases h : ∃ y m d, Cal.vd y m d = true ∧ s = fmtD y m d
  · obtain ⟨y, m, d, h1, rfl⟩ := h
    exact .inl ⟨y, m, d, h1, rfl, pd_ok h1⟩
  · refine .inr ⟨fun y m d h1 h2 => h ⟨y, m, d, h1, h2⟩, ?_⟩
    unfold pd
    simp only
    rw [if_neg]
    rintro ⟨h1, h2⟩
    unfold fmD at h2
    split at h2
    · rename_i hv
      exact h ⟨_, _, _, hv, h2.symm⟩
    · exact h1 h2.symm
/-- digits read one after the other -/
def nb : Int → List UInt8 → Int
  | a, [] => a
  | a, c :: r => if isD c = true then nb (10 * a + vdg c) r else -1
/-- what the document's ParseDate answers -/
def rpd (s : List UInt8) : Int × Int × Int × Int :=
  if s.length ≠ 10 ∨ s.getD 4 0 ≠ 45 ∨ s.getD 7 0 ≠ 45 then (0, 0, 0, 54)
  else if Cal.vd (nb 0 (s.take 4)) (nb 0 ((s.drop 5).take 2)) (nb 0 ((s.drop 8).take 2)) = true then (nb 0 (s.take 4), nb 0 ((s.drop 5).take 2), nb 0 ((s.drop 8).take 2), 0) else (0, 0, 0, 54)
theorem nb_tx2 {n : Int} (h0 : 0 ≤ n) (h1 : n ≤ 99) : nb 0 (tx2 n) = n := by
  unfold tx2
  rw [nb, if_pos (isD_dg _ (by omega) (by omega)), vdg_dg _ (by omega) (by omega), nb, if_pos (isD_dg _ (by omega) (by omega)), vdg_dg _ (by omega) (by omega), nb]
  omega
theorem nb_y4 {n : Int} (h0 : 0 ≤ n) (h1 : n ≤ 9999) : nb 0 (y4 n) = n := by
  unfold y4
  rw [nb, if_pos (isD_dg _ (by omega) (by omega)), vdg_dg _ (by omega) (by omega), nb, if_pos (isD_dg _ (by omega) (by omega)), vdg_dg _ (by omega) (by omega), nb, if_pos (isD_dg _ (by omega) (by omega)), vdg_dg _ (by omega) (by omega), nb, if_pos (isD_dg _ (by omega) (by omega)), vdg_dg _ (by omega) (by omega), nb]
  omega
theorem nb2 {a b : UInt8} (h : 0 ≤ nb 0 [a, b]) : tx2 (nb 0 [a, b]) = [a, b] := by
  simp only [nb] at *
  by_cases ha : isD a = true
  · rw [if_pos ha] at *
    by_cases hb : isD b = true
    · rw [if_pos hb] at *
      have := vdg_range a ha
      have := vdg_range b hb
      unfold tx2
      rw [show (10 * (10 * 0 + vdg a) + vdg b) / 10 = vdg a by omega, show (10 * (10 * 0 + vdg a) + vdg b) % 10 = vdg b by omega, dg_vdg a ha, dg_vdg b hb]
    · rw [if_neg hb] at h; omega
  · rw [if_neg ha] at h; omega
theorem nb4 {a b c e : UInt8} (h : 0 ≤ nb 0 [a, b, c, e]) : y4 (nb 0 [a, b, c, e]) = [a, b, c, e] := by
  simp only [nb] at *
  by_cases ha : isD a = true
  · rw [if_pos ha] at *
    by_cases hb : isD b = true
    · rw [if_pos hb] at *
      by_cases hc : isD c = true
      · rw [if_pos hc] at *
        by_cases he : isD e = true
        · rw [if_pos he] at *
          have := vdg_range a ha
          have := vdg_range b hb
          have := vdg_range c hc
          have := vdg_range e he
          unfold y4
          generalize hn : 10 * (10 * (10 * (10 * 0 + vdg a) + vdg b) + vdg c) + vdg e = n
          rw [show n / 1000 = vdg a by omega, show n / 100 % 10 = vdg b by omega, show n / 10 % 10 = vdg c by omega, show n % 10 = vdg e by omega, dg_vdg a ha, dg_vdg b hb, dg_vdg c hc, dg_vdg e he]
        · rw [if_neg he] at h; omega
      · rw [if_neg hc] at h; omega
    · rw [if_neg hb] at h; omega
  · rw [if_neg ha] at h; omega
theorem ten {s : List UInt8} (h : s.length = 10) : ∃ a b c e f g i j k l, s = [a, b, c, e, f, g, i, j, k, l] := by
  match s, h with
  | [a, b, c, e, f, g, i, j, k, l], _ => exact ⟨a, b, c, e, f, g, i, j, k, l, rfl⟩
theorem rpd_eq (s : List UInt8) : rpd s = pd s := by
  rcases pd_cases s with ⟨y, m, d, hv, rfl, e⟩ | ⟨hno, e⟩
  · rw [e]
    obtain ⟨a, b, c, f, g, i⟩ := vd_small hv
    have e1 : (fmtD y m d).take 4 = y4 y := rfl
    have e2 : ((fmtD y m d).drop 5).take 2 = tx2 m := rfl
    have e3 : ((fmtD y m d).drop 8).take 2 = tx2 d := rfl
    unfold rpd
    rw [if_neg (by rintro (h | h | h) <;> exact h rfl), e1, e2, e3, nb_y4 (by omega) (by omega), nb_tx2 (by omega) (by omega), nb_tx2 (by omega) (by omega), if_pos hv]
  · rw [e]
    unfold rpd
    split
    · rfl
    · rename_i h
      simp only [not_or, Classical.not_not] at h
      obtain ⟨h1, h2, h3⟩ := h
      obtain ⟨a, b, c, f, g, i, j, k, l, o, rfl⟩ := ten h1
      simp only [List.getD_cons_succ, List.getD_cons_zero] at h2 h3
      subst h2 h3
      simp only [List.take_succ_cons, List.take_zero, List.drop_succ_cons, List.drop_zero]
      split
      · rename_i hv
        obtain ⟨p1, _, p2, _, p3, _⟩ := vd_small hv
        refine absurd ?_ (hno _ _ _ hv)
        unfold fmtD
        rw [nb4 (by omega), nb2 (by omega), nb2 (by omega)]
        rfl
      · rfl
/-- a date's text without its day, and the month's text -/
def fmtP (y m : Int) : List UInt8 := y4 y ++ 45 :: tx2 m
theorem fmtP_D (y m : Int) : fmtP y m ++ [45, 48, 49] = fmtD y m 1 := rfl
end Go.Proofs.YtpbkdbicdimfhaaDoor.Dt
