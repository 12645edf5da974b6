/- The plain law of ClassificationParses. -/
import Derived.Test.YtpnoliognpmkmaaDoorClsC
import Derived.Test.YtpnoliognpmkmaaDoorClsD
import Derived.Test.YtpnoliognpmkmaaDoorClsE
import Derived.Test.YtpnoliognpmkmaaDoorP8
namespace Go.Proofs.YtpnoliognpmkmaaDoor
open Go.RowKit P Cls Go.Proofs.YtpnoliognpmkmaaDoorW.PrintWords
set_option linter.unusedVariables false
theorem same_ints (x : List Int) (hx : x.length ≤ 1000) : ∀ (c k i : Nat), i + c = x.length → c < k → priceofficeref06_SameInts.l0 k x x x.length i = some true := by
  intro c
  induction c with
  | zero =>
    intro k i h hk
    obtain ⟨k, rfl⟩ : ∃ q, k = q + 1 := ⟨k - 1, by omega⟩
    simp only [priceofficeref06_SameInts.l0]
    rw [if_neg (by omega)]
  | succ c ih =>
    intro k i h hk
    obtain ⟨k, rfl⟩ : ∃ q, k = q + 1 := ⟨k - 1, by omega⟩
    simp only [priceofficeref06_SameInts.l0]
    rw [if_pos (by omega), if_pos (by omega), if_pos (by omega), if_pos trivial, w64 (x := (i : Int) + 1) (by omega) (by omega), show (i : Int) + 1 = ((i + 1 : Nat) : Int) by omega, ih k (i + 1) (by omega) (by omega), if_pos (by omega)]
theorem same_refl (k : Nat) (x : List Int) (hx : x.length ≤ 1000) (hk : 2000 ≤ k) : priceofficeref06_SameInts.f k x x = some true := by
  unfold priceofficeref06_SameInts.f
  rw [if_pos rfl, show (0 : Int) = ((0 : Nat) : Int) from rfl, same_ints x hx x.length k 0 (by omega) (by omega)]
theorem mn_range (n : Nat) (m : Int) (h : 0 ≤ m) : 0 ≤ mn (n : Int) m ∧ mn (n : Int) m ≤ n ∧ mn (n : Int) m ≤ m := by
  unfold mn
  split <;> omega
theorem parses_l0 (x1 : List Int) (us : List ByteArray) (hu : ∀ u ∈ us, u.size ≤ 1000) (hl : us.length ≤ 2) : ∀ (c k i : Nat), i + c = us.length → 2 * c + 2100 ≤ k →
    priceofficelaw06_ClassificationParses.l0 k x1 us us.length i = some true := by
  intro c
  induction c with
  | zero =>
    intro k i h hk
    obtain ⟨k, rfl⟩ : ∃ q, k = q + 1 := ⟨k - 1, by omega⟩
    simp only [priceofficelaw06_ClassificationParses.l0]
    obtain ⟨m0, m1, m2⟩ := mn_range x1.length 8 (by omega)
    rw [if_neg (by omega), if_pos m0, if_pos m1, format_eq k (by omega), rformat_eq k (by omega)]
    simp only [Option.bind_some]
    rw [if_pos trivial, if_pos trivial, awake_eq k (by omega)]
    rfl
  | succ c ih =>
    intro k i h hk
    obtain ⟨k, rfl⟩ : ∃ q, k = q + 2 := ⟨k - 2, by omega⟩
    rw [priceofficelaw06_ClassificationParses.l0]
    have hi : i < us.length := by omega
    have e : rdOf ByteArray.empty us (i : Int) = us[i] := by unfold rdOf; simp [List.getD_eq_getElem?_getD, hi]
    have hz := hu _ (List.getElem_mem hi)
    rw [if_pos (by omega), if_pos (by omega), if_pos (by omega), e, parse_eq (k + 1) _ hz (by omega), rparse_eq (k + 1) _ hz (by omega)]
    simp only [Option.bind_some]
    rw [if_pos trivial, same_refl (k + 1) _ (by have := pr_len us[i].data.toList; omega) (by omega)]
    simp only [Option.bind_some, Bool.not_true]
    have nxt : priceofficelaw06_ClassificationParses.l0 k x1 us us.length (wrap64 ((i : Int) + 1)) = some true := by
      rw [w64 (x := (i : Int) + 1) (by omega) (by omega), show (i : Int) + 1 = ((i + 1 : Nat) : Int) by omega]
      exact ih k (i + 1) (by omega) (by omega)
    rw [priceofficelaw06_ClassificationParses.j1]
    rw [if_neg (by decide), nxt, format_eq k (by omega)]
    rcases pr_cases us[i].data.toList with ⟨q, hq, e⟩ | ⟨_, e⟩
    · rw [e]
      simp only [if_true, Option.bind_some]
      unfold fm
      rw [if_pos hq.1]
      simp only [if_true]
      rw [if_pos (by rw [hq.2, bs_of])]
    · rw [e]
      rfl
theorem pureClassificationParses (a0 : ByteArray) (l1 l2 : List Int) (w0 : a0.size ≤ 140737488351232) (hm1 : l1.length ≤ maxLen) (y1 : l1.length * 8 ≤ 140737488351232) (hw1 : ∀ n ∈ l1, (Lit.int .i64 n).wf = true)
    (hm2 : l2.length ≤ maxLen) (y2 : l2.length * 8 ≤ 140737488351232) (hw2 : ∀ n ∈ l2, (Lit.int .i64 n).wf = true) : ∃ k, priceofficelaw06_ClassificationParses.f k a0 l1 l2 = some true := by
  obtain ⟨k, hk⟩ : ∃ k : Nat, 3000 ≤ k := ⟨3000, Nat.le_refl _⟩
  refine ⟨k, ?_⟩
  unfold priceofficelaw06_ClassificationParses.f
  obtain ⟨m0, m1, m2⟩ := mn_range a0.size 30 (by omega)
  obtain ⟨s, m, e, hs, _, _⟩ := code_ex k l2 0 (by omega) (by omega) (by omega)
  rw [if_pos m0, if_pos m1, e]
  simp only [Option.bind_some]
  refine parses_l0 l1 _ ?_ (by simp) 2 k 0 rfl (by omega)
  intro u hu
  simp only [List.mem_cons, List.not_mem_nil, or_false] at hu
  rcases hu with rfl | rfl
  · rw [ByteArray.size_extract]; omega
  · omega
end Go.Proofs.YtpnoliognpmkmaaDoor
