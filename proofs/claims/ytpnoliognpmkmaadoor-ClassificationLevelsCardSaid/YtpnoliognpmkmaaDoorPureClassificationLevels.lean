/- The plain law of ClassificationLevels. -/
import Derived.Test.YtpnoliognpmkmaaDoorClsF
import Derived.Test.YtpnoliognpmkmaaDoorP12
namespace Go.Proofs.YtpnoliognpmkmaaDoor
open Go.RowKit P Cls Go.Proofs.YtpnoliognpmkmaaDoorW.PrintWords
set_option linter.unusedVariables false
theorem mn_range (n : Nat) (m : Int) (h : 0 ≤ m) : 0 ≤ mn (n : Int) m ∧ mn (n : Int) m ≤ n ∧ mn (n : Int) m ≤ m := by
  unfold mn
  split <;> omega
theorem levels_l0 (us : List ByteArray) (hu : ∀ u ∈ us, u.size ≤ 1000) (hl : us.length ≤ 2) : ∀ (c k i : Nat), i + c = us.length → c + 2100 ≤ k →
    priceofficelaw06_ClassificationLevels.l0 k us us.length i = some true := by
  intro c
  induction c with
  | zero =>
    intro k i h hk
    obtain ⟨k, rfl⟩ : ∃ q, k = q + 1 := ⟨k - 1, by omega⟩
    simp only [priceofficelaw06_ClassificationLevels.l0]
    rw [if_neg (by omega), awake_eq k (by omega)]
    rfl
  | succ c ih =>
    intro k i h hk
    obtain ⟨k, rfl⟩ : ∃ q, k = q + 1 := ⟨k - 1, by omega⟩
    simp only [priceofficelaw06_ClassificationLevels.l0]
    have hi : i < us.length := by omega
    have hz := hu _ (List.getElem_mem hi)
    rw [if_pos (by omega), if_pos (by omega), if_pos (by omega), rdOf_get _ hi, parent_eq k _ hz (by omega), rparent_eq k _ hz (by omega), level_eq k _ hz (by omega), rlevel_eq k _ hz (by omega), path_eq k _ hz (by omega), rpath_eq k _ hz (by omega)]
    simp only [Option.bind_some]
    have hp := pl_len us[i].data.toList
    rw [if_pos trivial, if_pos trivial, if_neg (by simp), sstr_refl k _ (by rw [List.length_map]; omega) (by rw [List.length_map]; omega)]
    simp only [Option.bind_some, if_true]
    rw [w64 (x := (i : Int) + 1) (by omega) (by omega), show (i : Int) + 1 = ((i + 1 : Nat) : Int) by omega]
    exact ih k (i + 1) (by omega) (by omega)
theorem pureClassificationLevels (a0 : ByteArray) (l1 : List Int) (w0 : a0.size ≤ 140737488351232) (hm1 : l1.length ≤ maxLen) (y1 : l1.length * 8 ≤ 140737488351232) (hw1 : ∀ n ∈ l1, (Lit.int .i64 n).wf = true) : ∃ k, priceofficelaw06_ClassificationLevels.f k a0 l1 = some true := by
  obtain ⟨k, hk⟩ : ∃ k : Nat, 3000 ≤ k := ⟨3000, Nat.le_refl _⟩
  refine ⟨k, ?_⟩
  unfold priceofficelaw06_ClassificationLevels.f
  obtain ⟨m0, m1, m2⟩ := mn_range a0.size 30 (by omega)
  obtain ⟨s, m, e, hs, _, _⟩ := code_ex k l1 0 (by omega) (by omega) (by omega)
  rw [if_pos m0, if_pos m1, e]
  simp only [Option.bind_some]
  refine levels_l0 _ ?_ (by simp) 2 k 0 rfl (by omega)
  intro u hu
  simp only [List.mem_cons, List.not_mem_nil, or_false] at hu
  rcases hu with rfl | rfl
  · rw [ByteArray.size_extract]; omega
  · omega
end Go.Proofs.YtpnoliognpmkmaaDoor
