/- The plain law of ClassificationTotal. -/
import Derived.Test.YtpnoliognpmkmaaDoorClsD
import Derived.Test.YtpnoliognpmkmaaDoorClsE
import Derived.Test.YtpnoliognpmkmaaDoorP6
namespace Go.Proofs.YtpnoliognpmkmaaDoor
open Go.RowKit P Cls Go.Proofs.YtpnoliognpmkmaaDoorW.PrintWords
set_option linter.unusedVariables false
theorem total_k (k : Nat) (hk : 2000 ≤ k) (l : List Int) : priceofficelaw06_ClassificationTotal.f k l = some true := by
  unfold priceofficelaw06_ClassificationTotal.f
  obtain ⟨a, m1, e1, sa, _, _⟩ := code_ex k l 0 (by omega) (by omega) (by omega)
  rw [e1]
  simp only [Option.bind_some]
  obtain ⟨b, m2, e2, sb, _, _⟩ := code_ex k l m1 (by omega) (by omega) (by omega)
  rw [e2]
  simp only [Option.bind_some]
  obtain ⟨c, m3, e3, sc, _, _⟩ := code_ex k l m2 (by omega) (by omega) (by omega)
  rw [e3]
  simp only [Option.bind_some]
  rw [compare_eq k a b (by omega) (by omega) hk, compare_eq k b c (by omega) (by omega) hk, compare_eq k a c (by omega) (by omega) hk, compare_eq k b a (by omega) (by omega) hk, awake_eq k hk]
  simp only [Option.bind_some]
  have r := cmpS_range a.data.toList b.data.toList
  rw [cmpS_turned a.data.toList b.data.toList, w64 (x := -cmpS a.data.toList b.data.toList) (by omega) (by omega), if_pos rfl]
  have hz : ((cmpS a.data.toList b.data.toList == 0) == (a.toList == b.toList)) = true := by
    rw [ByteArray.toList_eq, ByteArray.toList_eq]
    by_cases h : a.data.toList = b.data.toList
    · rw [(cmpS_zero _ _).2 h]; simp [h]
    · have : ¬ cmpS a.data.toList b.data.toList = 0 := fun e => h ((cmpS_zero _ _).1 e)
      rw [beq_eq_false_iff_ne.2 this, beq_eq_false_iff_ne.2 h]
      rfl
  rw [if_pos hz]
  by_cases h1 : cmpS a.data.toList b.data.toList > 0
  · rw [if_pos h1]
  rw [if_neg h1]
  by_cases h2 : cmpS b.data.toList c.data.toList > 0
  · rw [if_pos h2]
  rw [if_neg h2, if_pos (cmpS_trans _ b.data.toList _ (by omega) (by omega))]
theorem pureClassificationTotal (a0 : List Int) (hm0 : a0.length ≤ maxLen) (y0 : a0.length * 8 ≤ 140737488351232) (hw0 : ∀ n ∈ a0, (Lit.int .i64 n).wf = true) : ∃ k, priceofficelaw06_ClassificationTotal.f k a0 = some true :=
  ⟨2000, total_k 2000 (Nat.le_refl _) a0⟩
end Go.Proofs.YtpnoliognpmkmaaDoor
