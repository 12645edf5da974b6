/- The plain law of ClassificationMeets. -/
import Derived.Test.YtpnoliognpmkmaaDoorP26
import Derived.Test.YtpnoliognpmkmaaDoorClsK
import Derived.Test.YtpnoliognpmkmaaDoorClsD
namespace Go.Proofs.YtpnoliognpmkmaaDoor
open Go.RowKit P Cls Go.Proofs.YtpnoliognpmkmaaDoorW.PrintWords
set_option linter.unusedVariables false
theorem com_len (a b : List UInt8) (h : a.length ≤ 1000) : (com a b).length ≤ 1000 := by
  unfold com
  rcases e : ((pl a).filter (wi b)).getLast? with _ | m
  · simp
  · have hm := (List.mem_filter.1 (List.mem_of_getLast? e)).1
    rcases code_or a with ⟨q, hq, ea⟩ | hn
    · rw [ea] at hm h
      obtain ⟨p, h1, ⟨r, rfl⟩, rfl⟩ := (mem_pl hq).1 hm
      have h2 := fmt_append p r h1
      rw [h2, List.length_append] at h
      rw [Option.getD_some]
      omega
    · rw [pl_no hn] at hm; exact absurd hm (by simp)
theorem meets_j2 (k : Nat) (a b : ByteArray) (ha : a.size ≤ 1000) (hb : b.size ≤ 1000) (hk : 2001 ≤ k) : priceofficelaw06_ClassificationMeets.j2 k a b false = some true := by
  obtain ⟨k, rfl⟩ : ∃ q, k = q + 1 := ⟨k - 1, by omega⟩
  simp only [priceofficelaw06_ClassificationMeets.j2]
  rw [if_neg (by simp), within_eq k a b ha hb (by omega), awake_eq k (by omega), compare_eq k b a hb ha (by omega)]
  simp only [Option.bind_some]
  split
  · rename_i h
    rw [if_pos (wi_before h)]
  · rfl
theorem pureClassificationMeets (l0 : List Int) (hm0 : l0.length ≤ maxLen) (y0 : l0.length * 8 ≤ 140737488351232) (hw0 : ∀ n ∈ l0, (Lit.int .i64 n).wf = true) : ∃ k, priceofficelaw06_ClassificationMeets.f k l0 = some true := by
  refine ⟨5000, ?_⟩
  unfold priceofficelaw06_ClassificationMeets.f
  obtain ⟨a, m1, e1, ha, h1, h2⟩ := code_ex 5000 l0 0 (by omega) (by omega) (by omega)
  obtain ⟨b, m2, e2, hb, h3, h4⟩ := code_ex 5000 l0 m1 (by omega) (by omega) (by omega)
  obtain ⟨c, m3, e3, hc, h5, h6⟩ := code_ex 5000 l0 m2 (by omega) (by omega) (by omega)
  have hcl : (com a.data.toList b.data.toList).length ≤ 1000 := com_len _ _ (by rw [← size_data]; omega)
  rw [e1]
  simp only [Option.bind_some]
  rw [e2]
  simp only [Option.bind_some]
  rw [e3]
  simp only [Option.bind_some]
  rw [common_eq 5000 a b (by omega) (by omega) (by omega), level_eq 5000 a (by omega) (by omega), level_eq 5000 b (by omega) (by omega)]
  simp only [Option.bind_some]
  have hlast : ∀ x : Bool, x = true → (lev a.data.toList ≥ 0 ∧ lev b.data.toList ≥ 0) → priceofficelaw06_ClassificationMeets.j0 5000 a b c (bs (com a.data.toList b.data.toList)) true = some true := by
    rintro _ _ ⟨g1, g2⟩
    obtain ⟨w1, w2⟩ := com_wi g1 g2
    simp only [priceofficelaw06_ClassificationMeets.j0]
    rw [if_pos trivial, within_eq 4999 a _ (by omega) (by rw [bs_size]; exact hcl) (by omega), within_eq 4999 b _ (by omega) (by rw [bs_size]; exact hcl) (by omega)]
    simp only [Option.bind_some, bs_data, w1, w2, if_true, Bool.not_true]
    simp only [priceofficelaw06_ClassificationMeets.j1]
    rw [if_neg (by simp), within_eq 4998 a c (by omega) (by omega) (by omega), within_eq 4998 b c (by omega) (by omega) (by omega), within_eq 4998 _ c (by rw [bs_size]; exact hcl) (by omega) (by omega)]
    simp only [Option.bind_some, bs_data]
    have hj := meets_j2 4998 a b (by omega) (by omega) (by omega)
    by_cases c1 : wi a.data.toList c.data.toList = true
    · rw [if_pos c1]
      by_cases c2 : wi b.data.toList c.data.toList = true
      · rw [if_pos c2, com_most c1 c2]
        exact hj
      · rw [if_neg c2]; exact hj
    · rw [if_neg c1]; exact hj
  have hother : priceofficelaw06_ClassificationMeets.j0 5000 a b c (bs (com a.data.toList b.data.toList)) false = some true := by
    simp only [priceofficelaw06_ClassificationMeets.j0]
    rw [if_neg (by simp), within_eq 4999 a b (by omega) (by omega) (by omega), awake_eq 4999 (by omega), compare_eq 4999 b a (by omega) (by omega) (by omega)]
    simp only [Option.bind_some]
    split
    · rename_i h
      rw [if_pos (wi_before h)]
    · rfl
  by_cases g1 : lev a.data.toList ≥ 0
  · rw [if_pos g1]
    by_cases g2 : lev b.data.toList ≥ 0
    · rw [decide_eq_true g2]; exact hlast true rfl ⟨g1, g2⟩
    · rw [decide_eq_false g2]; exact hother
  · rw [if_neg g1]; exact hother
end Go.Proofs.YtpnoliognpmkmaaDoor
