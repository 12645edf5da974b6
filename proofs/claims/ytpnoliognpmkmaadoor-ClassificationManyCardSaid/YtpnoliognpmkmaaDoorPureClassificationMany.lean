/- The plain law of ClassificationMany. -/
import Derived.Test.YtpnoliognpmkmaaDoorClsG
import Derived.Test.YtpnoliognpmkmaaDoorP21
namespace Go.Proofs.YtpnoliognpmkmaaDoor
open Go.RowKit P Cls Go.Proofs.YtpnoliognpmkmaaDoorW.PrintWords
set_option linter.unusedVariables false
theorem fold_ex (v n : Int) (h1 : 1 ≤ n) (h2 : n ≤ 4611686018427387904) : ∃ r, priceofficemake_Fold.f v n = some r ∧ 0 ≤ r ∧ r < n := by
  unfold priceofficemake_Fold.f
  rw [mx_ge h1, IntKind.wrap_u64, IntKind.wrap_u64, Int.emod_eq_of_lt (a := n) (by omega) (by omega), if_neg (by omega), tmod_nn _ (by omega)]
  have a := Int.emod_nonneg (v % 18446744073709551616) (show n ≠ 0 by omega)
  have b := Int.emod_lt_of_pos (v % 18446744073709551616) (show 0 < n by omega)
  exact ⟨_, by rw [w64 (by omega) (by omega)], a, b⟩
/-- the i-th code -/
def codeI (i : Nat) : List Int := if i % 100 = 0 then [1 + (i : Int) / 100] else [1 + (i : Int) / 100, (i : Int) % 100]
def codesI (n : Nat) : List (List UInt8) := (List.range n).map fun i => fmt (codeI i)
theorem codeI_good (i : Nat) (h : i < 300) : good (codeI i) := by
  unfold codeI
  split
  · refine ⟨by simp, by simp, ?_⟩
    intro n hn
    simp only [List.mem_cons, List.not_mem_nil, or_false] at hn
    subst hn
    exact ⟨by omega, by omega⟩
  · refine ⟨by simp, by simp, ?_⟩
    intro n hn
    simp only [List.mem_cons, List.not_mem_nil, or_false] at hn
    rcases hn with rfl | rfl
    · exact ⟨by omega, by omega⟩
    · exact ⟨by omega, by omega⟩
theorem many_end (x3 : Int) (m k : Nat) (hm : m ≤ 300) (hk : 3500 ≤ k) (h : ((val (codesI m) == 0) == decide (x3 ≤ 200)) = true) (h2 : val (codesI m) = 0 ∨ val (codesI m) = 61) (l : List ByteArray) (hl : tls l = codesI m) (i n : Int) (hi : ¬ i < n) (nm : ByteArray) :
    priceofficelaw06_ClassificationMany.l0 (k + 1) x3 n i nm l = some true := by
  have hz : ∀ s ∈ l, s.size ≤ 1000 := by
    intro s hs
    have h1 := (mem_tls l s).2 hs
    rw [hl] at h1
    unfold codesI at h1
    obtain ⟨j, hj, e⟩ := List.mem_map.1 h1
    rw [size_data, ← e]
    have := fmt_len (codeI j)
    have := (codeI_good j (by have := List.mem_range.1 hj; omega)).2.1
    omega
  rw [priceofficelaw06_ClassificationMany.l0, if_neg hi, validate_eq k nm l hz (by omega), hl]
  simp only [Option.bind_some]
  rw [if_pos h]
  by_cases h0 : val (codesI m) = 0
  · rw [if_pos h0, awake_eq k (by omega)]
    rfl
  · rw [if_neg h0, if_pos (h2.resolve_left h0), awake_eq k (by omega)]
    rfl
theorem many_l0 (m : Nat) (hm : m ≤ 300) (x3 : Int) (nm : ByteArray) (h : ((val (codesI m) == 0) == decide (x3 ≤ 200)) = true) (h2 : val (codesI m) = 0 ∨ val (codesI m) = 61) : ∀ (c k i : Nat) (l : List ByteArray), i + c = m → c + 3600 ≤ k → tls l = codesI i →
    priceofficelaw06_ClassificationMany.l0 k x3 m i nm l = some true := by
  intro c
  induction c with
  | zero =>
    intro k i l hi hk hl
    obtain ⟨k, rfl⟩ : ∃ q, k = q + 1 := ⟨k - 1, by omega⟩
    obtain rfl : i = m := by omega
    exact many_end x3 i k hm (by omega) h h2 l hl _ _ (by omega) nm
  | succ c ih =>
    intro k i l hi hk hl
    obtain ⟨k, rfl⟩ : ∃ q, k = q + 1 := ⟨k - 1, by omega⟩
    rw [priceofficelaw06_ClassificationMany.l0, if_pos (by omega), tmod_nn _ (by omega), tdiv_nn _ (by omega), w64 (x := (i : Int) / 100) (by omega) (by omega), w64 (x := 1 + (i : Int) / 100) (by omega) (by omega), w64 (x := (i : Int) + 1) (by omega) (by omega), show (i : Int) + 1 = ((i + 1 : Nat) : Int) by omega]
    have hlen : l.length = i := by
      have := congrArg List.length hl
      rw [tls_length] at this
      rw [this]
      simp [codesI]
    have hg := codeI_good i (by omega)
    have hnext : ∀ b : ByteArray, b = bs (fmt (codeI i)) → tls (l ++ [b]) = codesI (i + 1) := by
      intro b hb
      subst hb
      unfold codesI at *
      rw [List.range_succ, List.map_append, ← hl]
      simp [tls, bs_data]
    by_cases h0 : (i : Int) % 100 = 0
    · have e : [1 + (i : Int) / 100] = codeI i := by unfold codeI; rw [if_pos (by omega)]
      rw [if_pos h0, rformat_eq k (by omega), e]
      simp only [Option.bind_some]
      rw [if_pos (by omega)]
      exact ih k (i + 1) _ (by omega) (by omega) (hnext _ (by unfold fm; rw [if_pos hg]))
    · have e : [1 + (i : Int) / 100, (i : Int) % 100] = codeI i := by unfold codeI; rw [if_neg (by omega)]
      rw [if_neg h0, rformat_eq k (by omega), e]
      simp only [Option.bind_some]
      rw [if_pos (by omega)]
      exact ih k (i + 1) _ (by omega) (by omega) (hnext _ (by unfold fm; rw [if_pos hg]))
theorem many_199 : val (codesI 199) = 0 := by decide +kernel
theorem many_200 : val (codesI 200) = 0 := by decide +kernel
theorem many_201 : val (codesI 201) = 61 := by
  unfold val
  rw [if_pos]
  right
  simp [codesI]
theorem pureClassificationMany (a0 : Int) (w0 : (Lit.int .i64 a0).wf = true) : ∃ k, priceofficelaw06_ClassificationMany.f k a0 = some true := by
  obtain ⟨k, hk⟩ : ∃ k : Nat, 4000 ≤ k := ⟨4000, Nat.le_refl _⟩
  refine ⟨k, ?_⟩
  unfold priceofficelaw06_ClassificationMany.f
  obtain ⟨r, e, r0, r1⟩ := fold_ex a0 3 (by omega) (by omega)
  rw [e]
  simp only [Option.bind_some]
  rw [w64 (x := 199 + r) (by omega) (by omega)]
  have hr : r = 0 ∨ r = 1 ∨ r = 2 := by omega
  rcases hr with rfl | rfl | rfl
  · exact many_l0 199 (by omega) 199 _ (by rw [many_199]; rfl) (Or.inl many_199) 199 k 0 [] (by omega) (by omega) rfl
  · exact many_l0 200 (by omega) 200 _ (by rw [many_200]; rfl) (Or.inl many_200) 200 k 0 [] (by omega) (by omega) rfl
  · exact many_l0 201 (by omega) 201 _ (by rw [many_201]; rfl) (Or.inr many_201) 201 k 0 [] (by omega) (by omega) rfl
end Go.Proofs.YtpnoliognpmkmaaDoor
