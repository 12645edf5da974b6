/- The plain law of ClassificationParts. -/
import Derived.Test.YtpnoliognpmkmaaDoorClsF
import Derived.Test.YtpnoliognpmkmaaDoorP10
namespace Go.Proofs.YtpnoliognpmkmaaDoor
open Go.RowKit P Cls Go.Proofs.YtpnoliognpmkmaaDoorW.PrintWords
set_option linter.unusedVariables false
theorem same_ints (x : List Int) (hx : x.length ≤ 1000) : ∀ (c k i : Nat), i + c = x.length → c < k → priceofficeref06_SameInts.l0 k x x x.length i = some true := by
  intro c
  induction c with
  | zero =>
    intro k i h hk
    obtain ⟨k, rfl⟩ : ∃ q, k = q + 1 := ⟨k - 1, by omega⟩
    simp only [priceofficeref06_SameInts.l0]
    rw [if_neg (by omega)]
  | succ c ih =>
    intro k i h hk
    obtain ⟨k, rfl⟩ : ∃ q, k = q + 1 := ⟨k - 1, by omega⟩
    simp only [priceofficeref06_SameInts.l0]
    rw [if_pos (by omega), if_pos (by omega), if_pos (by omega), if_pos trivial, w64 (x := (i : Int) + 1) (by omega) (by omega), show (i : Int) + 1 = ((i + 1 : Nat) : Int) by omega, ih k (i + 1) (by omega) (by omega), if_pos (by omega)]
theorem same_refl (k : Nat) (x : List Int) (hx : x.length ≤ 1000) (hk : 2000 ≤ k) : priceofficeref06_SameInts.f k x x = some true := by
  unfold priceofficeref06_SameInts.f
  rw [if_pos rfl, show (0 : Int) = ((0 : Nat) : Int) from rfl, same_ints x hx x.length k 0 (by omega) (by omega)]
theorem parts_end (k : Nat) (q : List Int) (hq : good q) (hk : 2100 ≤ k) (l : List Int) (a i n : Int) (h : ¬ i < n) : priceofficelaw06_ClassificationParts.l0 (k + 2) q n i l a = some true := by
  rw [priceofficelaw06_ClassificationParts.l0, if_neg h, format_eq (k + 1) (by omega)]
  simp only [Option.bind_some]
  have h1 := hq.1
  have h5 := hq.2.1
  have hc : isC (fmt q) q := ⟨hq, rfl⟩
  have efm : fm q = (bs (fmt q), 0) := by unfold fm; rw [if_pos hq]
  have hz : (bs (fmt q)).size ≤ 1000 := by rw [bs_size]; have := fmt_len q; omega
  rw [efm]
  simp only
  rw [parse_eq (k + 1) _ hz (by omega), path_eq (k + 1) _ hz (by omega), bs_data, pr_ok hc, pl_ok hc]
  simp only [Option.bind_some, if_true, List.length_map, pathOf_len]
  rw [same_refl (k + 1) q (by omega) (by omega)]
  simp only [Option.bind_some, if_true]
  rw [level_eq (k + 1) _ hz (by omega), bs_data]
  have el : lev (fmt q) = q.length := by unfold lev; rw [pr_ok hc]; simp
  rw [el]
  simp only [Option.bind_some, if_true]
  rw [w64 (x := (q.length : Int) - 1) (by omega) (by omega), if_pos (by omega), if_pos (by omega), show (q.length : Int) - 1 = ((q.length - 1 : Nat) : Int) by omega, rdOf_get _ (by rw [List.length_map, pathOf_len]; omega)]
  rw [List.getElem_map, pathOf_get q _ (by omega), show q.length - 1 + 1 = q.length by omega, List.take_length]
  rw [priceofficelaw06_ClassificationParts.j1, if_neg (by simp), parent_eq k _ hz (by omega), bs_data, par_ok hc]
  simp only [Option.bind_some, if_true, List.length_map, pathOf_len]
  by_cases hl : (q.length : Int) = 1
  · rw [if_pos hl, if_pos (by rw [bs_toList, show q.length - 1 = 0 by omega]; rfl), awake_eq k (by omega)]
    rfl
  · rw [if_neg hl, w64 (x := (q.length : Int) - 2) (by omega) (by omega), if_pos (by omega), if_pos (by omega), show (q.length : Int) - 2 = ((q.length - 2 : Nat) : Int) by omega, rdOf_get _ (by rw [List.length_map, pathOf_len]; omega)]
    rw [List.getElem_map, pathOf_get q _ (by omega), show q.length - 2 + 1 = q.length - 1 by omega, if_pos rfl, awake_eq k (by omega)]
    rfl
theorem parts_l0 (l : List Int) : ∀ (c k : Nat) (q : List Int) (i n a : Int), i + c = n → 0 ≤ i → 1 ≤ n → n ≤ 5 → c + 2200 ≤ k → q.length = i.toNat → (∀ x ∈ q, okP x) → 0 ≤ a → a + c ≤ 1000 →
    priceofficelaw06_ClassificationParts.l0 k q n i l a = some true := by
  intro c
  induction c with
  | zero =>
    intro k q i n a h h0 h1 h5 hk hq ho ha hb
    obtain ⟨k, rfl⟩ : ∃ q, k = q + 2 := ⟨k - 2, by omega⟩
    exact parts_end k q ⟨by omega, by omega, ho⟩ (by omega) l a i n (by omega)
  | succ c ih =>
    intro k q i n a h h0 h1 h5 hk hq ho ha hb
    obtain ⟨k, rfl⟩ : ∃ q, k = q + 1 := ⟨k - 1, by omega⟩
    simp only [priceofficelaw06_ClassificationParts.l0]
    obtain ⟨r, e, r0, r1⟩ := next_ex l a 99 ha (by omega) (by omega) (by omega)
    rw [if_pos (by omega), e]
    simp only [Option.bind_some]
    rw [if_pos (by omega), w64 (x := 1 + r) (by omega) (by omega), w64 (x := i + 1) (by omega) (by omega)]
    refine ih k _ (i + 1) n (a + 1) (by omega) (by omega) h1 h5 (by omega) (by rw [List.length_append, hq]; simp only [List.length_cons, List.length_nil]; omega) ?_ (by omega) (by omega)
    intro x hx
    rcases List.mem_append.1 hx with hx | hx
    · exact ho x hx
    · simp only [List.mem_cons, List.not_mem_nil, or_false] at hx
      subst hx
      exact ⟨by omega, by omega⟩
theorem pureClassificationParts (l1 : List Int) (hm1 : l1.length ≤ maxLen) (y1 : l1.length * 8 ≤ 140737488351232) (hw1 : ∀ n ∈ l1, (Lit.int .i64 n).wf = true) : ∃ k, priceofficelaw06_ClassificationParts.f k l1 = some true := by
  obtain ⟨k, hk⟩ : ∃ k : Nat, 3000 ≤ k := ⟨3000, Nat.le_refl _⟩
  refine ⟨k, ?_⟩
  unfold priceofficelaw06_ClassificationParts.f
  obtain ⟨r, e, r0, r1⟩ := next_ex l1 0 5 (by omega) (by omega) (by omega) (by omega)
  rw [e]
  simp only [Option.bind_some]
  rw [w64 (x := 1 + r) (by omega) (by omega)]
  exact parts_l0 l1 (1 + r).toNat k [] 0 (1 + r) (0 + 1) (by omega) (by omega) (by omega) (by omega) (by omega) rfl (by intro x hx; cases hx) (by omega) (by omega)
end Go.Proofs.YtpnoliognpmkmaaDoor
