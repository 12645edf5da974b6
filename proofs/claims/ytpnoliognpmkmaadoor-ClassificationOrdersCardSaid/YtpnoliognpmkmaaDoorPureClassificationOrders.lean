/- The plain law of ClassificationOrders. -/
import Derived.Test.YtpnoliognpmkmaaDoorP25
import Derived.Test.YtpnoliognpmkmaaDoorClsK
import Derived.Test.YtpnoliognpmkmaaDoorClsD
namespace Go.Proofs.YtpnoliognpmkmaaDoor
open Go.RowKit P Cls Go.Proofs.YtpnoliognpmkmaaDoorW.PrintWords
set_option linter.unusedVariables false
theorem mn_range (n : Nat) (m : Int) (h : 0 ≤ m) : 0 ≤ mn (n : Int) m ∧ mn (n : Int) m ≤ n ∧ mn (n : Int) m ≤ m := by
  unfold mn
  split <;> omega
theorem orders_l1 (us : List ByteArray) (hu : ∀ u ∈ us, u.size ≤ 1000) (hl : us.length ≤ 100) (x : ByteArray) (hx : x.size ≤ 1000) (x33 : Int) (v : Option Bool) (K : Nat)
    (hn : ∀ k, K ≤ k → priceofficelaw06_ClassificationOrders.l0 k us us us.length (wrap64 (x33 + 1)) = v) : ∀ (c k i : Nat), i + c = us.length → c + 2200 + K ≤ k →
    priceofficelaw06_ClassificationOrders.l1 k us x us us.length x33 us us.length i = v := by
  intro c
  induction c with
  | zero =>
    intro k i h hk
    obtain ⟨k, rfl⟩ : ∃ q, k = q + 1 := ⟨k - 1, by omega⟩
    simp only [priceofficelaw06_ClassificationOrders.l1]
    rw [if_neg (by omega)]
    exact hn k (by omega)
  | succ c ih =>
    intro k i h hk
    obtain ⟨k, rfl⟩ : ∃ q, k = q + 1 := ⟨k - 1, by omega⟩
    simp only [priceofficelaw06_ClassificationOrders.l1]
    have hi : i < us.length := by omega
    have hz := hu _ (List.getElem_mem hi)
    rw [if_pos (by omega), if_pos (by omega), if_pos (by omega), rdOf_get _ hi, compare_eq k _ _ hx hz (by omega), rcompare_eq k _ _ hx hz (by omega), within_eq k _ _ hx hz (by omega), rwithin_eq k _ _ hx hz (by omega), common_eq k _ _ hx hz (by omega), rcommon_eq k _ _ hx hz (by omega)]
    simp only [Option.bind_some]
    rw [if_pos trivial, if_neg (by simp), if_pos trivial, w64 (x := (i : Int) + 1) (by omega) (by omega), show (i : Int) + 1 = ((i + 1 : Nat) : Int) by omega]
    exact ih k (i + 1) (by omega) (by omega)
theorem orders_l0 (us : List ByteArray) (hu : ∀ u ∈ us, u.size ≤ 1000) (hl : us.length ≤ 100) : ∀ (c k i : Nat), i + c = us.length → 2400 * c + 3000 ≤ k →
    priceofficelaw06_ClassificationOrders.l0 k us us us.length i = some true := by
  intro c
  induction c with
  | zero =>
    intro k i h hk
    obtain ⟨k, rfl⟩ : ∃ q, k = q + 1 := ⟨k - 1, by omega⟩
    simp only [priceofficelaw06_ClassificationOrders.l0]
    rw [if_neg (by omega), awake_eq k (by omega)]
    rfl
  | succ c ih =>
    intro k i h hk
    obtain ⟨k, rfl⟩ : ∃ q, k = q + 1 := ⟨k - 1, by omega⟩
    simp only [priceofficelaw06_ClassificationOrders.l0]
    have hi : i < us.length := by omega
    have hz := hu _ (List.getElem_mem hi)
    rw [if_pos (by omega), if_pos (by omega), if_pos (by omega), rdOf_get _ hi]
    obtain ⟨K, hK⟩ : ∃ K, K = 2400 * c + 3000 := ⟨_, rfl⟩
    have hkk : us.length + 2200 + K ≤ k := by omega
    refine orders_l1 us hu hl _ hz (i : Int) (some true) K (fun k' hk' => ?_) us.length k 0 (Nat.zero_add _) hkk
    rw [w64 (x := (i : Int) + 1) (by omega) (by omega), show (i : Int) + 1 = ((i + 1 : Nat) : Int) by omega]
    exact ih k' (i + 1) (by omega) (by omega)
theorem pureClassificationOrders (a0 a1 : ByteArray) (l2 : List Int) (w0 : a0.size ≤ 140737488351232) (w1 : a1.size ≤ 140737488351232) (hm2 : l2.length ≤ maxLen) (y2 : l2.length * 8 ≤ 140737488351232) (hw2 : ∀ n ∈ l2, (Lit.int .i64 n).wf = true) : ∃ k, priceofficelaw06_ClassificationOrders.f k a0 a1 l2 = some true := by
  obtain ⟨k, hk⟩ : ∃ k : Nat, 5 * 2400 + 3000 ≤ k := ⟨_, Nat.le_refl _⟩
  refine ⟨k, ?_⟩
  unfold priceofficelaw06_ClassificationOrders.f
  obtain ⟨m0, m1, m2⟩ := mn_range a0.size 20 (by omega)
  obtain ⟨n0, n1, n2⟩ := mn_range a1.size 20 (by omega)
  obtain ⟨s, m, e, hs, g1, g2⟩ := code_ex k l2 0 (by omega) (by omega) (by omega)
  obtain ⟨s2, mm, e2, hs2, _, _⟩ := code_ex k l2 m (by omega) (by omega) (by omega)
  rw [if_pos m0, if_pos m1, if_pos n0, if_pos n1, e]
  simp only [Option.bind_some]
  rw [e2]
  simp only [Option.bind_some]
  refine orders_l0 _ ?_ (by simp) 5 k 0 rfl (by omega)
  intro u hu
  simp only [List.mem_cons, List.not_mem_nil, or_false] at hu
  rcases hu with rfl | rfl | rfl | rfl | rfl
  · rw [ByteArray.size_extract]; omega
  · rw [ByteArray.size_extract]; omega
  · omega
  · omega
  · decide
end Go.Proofs.YtpnoliognpmkmaaDoor
