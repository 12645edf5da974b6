/- The made classifications: that they are made, how many codes they have and how long these are. -/
import Derived.Test.YtpnoliognpmkmaaDoorP16
import Derived.Test.YtpnoliognpmkmaaDoorP13
import Derived.Test.YtpnoliognpmkmaaDoorClsD
import Derived.Test.YtpnoliognpmkmaaDoorClsG
namespace Go.Proofs.YtpnoliognpmkmaaDoor
open Go.RowKit P Cls Go.Proofs.YtpnoliognpmkmaaDoorW.PrintWords
set_option linter.unusedVariables false

def Short (n : Nat) (l : List ByteArray) : Prop := ∀ s ∈ l, s.size ≤ n
theorem Short.app {n : Nat} {a b : List ByteArray} (h : Short n a) (g : Short n b) : Short n (a ++ b) := by
  intro s hs
  rcases List.mem_append.1 hs with h1 | h1
  · exact h s h1
  · exact g s h1
theorem Short.one {n : Nat} {s : ByteArray} (h : s.size ≤ n) : Short n [s] := by
  intro x hx
  simp only [List.mem_cons, List.not_mem_nil, or_false] at hx
  subst hx
  exact h
theorem mn_range (n : Nat) (m : Int) (h : 0 ≤ m) : 0 ≤ mn (n : Int) m ∧ mn (n : Int) m ≤ n ∧ mn (n : Int) m ≤ m := by
  unfold mn
  split <;> omega
theorem raw_l0 (x15 : List ByteArray) (nm : ByteArray) (hl : x15.length ≤ 30) : ∀ (c k i : Nat) (out : List ByteArray), i + c = x15.length → c < k → out.length ≤ i → Short 20 out →
    ∃ cs, priceofficelaw06_raw.l0 k x15 x15.length i nm out = some (nm, cs) ∧ cs.length = out.length + c ∧ Short 20 cs := by
  intro c
  induction c with
  | zero =>
    intro k i out h hk ho hs
    obtain ⟨k, rfl⟩ : ∃ q, k = q + 1 := ⟨k - 1, by omega⟩
    simp only [priceofficelaw06_raw.l0]
    rw [if_neg (by omega)]
    exact ⟨out, rfl, rfl, hs⟩
  | succ c ih =>
    intro k i out h hk ho hs
    obtain ⟨k, rfl⟩ : ∃ q, k = q + 1 := ⟨k - 1, by omega⟩
    simp only [priceofficelaw06_raw.l0]
    have hi : i < x15.length := by omega
    obtain ⟨m0, m1, m2⟩ := mn_range (rdOf ByteArray.empty x15 (i : Int)).size 20 (by omega)
    rw [if_pos (by omega), if_pos (by omega), if_pos (by omega), if_pos m0, if_pos m1, if_pos (by omega), w64 (x := (i : Int) + 1) (by omega) (by omega), show (i : Int) + 1 = ((i + 1 : Nat) : Int) by omega]
    obtain ⟨cs, h1, h2, h3⟩ := ih k (i + 1) (out ++ [(rdOf ByteArray.empty x15 (i : Int)).extract 0 ((mn ((rdOf ByteArray.empty x15 (i : Int)).size : Int) 20) : Int).toNat]) (by omega) (by omega) (by simp; omega) (hs.app (Short.one (by rw [ByteArray.size_extract]; omega)))
    exact ⟨cs, h1, by rw [h2]; simp; omega, h3⟩
theorem raw_ex (k : Nat) (nm : ByteArray) (l : List ByteArray) (hk : 100 ≤ k) : ∃ cs, priceofficelaw06_raw.f k nm l = some (nm, cs) ∧ cs.length ≤ 30 ∧ Short 20 cs := by
  unfold priceofficelaw06_raw.f
  obtain ⟨m0, m1, m2⟩ := mn_range l.length 30 (by omega)
  rw [if_pos m0, if_pos m1]
  have hlen : (l.take ((mn (l.length : Int) 30) : Int).toNat).length ≤ 30 := by rw [List.length_take]; omega
  obtain ⟨cs, h1, h2, h3⟩ := raw_l0 (l.take ((mn (l.length : Int) 30) : Int).toNat) nm hlen _ k 0 [] (Nat.zero_add _) (by omega) (by simp) (by intro s hs; cases hs)
  exact ⟨cs, h1, by rw [h2]; simp only [List.length_nil]; omega, h3⟩
/-! Tree -/
theorem fmt1 (k : Nat) (hk : 110 ≤ k) (q : List Int) : ∃ s e, priceofficeref06_Format.f k q = some (s, e) ∧ s.size ≤ 15 := ⟨_, _, rformat_eq k hk q, fm_size q⟩
theorem tree_l1 (l : List Int) (nm x5 : ByteArray) (hx5 : x5.size ≤ 15) (x19 x20 x65 : Int) (h65 : x65 ≤ 2) : ∀ (c k : Nat) (i a : Int) (cs : List ByteArray), i + c = x65 → 0 ≤ i → c + 4000 ≤ k → 0 ≤ a → a + 2 * c ≤ 600 → cs.length + 2 * c ≤ 600 → Short 15 cs →
    ∃ (k' : Nat) (a' : Int) (cs' : List ByteArray), k ≤ k' + c + 1 ∧ a ≤ a' ∧ a' ≤ a + 2 * c ∧ cs.length ≤ cs'.length ∧ cs'.length ≤ cs.length + 2 * c ∧ Short 15 cs' ∧
      priceofficemake_Tape_Tree.l1 k x5 x19 x20 x65 i l a nm cs = priceofficemake_Tape_Tree.l0 k' x19 (wrap64 (x20 + 1)) l a' nm cs' := by
  intro c
  induction c with
  | zero =>
    intro k i a cs h h0 hk ha ha1 hl hs
    obtain ⟨k, rfl⟩ : ∃ q, k = q + 1 := ⟨k - 1, by omega⟩
    refine ⟨k, a, cs, by omega, by omega, by omega, by omega, by omega, hs, ?_⟩
    rw [priceofficemake_Tape_Tree.l1, if_neg (by omega)]
  | succ c ih =>
    intro k i a cs h h0 hk ha ha1 hl hs
    obtain ⟨k, rfl⟩ : ∃ q, k = q + 1 := ⟨k - 1, by omega⟩
    rw [priceofficemake_Tape_Tree.l1, if_pos (by omega), rparse_eq k x5 (by omega) (by omega)]
    simp only [Option.bind_some]
    have hp := pr_len x5.data.toList
    rw [if_pos (by omega)]
    obtain ⟨s, e, he, hse⟩ := fmt1 k (by omega) ((pr x5.data.toList).1 ++ [wrap64 (1 + (wrap64 (i * 9)))])
    rw [he]
    simp only [Option.bind_some]
    rw [if_pos (by omega)]
    obtain ⟨r, e1, r0, r1⟩ := next_ex l a 3 ha (by omega) (by omega) (by omega)
    rw [e1]
    simp only [Option.bind_some]
    have hs1 : Short 15 (cs ++ [s]) := hs.app (Short.one hse)
    by_cases hr : r = 0
    · rw [if_pos hr, rparse_eq k s (by omega) (by omega)]
      simp only [Option.bind_some]
      obtain ⟨r2, e2, _, _⟩ := next_ex l (a + 1) 99 (by omega) (by omega) (by omega) (by omega)
      rw [e2]
      simp only [Option.bind_some]
      have hp2 := pr_len s.data.toList
      rw [if_pos (by omega)]
      obtain ⟨s2, e3, he3, hse3⟩ := fmt1 k (by omega) ((pr s.data.toList).1 ++ [wrap64 (1 + r2)])
      rw [he3]
      simp only [Option.bind_some]
      rw [if_pos (by simp; omega), w64 (x := i + 1) (by omega) (by omega)]
      obtain ⟨k', a', cs', g1, g2, g3, g4, g5, g6, g7⟩ := ih k (i + 1) (a + 1 + 1) (cs ++ [s] ++ [s2]) (by omega) (by omega) (by omega) (by omega) (by omega) (by simp; omega) (hs1.app (Short.one hse3))
      simp only [List.length_append, List.length_cons, List.length_nil] at g4 g5
      exact ⟨k', a', cs', by omega, by omega, by omega, by omega, by omega, g6, g7⟩
    · rw [if_neg hr, w64 (x := i + 1) (by omega) (by omega)]
      obtain ⟨k', a', cs', g1, g2, g3, g4, g5, g6, g7⟩ := ih k (i + 1) (a + 1) (cs ++ [s]) (by omega) (by omega) (by omega) (by omega) (by omega) (by simp; omega) hs1
      simp only [List.length_append, List.length_cons, List.length_nil] at g4 g5
      exact ⟨k', a', cs', by omega, by omega, by omega, by omega, by omega, g6, g7⟩
theorem tree_l0 (l : List Int) (nm : ByteArray) (x19 : Int) (h19 : x19 ≤ 2) : ∀ (c k : Nat) (i a : Int) (cs : List ByteArray), i + c = x19 → 0 ≤ i → 10 * c + 4000 ≤ k → 0 ≤ a → a + 10 * c ≤ 600 → cs.length + 10 * c ≤ 600 → Short 15 cs →
    ∃ (a' : Int) (cs' : List ByteArray), a ≤ a' ∧ a' ≤ a + 10 * c ∧ cs.length + c ≤ cs'.length ∧ cs'.length ≤ cs.length + 10 * c ∧ Short 15 cs' ∧
      priceofficemake_Tape_Tree.l0 k x19 i l a nm cs = some (nm, cs', a') := by
  intro c
  induction c with
  | zero =>
    intro k i a cs h h0 hk ha ha1 hl hs
    obtain ⟨k, rfl⟩ : ∃ q, k = q + 1 := ⟨k - 1, by omega⟩
    refine ⟨a, cs, by omega, by omega, by omega, by omega, hs, ?_⟩
    rw [priceofficemake_Tape_Tree.l0, if_neg (by omega)]
  | succ c ih =>
    intro k i a cs h h0 hk ha ha1 hl hs
    obtain ⟨k, rfl⟩ : ∃ q, k = q + 3 := ⟨k - 3, by omega⟩
    rw [priceofficemake_Tape_Tree.l0, if_pos (by omega)]
    obtain ⟨r, e1, r0, r1⟩ := next_ex l a 2 ha (by omega) (by omega) (by omega)
    rw [e1]
    simp only [Option.bind_some]
    obtain ⟨s, e, he, hse⟩ := fmt1 (k + 2) (by omega) [wrap64 ((wrap64 (1 + i)) + (wrap64 (r * 10)))]
    rw [he]
    simp only [Option.bind_some]
    have hj2 : ∀ (k0 : Nat) (x : ByteArray), k ≤ k0 → k0 ≤ k + 2 → x.size ≤ 15 → ∃ (a' : Int) (cs' : List ByteArray), a ≤ a' ∧ a' ≤ a + 10 * ((c + 1 : Nat) : Int) ∧ cs.length + (c + 1) ≤ cs'.length ∧ cs'.length ≤ cs.length + 10 * (c + 1) ∧ Short 15 cs' ∧
        priceofficemake_Tape_Tree.j2 (k0 + 1) x x19 i l (a + 1) nm cs = some (nm, cs', a') := by
      intro k0 x hk0 hk1 hx
      rw [priceofficemake_Tape_Tree.j2, if_pos (by omega)]
      obtain ⟨r2, e2, q0, q1⟩ := next_ex l (a + 1) 3 (by omega) (by omega) (by omega) (by omega)
      rw [e2]
      simp only [Option.bind_some]
      obtain ⟨k', a', cs', g1, g2, g3, g4, g5, g6, g7⟩ := tree_l1 l nm x hx x19 i r2 (by omega) r2.toNat k0 0 (a + 1 + 1) (cs ++ [x]) (by omega) (by omega) (by omega) (by omega) (by omega) (by simp; omega) (hs.app (Short.one hx))
      simp only [List.length_append, List.length_cons, List.length_nil] at g4 g5
      rw [g7, w64 (x := i + 1) (by omega) (by omega)]
      obtain ⟨a2, cs2, f1, f2, f3, f4, f5, f6⟩ := ih k' (i + 1) a' cs' (by omega) (by omega) (by omega) (by omega) (by omega) (by omega) g6
      exact ⟨a2, cs2, by omega, by omega, by omega, by omega, f5, f6⟩
    have hj1 : ∀ b : Bool, ∃ (a' : Int) (cs' : List ByteArray), a ≤ a' ∧ a' ≤ a + 10 * ((c + 1 : Nat) : Int) ∧ cs.length + (c + 1) ≤ cs'.length ∧ cs'.length ≤ cs.length + 10 * (c + 1) ∧ Short 15 cs' ∧
        priceofficemake_Tape_Tree.j1 (k + 2) i s x19 i b l (a + 1) nm cs = some (nm, cs', a') := by
      intro b
      rw [priceofficemake_Tape_Tree.j1]
      cases b with
      | true =>
        obtain ⟨s2, e2, he2, hse2⟩ := fmt1 (k + 1) (by omega) [wrap64 (30 + i)]
        rw [if_pos rfl, he2]
        simp only [Option.bind_some]
        exact hj2 k s2 (by omega) (by omega) hse2
      | false =>
        rw [if_neg (by decide)]
        exact hj2 k s (by omega) (by omega) hse
    by_cases hlen : (cs.length : Int) > 0
    · rw [if_pos hlen, w64 (x := (cs.length : Int) - 1) (by omega) (by omega), if_pos (by omega), if_pos (by omega), show (cs.length : Int) - 1 = ((cs.length - 1 : Nat) : Int) by omega, rdOf_get _ (show cs.length - 1 < cs.length by omega)]
      rw [rcompare_eq (k + 2) _ _ (by have := hs _ (List.getElem_mem (show cs.length - 1 < cs.length by omega)); omega) (by omega) (by omega)]
      simp only [Option.bind_some]
      exact hj1 _
    · rw [if_neg hlen]
      exact hj1 _
theorem tree_ex (k : Nat) (l : List Int) (a : Int) (hk : 5000 ≤ k) (h0 : 0 ≤ a) (h1 : a ≤ 100) : ∃ nm cs m, priceofficemake_Tape_Tree.f k l a = some (nm, cs, m) ∧ 1 ≤ cs.length ∧ cs.length ≤ 20 ∧ Short 15 cs ∧ a ≤ m ∧ m ≤ a + 21 := by
  unfold priceofficemake_Tape_Tree.f
  obtain ⟨r, e1, r0, r1⟩ := next_ex l a 2 h0 (by omega) (by omega) (by omega)
  rw [e1]
  simp only [Option.bind_some]
  rw [w64 (x := 1 + r) (by omega) (by omega)]
  obtain ⟨a2, cs2, f1, f2, f3, f4, f5, f6⟩ := tree_l0 l (⟨#[99]⟩ : ByteArray) (1 + r) (by omega) (1 + r).toNat k 0 (a + 1) [] (by omega) (by omega) (by omega) (by omega) (by omega) (by simp; omega) (by intro s hs; cases hs)
  simp only [List.length_nil] at f3 f4
  exact ⟨_, cs2, a2, f6, by omega, by omega, f5, by omega, by omega⟩
theorem spoiled_ex (k : Nat) (l : List Int) (a : Int) (hk : 5000 ≤ k) (h0 : 0 ≤ a) (h1 : a ≤ 100) : ∃ nm cs m, priceofficelaw06_spoiled.f k l a = some (nm, cs, m) ∧ cs.length ≤ 21 ∧ Short 15 cs ∧ a ≤ m ∧ m ≤ a + 40 := by
  unfold priceofficelaw06_spoiled.f
  obtain ⟨nm, cs, m, e, c0, c1, c2, m0, m1⟩ := tree_ex k l a hk h0 h1
  rw [e]
  simp only [Option.bind_some]
  obtain ⟨i, e1, i0, i1⟩ := next_ex l m cs.length (by omega) (by omega) (by omega) (by omega)
  rw [e1]
  simp only [Option.bind_some]
  obtain ⟨r, e2, r0, r1⟩ := next_ex l (m + 1) 5 (by omega) (by omega) (by omega) (by omega)
  rw [e2]
  simp only [Option.bind_some]
  have sub : ∀ x : List ByteArray, (∀ s ∈ x, s ∈ cs) → Short 15 x := fun x hx s hs => c2 s (hx s hs)
  by_cases h0 : r = 0
  · rw [if_pos h0, if_pos i0, if_pos (by omega), if_pos (by simp; omega)]
    rw [w64 (x := i + 1) (by omega) (by omega), if_pos (by omega), if_pos (by omega), if_pos (by simp; omega)]
    refine ⟨_, _, _, rfl, by simp; omega, ?_, by omega, by omega⟩
    refine Short.app (Short.app (by intro s hs; cases hs) (sub _ fun s hs => List.mem_of_mem_take hs)) (sub _ fun s hs => List.mem_of_mem_drop hs)
  rw [if_neg h0]
  by_cases h1' : r = 1
  · obtain ⟨s, m2, e3, s1, s2, s3⟩ := code_ex k l (m + 1 + 1) (by omega) (by omega) (by omega)
    rw [if_pos h1', e3]
    simp only [Option.bind_some]
    rw [if_pos i0, if_pos (by omega)]
    refine ⟨_, _, _, rfl, by simp; omega, ?_, by omega, by omega⟩
    intro x hx
    rcases List.mem_or_eq_of_mem_set hx with h | h
    · exact c2 x h
    · rw [h]; exact s1
  rw [if_neg h1']
  by_cases h2 : r = 2
  · rw [if_pos h2, if_pos i0, if_pos (by omega), if_pos (by omega)]
    refine ⟨_, _, _, rfl, by simp; omega, c2.app (Short.one ?_), by omega, by omega⟩
    rw [show i = ((i.toNat : Nat) : Int) by omega, rdOf_get _ (show i.toNat < cs.length by omega)]
    exact c2 _ (List.getElem_mem _)
  · rw [if_neg h2]
    exact ⟨_, _, _, rfl, by omega, c2, by omega, by omega⟩
end Go.Proofs.YtpnoliognpmkmaaDoor
