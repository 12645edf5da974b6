/- The document's Format and the law's own draws, as plain functions. -/
import Derived.Test.YtpnoliognpmkmaaDoorP4
import Derived.Test.YtpnoliognpmkmaaDoorP5
import Derived.Test.YtpnoliognpmkmaaDoorClsB
namespace Go.Proofs.YtpnoliognpmkmaaDoor
open Go.RowKit P Cls Go.Proofs.YtpnoliognpmkmaaDoorW.PrintWords
set_option linter.unusedVariables false

theorem tmod_nn {a : Int} (b : Int) (h : 0 ≤ a) : Int.tmod a b = a % b := Int.tmod_eq_emod_of_nonneg h
theorem tdiv_nn {a : Int} (b : Int) (h : 0 ≤ a) : Int.tdiv a b = a / b := Int.tdiv_eq_ediv_of_nonneg h
theorem son (x : Int) : strOfNums [x] = bs [UInt8.ofNat x.toNat] := rfl
theorem dgt {n : Int} (h0 : 0 ≤ n) (h1 : n ≤ 9) : strOfNums [(wrap64 (48 + n)) % 256] = bs [dg n] := by
  rw [son, w64 (by omega) (by omega), show (48 + n) % 256 = 48 + n by omega]
  unfold dg
  rw [show (48 + n).toNat = 48 + n.toNat by omega]
theorem rfmt_l0 (ps : List Int) (hl : ps.length ≤ 5) : ∀ (c k i : Nat) (acc : List UInt8), i + c = ps.length → 2 * c < k → acc.length ≤ 100 → acc.length + 3 * c ≤ 100 →
    priceofficeref06_Format.l0 k (bs acc) ps ps.length i = some (if ∀ n ∈ ps.drop i, okP n then (bs (acc ++ if i = 0 then fmt (ps.drop i) else fmtTail (ps.drop i)), 0) else (bs [], 64)) := by
  intro c
  induction c with
  | zero =>
    intro k i acc h hk ha hb
    obtain ⟨k, rfl⟩ : ∃ q, k = q + 1 := ⟨k - 1, by omega⟩
    simp only [priceofficeref06_Format.l0]
    rw [if_neg (by omega), List.drop_eq_nil_of_le (by omega)]
    simp [fmt, fmtTail]
  | succ c ih =>
    intro k i acc h hk ha hb
    obtain ⟨k, rfl⟩ : ∃ q, k = q + 2 := ⟨k - 2, by omega⟩
    rw [priceofficeref06_Format.l0]
    have hi : i < ps.length := by omega
    rw [if_pos (by omega), if_pos (by omega), if_pos (by omega), rd_get hi]
    have hdrop := List.drop_eq_getElem_cons hi
    generalize hn : ps[i] = n at *
    by_cases hb1 : n < 1
    · rw [if_pos hb1]
      simp only [priceofficeref06_Format.j2]
      rw [if_neg (show ¬ ∀ n ∈ ps.drop i, okP n from fun h => by have := (h n (by rw [hdrop]; simp)).1; omega)]
      rfl
    rw [if_neg hb1]
    simp only [priceofficeref06_Format.j2]
    by_cases hb2 : n > 99
    · rw [if_pos (by simpa using hb2), if_neg (show ¬ ∀ n ∈ ps.drop i, okP n from fun h => by have := (h n (by rw [hdrop]; simp)).2; omega)]
      rfl
    rw [if_neg (by simpa using hb2)]
    have hok : okP n := ⟨by omega, by omega⟩
    have hiff : (∀ x ∈ ps.drop i, okP x) ↔ (∀ x ∈ ps.drop (i + 1), okP x) := by
      rw [hdrop]
      simp [hok]
    have ed : strOfNums [(wrap64 (48 + (wrap64 (Int.tdiv n 10)))) % 256] = bs [dg (n / 10)] := by
      rw [tdiv_nn _ (by omega), w64 (x := n / 10) (by omega) (by omega)]
      exact dgt (by omega) (by omega)
    have em : strOfNums [(wrap64 (48 + (Int.tmod n 10))) % 256] = bs [dg (n % 10)] := by
      rw [tmod_nn _ (by omega)]
      exact dgt (by omega) (by omega)
    have edot : (⟨#[46]⟩ : ByteArray) = bs [46] := rfl
    have next : ∀ acc' : List UInt8, acc'.length ≤ acc.length + 3 → priceofficeref06_Format.l0 k (bs acc') ps ps.length ((i + 1 : Nat) : Int) = some (if ∀ n ∈ ps.drop (i + 1), okP n then (bs (acc' ++ fmtTail (ps.drop (i + 1))), 0) else (bs [], 64)) := by
      intro acc' h'
      have := ih k (i + 1) acc' (by omega) (by omega) (by omega) (by omega)
      rw [this, if_neg (show ¬ i + 1 = 0 by omega)]
    have ei : wrap64 ((i : Int) + 1) = ((i + 1 : Nat) : Int) := by rw [w64 (by omega) (by omega)]; omega
    simp only [Option.bind_some, ed, em, edot, bs_append, bs_size, ei]
    by_cases hp : (i : Int) > 0
    · rw [if_pos hp, if_pos (by omega)]
      by_cases h9 : n > 9
      · rw [if_pos h9, if_pos (by simp; omega), if_pos (by simp; omega), next _ (by simp)]
        simp only [hiff]
        rw [if_neg (show ¬ i = 0 by omega), hdrop]
        simp [fmtTail, tx1, show ¬ n < 10 by omega, tx2]
      · rw [if_neg h9, if_neg (by omega), if_pos (by simp; omega), next _ (by simp)]
        simp only [hiff]
        rw [if_neg (show ¬ i = 0 by omega), hdrop]
        simp [fmtTail, tx1, show n < 10 by omega, show n % 10 = n by omega]
    · rw [if_neg hp]
      have h0 : i = 0 := by omega
      have fin2 : priceofficeref06_Format.l0 k (bs (acc ++ [dg (n / 10)] ++ [dg (n % 10)])) ps ps.length ((i + 1 : Nat) : Int) = some (if ∀ n ∈ ps.drop i, okP n then (bs (acc ++ if i = 0 then fmt (ps.drop i) else fmtTail (ps.drop i)), 0) else (bs [], 64)) := by
        rw [next _ (by simp)]
        simp only [hiff]
        rw [if_pos h0, hdrop]
        simp [fmt, tx2]
      by_cases h9 : n > 9
      · rw [if_pos h9, if_pos (by simp; omega), if_pos (by simp; omega), fin2]
      · rw [if_neg h9, if_pos (by omega), if_pos (by simp; omega), if_pos (by simp; omega), fin2]
theorem rformat_eq (k : Nat) (hk : 110 ≤ k) (ps : List Int) : priceofficeref06_Format.f k ps = some (fm ps) := by
  obtain ⟨k, rfl⟩ : ∃ q, k = q + 1 := ⟨k - 1, by omega⟩
  unfold priceofficeref06_Format.f fm
  by_cases h1 : (ps.length : Int) < 1
  · rw [if_pos h1, if_neg (fun h => by have := h.1; omega)]
    rfl
  rw [if_neg h1]
  simp only [priceofficeref06_Format.j0]
  by_cases h5 : (ps.length : Int) > 5
  · rw [if_pos (by simpa using h5), if_neg (fun h => by have := h.2.1; omega)]
    rfl
  rw [if_neg (by simpa using h5)]
  have := rfmt_l0 ps (by omega) ps.length k 0 [] (by omega) (by omega) (by simp) (by simp; omega)
  rw [show (⟨#[]⟩ : ByteArray) = bs [] from rfl, show (0 : Int) = ((0 : Nat) : Int) from rfl, this]
  simp only [List.drop_zero, if_true, List.nil_append]
  by_cases hg : ∀ n ∈ ps, okP n
  · rw [if_pos hg, if_pos ⟨by omega, by omega, hg⟩]
    rfl
  · rw [if_neg hg, if_neg (fun h => hg h.2.2)]

/-! The tape -/
theorem mx_ge {a b : Int} (h : b ≤ a) : mx a b = a := by unfold mx; split <;> omega
theorem next_ex (l : List Int) (i n : Int) (h0 : 0 ≤ i) (hi : i ≤ 4611686018427387904) (h1 : 1 ≤ n) (h2 : n ≤ 4611686018427387904) : ∃ r, priceofficemake_Tape_Next.f l i n = some (r, i + 1) ∧ 0 ≤ r ∧ r < n := by
  unfold priceofficemake_Tape_Next.f
  rw [mx_ge h1, IntKind.wrap_u64, IntKind.wrap_u64, Int.emod_eq_of_lt (a := n) (by omega) (by omega), w64 (x := i + 1) (by omega) (by omega)]
  by_cases hl : i < l.length
  · rw [if_pos hl, if_pos h0, if_neg (by omega), tmod_nn _ (by omega)]
    have a := Int.emod_nonneg (rd l i % 18446744073709551616) (show n ≠ 0 by omega)
    have b := Int.emod_lt_of_pos (rd l i % 18446744073709551616) (show 0 < n by omega)
    exact ⟨_, by rw [w64 (by omega) (by omega)], a, b⟩
  · rw [if_neg hl, if_neg (by omega)]
    exact ⟨0, rfl, by omega, by omega⟩
theorem fm_size (ps : List Int) : (fm ps).1.size ≤ 15 := by
  unfold fm
  split
  · rename_i h
    rw [bs_size]
    have := fmt_len ps
    have := h.2.1
    omega
  · rw [bs_size]; simp
theorem code_l0 (l : List Int) : ∀ (c k : Nat) (acc : List Int) (n i at_ : Int), i + c = n → 0 ≤ i → n ≤ 4 → c + 200 ≤ k → acc.length = i.toNat → 0 ≤ at_ → at_ + c ≤ 1000000 →
    ∃ s, priceofficelaw06_code.l0 k acc n i l at_ = some (s, at_ + c) ∧ s.size ≤ 15 := by
  intro c
  induction c with
  | zero =>
    intro k acc n i at_ h h0 hn hk ha ha0 ha1
    obtain ⟨k, rfl⟩ : ∃ q, k = q + 1 := ⟨k - 1, by omega⟩
    simp only [priceofficelaw06_code.l0]
    rw [if_neg (by omega), rformat_eq k (by omega)]
    exact ⟨_, by simp only [Option.bind_some]; rw [show at_ + ((0 : Nat) : Int) = at_ by omega], fm_size acc⟩
  | succ c ih =>
    intro k acc n i at_ h h0 hn hk ha ha0 ha1
    obtain ⟨k, rfl⟩ : ∃ q, k = q + 1 := ⟨k - 1, by omega⟩
    simp only [priceofficelaw06_code.l0, Option.bind_some]
    rw [if_pos (by omega)]
    obtain ⟨r, e, r0, r1⟩ := next_ex l at_ 4 ha0 (by omega) (by omega) (by omega)
    rw [e]
    simp only [Option.bind_some]
    rw [if_pos r0, if_pos (by simp; omega), if_pos (by omega), w64 (x := i + 1) (by omega) (by omega)]
    obtain ⟨s, e2, hs⟩ := ih k (acc ++ [rd [1, 2, 10, 99] r]) n (i + 1) (at_ + 1) (by omega) (by omega) hn (by omega) (by rw [List.length_append, ha]; simp only [List.length_cons, List.length_nil]; omega) (by omega) (by omega)
    exact ⟨s, by rw [e2, show at_ + 1 + (c : Int) = at_ + ((c + 1 : Nat) : Int) by omega], hs⟩
theorem code_ex (k : Nat) (l : List Int) (at_ : Int) (hk : 300 ≤ k) (h0 : 0 ≤ at_) (h1 : at_ ≤ 1000) : ∃ s m, priceofficelaw06_code.f k l at_ = some (s, m) ∧ s.size ≤ 15 ∧ at_ ≤ m ∧ m ≤ at_ + 6 := by
  unfold priceofficelaw06_code.f
  obtain ⟨r, e, r0, r1⟩ := next_ex l at_ 8 h0 (by omega) (by omega) (by omega)
  rw [e]
  simp only [Option.bind_some]
  by_cases hr : r = 0
  · rw [if_pos hr]
    obtain ⟨q, e2, q0, q1⟩ := next_ex l (at_ + 1) 12 (by omega) (by omega) (by omega) (by omega)
    rw [e2]
    simp only [Option.bind_some]
    rw [if_pos q0, if_pos (by simp; omega)]
    refine ⟨_, _, rfl, ?_, by omega, by omega⟩
    have : q = 0 ∨ q = 1 ∨ q = 2 ∨ q = 3 ∨ q = 4 ∨ q = 5 ∨ q = 6 ∨ q = 7 ∨ q = 8 ∨ q = 9 ∨ q = 10 ∨ q = 11 := by omega
    rcases this with h | h | h | h | h | h | h | h | h | h | h | h <;> subst h <;> decide
  · rw [if_neg hr]
    obtain ⟨q, e2, q0, q1⟩ := next_ex l (at_ + 1) 4 (by omega) (by omega) (by omega) (by omega)
    rw [e2]
    simp only [Option.bind_some]
    rw [w64 (x := 1 + q) (by omega) (by omega)]
    obtain ⟨s, e3, hs⟩ := code_l0 l (1 + q).toNat k [] (1 + q) 0 (at_ + 1 + 1) (by omega) (by omega) (by omega) (by omega) rfl (by omega) (by omega)
    rw [e3]
    exact ⟨s, _, rfl, hs, by omega, by omega⟩
end Go.Proofs.YtpnoliognpmkmaaDoor
