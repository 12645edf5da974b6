/- The plain law of CalendarReads. -/
import Derived.Test.YtpbkdbicdimfhaaDoorRD
import Derived.Test.YtpbkdbicdimfhaaDoorCalH
import Derived.Test.YtpbkdbicdimfhaaDoorCalD
namespace Go.Proofs.YtpbkdbicdimfhaaDoor
open Go.RowKit P Dt Go.Proofs.YtpbkdbicdimfhaaDoorW.PrintWords
set_option linter.unusedVariables false
theorem reads_wrap (j : Nat) (h : j < 3) : wrap64 ((j : Int) + 1) = ((j + 1 : Nat) : Int) := by
  unfold wrap64
  omega
theorem reads_l0 (ys : List ByteArray) (hl : ys.length = 3) (hs : ∀ s ∈ ys, s.size ≤ 900) : ∀ (n j k : Nat), n + j = 3 → 200 + n ≤ k → priceofficelaw05_CalendarReads.l0 k ys 3 (j : Int) = some true := by
  intro n
  induction n with
  | zero =>
    intro j k hj hk
    obtain ⟨k, rfl⟩ : ∃ q, k = q + 1 := ⟨k - 1, by omega⟩
    unfold priceofficelaw05_CalendarReads.l0
    rw [if_neg (by omega), awake_eq (by omega)]
    rfl
  | succ n ih =>
    intro j k hj hk
    obtain ⟨k, rfl⟩ : ∃ q, k = q + 1 := ⟨k - 1, by omega⟩
    unfold priceofficelaw05_CalendarReads.l0
    have hjl : j < ys.length := by omega
    have hsz : (rdOf ByteArray.empty ys (j : Int)).size ≤ 900 := by
      have e : rdOf ByteArray.empty ys (j : Int) = ys[j] := by simp [rdOf, hjl]
      rw [e]
      exact hs _ (List.getElem_mem hjl)
    generalize rdOf ByteArray.empty ys (j : Int) = x at hsz
    rw [if_pos (by omega), if_pos (by omega), if_pos (by omega), parse_eq x (by omega) (by omega), rparse_eq x (by omega) (by omega), pperiod_eq x (by omega) (by omega), rpperiod_eq x (by omega) (by omega)]
    simp only [Option.bind_some]
    rw [if_neg (by simp), if_pos trivial, if_pos trivial, if_pos trivial, reads_wrap j (by omega)]
    exact ih (j + 1) k (by omega) (by omega)
theorem fmtD_len (y m d : Int) : (fmtD y m d).length = 10 := rfl
theorem pureCalendarReads (a0 : ByteArray) (a1 a2 a3 : Int) (w0 : a0.size ≤ 140737488351232) (w1 : (Lit.int .i64 a1).wf = true) (w2 : (Lit.int .i64 a2).wf = true) (w3 : (Lit.int .u8 a3).wf = true) : ∃ k, P.priceofficelaw05_CalendarReads.f k a0 a1 a2 a3 = some true := by
  obtain ⟨K, hK⟩ : ∃ K : Nat, 7000 ≤ K := ⟨7000, Nat.le_refl _⟩
  refine ⟨K, ?_⟩
  have h3 : 0 ≤ a3 ∧ a3 ≤ 255 := by
    have m0 : IntKind.u8.min = 0 := rfl
    have m1 : IntKind.u8.max = 255 := rfl
    simp [Lit.wf] at w3
    omega
  unfold priceofficelaw05_CalendarReads.f
  obtain ⟨x, e2, x0, x1⟩ := fold_ex a1 182621 (by omega) (by omega)
  rw [e2]
  simp only [Option.bind_some]
  obtain ⟨y', m', d', e3, hv, _⟩ := rdateof_in (k := K) x0 (show x ≤ 182620 by omega) (by omega)
  rw [e3]
  simp only [Option.bind_some]
  rw [rfmtdate_eq y' m' d' (by omega)]
  simp only [Option.bind_some]
  have e4 : fmD y' m' d' = fmtD y' m' d' := by unfold fmD; rw [if_pos hv]
  have hz : (bs (fmD y' m' d')).size = 10 := by rw [bs_size, e4]; rfl
  generalize bs (fmD y' m' d') = t at hz
  rw [hz]
  obtain ⟨i, e5, i0, i1⟩ := fold_ex a2 10 (by omega) (by omega)
  rw [show ((10 : Nat) : Int) = 10 from rfl, e5]
  simp only [Option.bind_some]
  obtain ⟨q, hq⟩ : ∃ q : Int, mn (a0.size : Int) 20 = q := ⟨_, rfl⟩
  have hq1 : 0 ≤ q ∧ q ≤ 20 ∧ q ≤ (a0.size : Int) := by
    rw [← hq]
    unfold mn
    split <;> omega
  rw [hq, if_pos hq1.1, if_pos hq1.2.2, if_pos ⟨i0, by omega, h3.1, h3.2⟩, if_pos (by omega)]
  refine reads_l0 _ rfl ?_ 3 0 K rfl (by omega)
  intro s hs
  simp only [List.mem_cons, List.not_mem_nil, or_false] at hs
  rcases hs with rfl | rfl | rfl
  · rw [ByteArray.size_extract]; omega
  · rw [rdB_size]; omega
  · rw [ByteArray.size_extract, rdB_size]; omega
end Go.Proofs.YtpbkdbicdimfhaaDoor
