/- The plain law of CalendarMonths: what the printed functions compute for any number is true. -/
import Derived.Test.YtpbkdbicdimfhaaDoorCalC
import Derived.Test.YtpbkdbicdimfhaaDoorP14
namespace Go.Proofs.YtpbkdbicdimfhaaDoor
open Go.RowKit P Go.Proofs.YtpbkdbicdimfhaaDoorW.PrintWords
set_option linter.unusedVariables false
theorem months_l (xs : List Int) (hw : WF xs) (hl : xs.length ≤ 100) (c : Nat) : ∀ (k i : Nat), i + c = xs.length → c + 6020 < k →
    priceofficelaw05_CalendarMonths.l0 k xs xs.length i = some true := by
  induction c with
  | zero =>
    intro k i h hk
    obtain ⟨k, rfl⟩ : ∃ q, k = q + 1 := ⟨k - 1, by omega⟩
    simp only [priceofficelaw05_CalendarMonths.l0]
    rw [if_neg (by omega), awake_eq (by omega)]
    rfl
  | succ c ih =>
    intro k i h hk
    obtain ⟨k, rfl⟩ : ∃ q, k = q + 1 := ⟨k - 1, by omega⟩
    have hi : i < xs.length := by omega
    obtain ⟨b0, b1⟩ := bounds_i64 (hw _ (List.getElem_mem hi))
    simp only [priceofficelaw05_CalendarMonths.l0]
    rw [if_pos (by omega), if_pos (by omega), if_pos (by omega), rd_eq hi, month_eq _ b1, rmonth_eq, first_eq _ b0 b1 (by omega), rfirst_eq _ (by omega), last_eq _ b0 b1 (by omega), rlast_eq _ (by omega), dec_eq, rdec_eq, w64 (x := (i : Int) + 1) (by omega) (by omega)]
    simp only [Option.bind_some, if_true]
    exact ih k (i + 1) (by omega) (by omega)
theorem pureCalendarMonths (a : Int) (wa : (Lit.int .i64 a).wf = true) : ∃ k, P.priceofficelaw05_CalendarMonths.f k a = some true := by
  obtain ⟨K, hK⟩ : ∃ K : Nat, 7000 ≤ K := ⟨7000, Nat.le_refl _⟩
  refine ⟨K, ?_⟩
  unfold priceofficelaw05_CalendarMonths.f
  obtain ⟨r, e, r0, r1⟩ := fold_ex a 6000 (by omega) (by omega)
  rw [e]
  simp only [Option.bind_some]
  have h := months_l [a, r] (by
    intro x hx
    simp only [List.mem_cons, List.mem_nil_iff, or_false] at hx
    rcases hx with rfl | rfl
    · exact wa
    · exact wf_i (by omega) (by omega)) (by simp) 2 K 0 rfl (by omega)
  rw [show ((0 : Nat) : Int) = 0 from rfl] at h
  exact h
end Go.Proofs.YtpbkdbicdimfhaaDoor
