/- The plain law of CalendarBusiness: what the printed functions compute for any day and lists is true. -/
import Derived.Test.YtpbkdbicdimfhaaDoorCalC
import Derived.Test.YtpbkdbicdimfhaaDoorP12
namespace Go.Proofs.YtpbkdbicdimfhaaDoor
open Go.RowKit P Go.Proofs.YtpbkdbicdimfhaaDoorW.PrintWords
set_option linter.unusedVariables false
theorem pureCalendarBusiness (a : Int) (l1 l2 : List Int) (wa : (Lit.int .i64 a).wf = true) (h1 : l1.length ≤ maxLen) (h2 : l1.length * 8 ≤ 140737488351232) (h3 : ∀ x ∈ l1, (Lit.int .i64 x).wf = true)
    (h4 : l2.length ≤ maxLen) (h5 : l2.length * 8 ≤ 140737488351232) (h6 : ∀ x ∈ l2, (Lit.int .i64 x).wf = true) : ∃ k, P.priceofficelaw05_CalendarBusiness.f k a l1 l2 = some true := by
  obtain ⟨K, hK⟩ : ∃ K : Nat, 7000 ≤ K := ⟨7000, Nat.le_refl _⟩
  refine ⟨K, ?_⟩
  unfold priceofficelaw05_CalendarBusiness.f
  have hm : mn (l1.length : Int) 500 ≤ l1.length ∧ 0 ≤ mn (l1.length : Int) 500 ∧ mn (l1.length : Int) 500 ≤ 500 := by unfold mn; split <;> omega
  obtain ⟨m1, m2, m3⟩ := hm
  rw [if_pos m2, if_pos m1]
  obtain ⟨r, e, r0, r1⟩ := fold_ex a 182621 (by omega) (by omega)
  rw [e]
  simp only [Option.bind_some]
  obtain ⟨h, m, eh, hl, hw⟩ := holidays_ex (k := K) l2 r (by omega)
  rw [eh]
  simp only [Option.bind_some]
  have ht : (l1.take (mn (l1.length : Int) 500).toNat).length ≤ 500 := by rw [List.length_take]; omega
  rw [business_eq _ (by omega) (WF.take h3 _), rbusiness_eq _ (by omega) (by omega), business_eq _ (by omega) hw, rbusiness_eq _ (by omega) (by omega), business_eq _ (by simp) (by intro x hx; cases hx), awake_eq (by omega)]
  have hin : inCal r = true := decide_eq_true ⟨r0, by omega⟩
  rw [tmod_nn _ r0]
  simp [hin, biz]
end Go.Proofs.YtpbkdbicdimfhaaDoor
