/- The plain law of CalendarDays: what the printed functions compute for any number is true. -/
import Derived.Test.YtpbkdbicdimfhaaDoorCalD
import Derived.Test.YtpbkdbicdimfhaaDoorP17
namespace Go.Proofs.YtpbkdbicdimfhaaDoor
open Go.RowKit P Go.Proofs.YtpbkdbicdimfhaaDoorW.PrintWords
set_option linter.unusedVariables false
theorem days_l (xs : List Int) (hw : WF xs) (hl : xs.length ≤ 100) (c : Nat) : ∀ (k i : Nat), i + c = xs.length → c + 6030 < k →
    priceofficelaw05_CalendarDays.l0 k xs xs.length i = some true := by
  induction c with
  | zero =>
    intro k i h hk
    obtain ⟨k, rfl⟩ : ∃ q, k = q + 1 := ⟨k - 1, by omega⟩
    simp only [priceofficelaw05_CalendarDays.l0]
    rw [if_neg (by omega), awake_eq (by omega)]
    rfl
  | succ c ih =>
    intro k i h hk
    obtain ⟨k, rfl⟩ : ∃ q, k = q + 1 := ⟨k - 1, by omega⟩
    have hi : i < xs.length := by omega
    have hn := ih k (i + 1) (by omega) (by omega)
    simp only [priceofficelaw05_CalendarDays.l0]
    rw [if_pos (by omega), if_pos (by omega), if_pos (by omega), rd_eq hi, w64 (x := (i : Int) + 1) (by omega) (by omega), weekday_eq, rweekday_eq]
    generalize xs[i] = x
    by_cases hx : 0 ≤ x ∧ x ≤ 182620
    · obtain ⟨y, m, d, e1, hv, he⟩ := dateof_in (k := k) hx.1 hx.2 (by omega)
      obtain ⟨y', m', d', e2, hv', he'⟩ := rdateof_in (k := k) hx.1 hx.2 (by omega)
      obtain ⟨rfl, rfl, rfl⟩ := Cal.num_inj hv hv' (he.trans he'.symm)
      obtain ⟨q, e3, q1, q2, q3⟩ := rperiod_in (k := k) hx.1 hx.2 (by omega)
      rw [e1, e2, e3, period_in hx.1 hx.2 (by omega) q q1 q2 q3]
      simp only [Option.bind_some]
      rw [number_eq _ _ _ (by omega), he]
      simp
      exact hn
    · rw [dateof_out hx, rdateof_out (by omega) hx, period_out hx, rperiod_out (by omega) hx]
      simp
      exact hn
theorem pureCalendarDays (a : Int) (wa : (Lit.int .i64 a).wf = true) : ∃ k, P.priceofficelaw05_CalendarDays.f k a = some true := by
  obtain ⟨K, hK⟩ : ∃ K : Nat, 7000 ≤ K := ⟨7000, Nat.le_refl _⟩
  refine ⟨K, ?_⟩
  unfold priceofficelaw05_CalendarDays.f
  obtain ⟨r, e, r0, r1⟩ := fold_ex a 182621 (by omega) (by omega)
  rw [e]
  simp only [Option.bind_some]
  have h := days_l [a, r] (by
    intro x hx
    simp only [List.mem_cons, List.mem_nil_iff, or_false] at hx
    rcases hx with rfl | rfl
    · exact wa
    · exact wf_i (by omega) (by omega)) (by simp) 2 K 0 rfl (by omega)
  rw [show ((0 : Nat) : Int) = 0 from rfl] at h
  exact h
end Go.Proofs.YtpbkdbicdimfhaaDoor
