/- The plain law of CalendarLimits: what the printed functions compute for any two numbers and either way is true. -/
import Derived.Test.YtpbkdbicdimfhaaDoorCalF
import Derived.Test.YtpbkdbicdimfhaaDoorP19
namespace Go.Proofs.YtpbkdbicdimfhaaDoor
open Go.RowKit P Go.Proofs.YtpbkdbicdimfhaaDoorW.PrintWords
set_option linter.unusedVariables false
theorem limits_l (b : Bool) (n s : Int) (hs0 : 0 ≤ s) (hs1 : s ≤ 2000) (m : Nat) (hm : m ≤ 1000) (c : Nat) : ∀ (k i : Nat) (l : List Int), i + c = m → c + 400000 < k → l.length = m → WF l →
    priceofficelaw05_CalendarLimits.l0 k b n s l m i = some true := by
  induction c with
  | zero =>
    intro k i l h hk hl hw
    obtain ⟨k, rfl⟩ : ∃ q, k = q + 1 := ⟨k - 1, by omega⟩
    simp only [priceofficelaw05_CalendarLimits.l0]
    rw [if_neg (by omega), w64 (x := -s) (by omega) (by omega), shiftf_eq _ _ hw, shiftf_eq _ _ hw, rshift_eq _ _ (by omega) (by omega), rshift_eq _ _ (by omega) (by omega), awake_eq (by omega)]
    cases b <;> simp
  | succ c ih =>
    intro k i l h hk hl hw
    obtain ⟨k, rfl⟩ : ∃ q, k = q + 1 := ⟨k - 1, by omega⟩
    simp only [priceofficelaw05_CalendarLimits.l0]
    rw [if_pos (by omega), if_pos (by omega), if_pos (by omega), w64 (x := (i : Int) + 1) (by omega) (by omega)]
    refine ih k (i + 1) _ (by omega) (by omega) (by rw [List.length_set]; exact hl) ?_
    intro x hx
    rcases List.mem_or_eq_of_mem_set hx with h1 | h1
    · exact hw x h1
    · subst h1; exact wf_w _
theorem pureCalendarLimits (a b : Int) (c : Bool) (wa : (Lit.int .i64 a).wf = true) (wb : (Lit.int .i64 b).wf = true) : ∃ k, P.priceofficelaw05_CalendarLimits.f k a b c = some true := by
  obtain ⟨K, hK⟩ : ∃ K : Nat, 500000 ≤ K := ⟨500000, Nat.le_refl _⟩
  refine ⟨K, ?_⟩
  unfold priceofficelaw05_CalendarLimits.f
  obtain ⟨r, e, r0, r1⟩ := fold_ex a 100000 (by omega) (by omega)
  obtain ⟨s, es, s0, s1⟩ := fold_ex b 3 (by omega) (by omega)
  obtain ⟨t, et, t0, t1⟩ := fold_ex (wrap64 (Int.tdiv b 3)) 3 (by omega) (by omega)
  rw [e, es, et]
  simp only [Option.bind_some]
  rw [w64 (x := 399 + t) (by omega) (by omega), w64 (x := 999 + s) (by omega) (by omega), if_pos (by omega), if_pos (by omega)]
  have h := limits_l c (wrap64 (10000 + r)) (999 + s) (by omega) (by omega) (399 + t).toNat (by omega) (399 + t).toNat K 0 (List.replicate (399 + t).toNat 0) (by omega) (by omega) (by simp) (by
    intro x hx
    rw [List.eq_of_mem_replicate hx]
    exact wf_i (by omega) (by omega))
  rw [List.length_replicate]
  exact h
end Go.Proofs.YtpbkdbicdimfhaaDoor
