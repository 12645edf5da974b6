/- The plain law of CalendarWeeks: what the printed functions compute for any two numbers is true. -/
import Derived.Test.YtpbkdbicdimfhaaDoorCalD
import Derived.Test.YtpbkdbicdimfhaaDoorP21
namespace Go.Proofs.YtpbkdbicdimfhaaDoor
open Go.RowKit P Go.Proofs.YtpbkdbicdimfhaaDoorW.PrintWords
set_option linter.unusedVariables false
theorem pureCalendarWeeks (a b : Int) (wa : (Lit.int .i64 a).wf = true) (wb : (Lit.int .i64 b).wf = true) : ∃ k, P.priceofficelaw05_CalendarWeeks.f k a b = some true := by
  obtain ⟨K, hK⟩ : ∃ K : Nat, 7000 ≤ K := ⟨7000, Nat.le_refl _⟩
  refine ⟨K, ?_⟩
  obtain ⟨K, rfl⟩ : ∃ q, K = q + 1 := ⟨K - 1, by omega⟩
  unfold priceofficelaw05_CalendarWeeks.f
  obtain ⟨n, e, n0, n1⟩ := fold_ex a 5999 (by omega) (by omega)
  rw [e]
  simp only [Option.bind_some]
  rw [first_eq n (by omega) (by omega) (by omega), last_eq n (by omega) (by omega) (by omega)]
  simp only [Option.bind_some]
  rw [w64 (x := n + 1) (by omega) (by omega), first_eq (n + 1) (by omega) (by omega) (by omega)]
  have hf := Cal.fd_bd n.toNat (by omega)
  have hg := Cal.fd_bd (n.toNat + 1) (by omega)
  have hl := Cal.ln_bd (1900 + n / 12) (n % 12 + 1)
  have hn := fd_next n0
  have e1 : firstDay n = Cal.fd n.toNat := firstDay_in n0 (by omega)
  have e2 : lastDay n = Cal.fd (n.toNat + 1) - 1 := by unfold lastDay; rw [if_pos ⟨n0, by omega⟩]
  have e3 : firstDay (n + 1) = Cal.fd (n.toNat + 1) := by rw [firstDay_in (by omega) (by omega), show (n + 1).toNat = n.toNat + 1 by omega]
  rw [e1, e2, e3, w64 (x := _ + 27) (by omega) (by omega), w64 (x := _ + 30) (by omega) (by omega), if_neg (by omega), if_neg (by omega)]
  simp only [Option.bind_some]
  rw [w64 (x := Cal.fd (n.toNat + 1) - 1 + 1) (by omega) (by omega)]
  have e4 : (Cal.fd (n.toNat + 1) != Cal.fd (n.toNat + 1) - 1 + 1) = false := by rw [bne_eq_false_iff_eq]; omega
  rw [e4]
  simp only [priceofficelaw05_CalendarWeeks.j0]
  rw [if_neg (by simp), w64 (x := Cal.fd (n.toNat + 1) - 1 - Cal.fd n.toNat) (by omega) (by omega), w64 (x := Cal.fd (n.toNat + 1) - 1 - Cal.fd n.toNat + 1) (by omega) (by omega)]
  obtain ⟨r, er, r0, r1⟩ := fold_ex b (Cal.fd (n.toNat + 1) - 1 - Cal.fd n.toNat + 1) (by omega) (by omega)
  rw [er, dec_eq]
  simp only [Option.bind_some]
  rw [w64 (x := Cal.fd n.toNat + r) (by omega) (by omega), period_in (by omega) (by omega) (by omega) n.toNat (by omega) (by omega) (by omega), awake_eq (by omega)]
  simp only [Option.bind_some]
  by_cases h12 : n < 12
  · have hd : dec n = -1 := by unfold dec; rw [if_neg (by omega)]
    rw [if_pos h12, hd, if_pos rfl, if_pos (by omega)]
  · have hd : dec n = n / 12 * 12 - 1 := by unfold dec; rw [if_pos (by omega)]
    have hm : mon (n / 12 * 12 - 1) = 12 := by unfold mon; rw [if_pos (by omega)]; omega
    rw [if_neg h12, if_pos (by omega), hd, month_eq _ (by omega), hm]
    simp only [Option.bind_some]
    simp only [if_true]
    rw [w64 (x := n - (n / 12 * 12 - 1)) (by omega) (by omega), if_pos (by omega), if_pos (by omega), if_pos (by omega)]
end Go.Proofs.YtpbkdbicdimfhaaDoor
