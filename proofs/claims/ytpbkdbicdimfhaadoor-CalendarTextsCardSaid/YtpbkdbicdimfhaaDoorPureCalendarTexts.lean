/- The plain law of CalendarTexts. -/
import Derived.Test.YtpbkdbicdimfhaaDoorP26
import Derived.Test.YtpbkdbicdimfhaaDoorCalH
import Derived.Test.YtpbkdbicdimfhaaDoorCalD
namespace Go.Proofs.YtpbkdbicdimfhaaDoor
open Go.RowKit P Dt Go.Proofs.YtpbkdbicdimfhaaDoorW.PrintWords
set_option linter.unusedVariables false
theorem fmP_len (p : Int) : (fmP p).length ≤ 7 := by
  unfold fmP
  split
  · exact Nat.le_refl 7
  · exact Nat.zero_le _
theorem fmD_len (y m d : Int) : (fmD y m d).length ≤ 10 := by
  unfold fmD
  split
  · exact Nat.le_refl 10
  · exact Nat.zero_le _
theorem pureCalendarTexts (y m d p : Int) (w0 : (Lit.int .i64 y).wf = true) (w1 : (Lit.int .i64 m).wf = true) (w2 : (Lit.int .i64 d).wf = true) (w3 : (Lit.int .i64 p).wf = true) : ∃ k, P.priceofficelaw05_CalendarTexts.f k y m d p = some true := by
  obtain ⟨K, hK⟩ : ∃ K : Nat, 7000 ≤ K := ⟨7000, Nat.le_refl _⟩
  refine ⟨K, ?_⟩
  unfold priceofficelaw05_CalendarTexts.f
  rw [fmtdate_eq y m d (by omega), fmtperiod_eq p (by omega), rfmtdate_eq y m d (by omega), rfmtperiod_eq p (by omega)]
  simp only [Option.bind_some]
  obtain ⟨K, rfl⟩ : ∃ q, K = q + 1 := ⟨K - 1, by omega⟩
  rw [if_pos trivial, show ((bs (fmP p)).toList != (bs (fmP p)).toList) = false by simp]
  simp only [priceofficelaw05_CalendarTexts.j0]
  rw [if_neg (by simp)]
  obtain ⟨r, e, r0, r1⟩ := fold_ex p 6000 (by omega) (by omega)
  obtain ⟨x, e2, x0, x1⟩ := fold_ex d 182621 (by omega) (by omega)
  rw [e, e2]
  simp only [Option.bind_some]
  rw [fmtperiod_eq r (by omega)]
  simp only [Option.bind_some]
  have hl := fmP_len r
  rw [pperiod_eq _ (by rw [bs_size]; omega) (by omega), bs_data, pp_ok r (by omega) (by omega)]
  simp only [Option.bind_some]
  obtain ⟨y', m', d', e3, hv, _⟩ := rdateof_in (k := K) x0 (show x ≤ 182620 by omega) (by omega)
  rw [e3]
  simp only [Option.bind_some]
  rw [fmtdate_eq y' m' d' (by omega)]
  simp only [Option.bind_some]
  have hl2 := fmD_len y' m' d'
  have e4 : fmD y' m' d' = fmtD y' m' d' := by unfold fmD; rw [if_pos hv]
  rw [parse_eq _ (by rw [bs_size]; omega) (by omega), bs_data, e4, pd_ok hv, awake_eq (by omega)]
  simp
end Go.Proofs.YtpbkdbicdimfhaaDoor
