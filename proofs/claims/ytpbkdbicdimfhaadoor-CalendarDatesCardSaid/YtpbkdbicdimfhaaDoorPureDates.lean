/- The plain law of CalendarDates: what the printed functions compute for any date is true. -/
import Derived.Test.YtpbkdbicdimfhaaDoorCalB
namespace Go.Proofs.YtpbkdbicdimfhaaDoor
open P
theorem pureDates (a b c : Int) (_wa : (Lit.int .i64 a).wf = true) (_wb : (Lit.int .i64 b).wf = true) (_wc : (Lit.int .i64 c).wf = true) : ∃ k, P.priceofficelaw05_CalendarDates.f k a b c = some true := by
  refine ⟨7000, ?_⟩
  unfold priceofficelaw05_CalendarDates.f
  rw [valid_eq, rvalid_eq _ _ _ (by omega), number_eq _ _ _ (by omega), rnumber_eq _ _ _ (by omega), awake_eq (by omega)]
  simp
end Go.Proofs.YtpbkdbicdimfhaaDoor
