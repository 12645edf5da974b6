/- Lean functions with the same answers as the program's Go functions, and for each the proof that the call comes to these answers; written by a program of mine out of the translation, the functions marked 'by hand' by me. -/
import Derived.Test.YtpbkdbicdimfhaaDoorP0
namespace Go.Proofs.YtpbkdbicdimfhaaDoor.P
open Go.RowKit Go.Proofs.YtpbkdbicdimfhaaDoorW.PrintWords Go.Proofs.YtpbkdbicdimfhaaDoorW.PrintLast Go.Proofs.YtpbkdbicdimfhaaDoorW.PrintMore
attribute [local go_sem] max2_int min2_int max_two min_two max_three min_three max_four min_four   -- for this text's walks alone
set_option linter.unusedVariables false
set_option linter.unusedSimpArgs false

/-! ### calendar_length: function 47 (by hand) -/


def calendar_length.f (a0 a1 : Int) : Option (Int) := if 1900 ≤ a0 ∧ a0 ≤ 2400 ∧ 1 ≤ a1 ∧ a1 ≤ 12 then some (Cal.ln a0 a1) else none
theorem calendar_length.calls (a0 a1 : Int) (r : Int) (w : World) (h : calendar_length.f a0 a1 = some r) :
    Calls Tryd.prog 47 #[.int .i64 a0, .int .i64 a1] w fun e w' => e = .returned (.int .i64 r) ∧ Below w.heap.size w w' := by
  unfold calendar_length.f at h
  split at h
  · rename_i c
    obtain rfl := Option.some.inj h
    exact length_any a0 a1 c.1 c.2.1 c.2.2.1 c.2.2.2 w
  · exact absurd h (by simp)

end Go.Proofs.YtpbkdbicdimfhaaDoor.P
