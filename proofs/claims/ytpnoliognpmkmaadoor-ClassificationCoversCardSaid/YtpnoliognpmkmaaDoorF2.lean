/- The contract of strconv.Atoi, its error thrown away. -/
import Derived.Test.YtpnoliognpmkmaaDoorShelfB
import Derived.Test.YtpnoliognpmkmaaDoorG
import Derived.Lib.AtoiErrMem
namespace Go.Proofs.YtpnoliognpmkmaaDoor
open Go.RowKit
set_option linter.unusedVariables false

/-- the number that strconv.Atoi hands back, beside whatever error -/
def numOf (l : List UInt8) : Int := match Lib.atoiAll l with
  | .ok v => v
  | .range => Lib.atoiSat l
  | _ => 0
def AtoiPost (w : World) (n : Int) (e : Ending) (w' : World) : Prop := ∃ ev : Value, ev.oneCell' = true ∧ e = .returned (.tuple #[.int .i64 n, ev]) ∧ Below w.heap.size w w'
theorem atoi_any (s : ByteArray) (hs : s.size ≤ 281474976710656) (w : World) (hG : GL w) : Calls Tryd.prog 54 #[.string s] w (AtoiPost w (numOf s.data.toList)) := by
  have hn : numOf s.data.toList = match Lib.atoiAll s.data.toList with
    | .ok v => v
    | .range => Lib.atoiSat s.data.toList
    | _ => 0 := rfl
  rcases h : Lib.atoiAll s.data.toList with v | _ | _
  · rw [h] at hn
    rw [hn]
    refine (Any.strconv_Atoi_ok Tryd.laysC172 s (by omega) v h w).mono fun e w' ⟨he, hw⟩ => ⟨_, rfl, he, ?_⟩
    rcases hw with rfl | ⟨t, rfl⟩
    · exact Below.refl _ _
    · exact Lib.bytesWorld_below _ _ _
  · rw [h] at hn
    rw [hn]
    obtain ⟨tp, p, hv⟩ := hG.syn
    exact (Any.strconv_Atoi_syntax_var Tryd.laysC172 s hs h tp p w hv).mono fun e w' ⟨N, he, _, _, hb⟩ => ⟨_, rfl, he, hb⟩
  · rw [h] at hn
    rw [hn]
    obtain ⟨tp, p, hv⟩ := hG.ran
    exact (Any.strconv_Atoi_range_var Tryd.laysC172 s hs h tp p w hv).mono fun e w' ⟨N, he, _, _, hb⟩ => ⟨_, rfl, he, hb⟩
end Go.Proofs.YtpnoliognpmkmaaDoor
