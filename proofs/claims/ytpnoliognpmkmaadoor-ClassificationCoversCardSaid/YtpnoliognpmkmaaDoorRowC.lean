/- A list of strings that comes in: as the printed texts ask for it. -/
import Derived.SliceStrings
import Derived.Test.YtpnoliognpmkmaaDoorVMore
import Derived.Test.YtpnoliognpmkmaaDoorProg
namespace Go.Proofs.YtpnoliognpmkmaaDoor
open Go.ChangeShapes Go.WideShapes Go.RowKit Go.Proofs.YtpnoliognpmkmaaDoorW.PrintWords
set_option linter.unusedVariables false
theorem rows_strs {H : Type} {enc : TypeId × Value → H} {P : Program} {w : World} {base : Nat} {spare : Nat → Bool} {held : Bool} {t e : TypeId} {fuel : Nat} {cs : List Value} {x : DataW H × List MemPlace} (ht : P.underlying t = some (.slice e)) (he : P.underlying e = some .string) (hc : P.cellsOf e = 1)
    (h : DataW.trod enc P w base spare held fuel t cs = some x) :
    ∃ (A : Option Addr) (len cap : Nat) (l : List ByteArray), cs = [.slice A len cap] ∧ len = l.length ∧ Kd.C Kd.string w A l.length l ∧ l.length ≤ cap := by
  rcases open_strings ht he hc h with ⟨rfl, _⟩ | ⟨a, len, cap, ss, rfl, _, hl, hm, hs, _, hcell, _⟩
  · exact ⟨none, 0, 0, [], rfl, rfl, Kd.C_of_reads (d := ByteArray.empty) (h1 := fun _ => rfl) ⟨rfl, by simp, fun h => by cases h⟩, Nat.le_refl _⟩
  · have hlen : len ≤ ss.length := by rw [hs]; split <;> omega
    refine ⟨some a, len, cap, ss.take len, rfl, by rw [List.length_take]; omega, Kd.C_of_reads (d := ByteArray.empty) (h1 := fun _ => rfl) ⟨rfl, by rw [List.length_take]; unfold maxLen at hm; omega, fun h0 => ⟨a, rfl, fun j hj => ?_⟩⟩, by rw [List.length_take]; omega⟩
    rw [List.length_take] at hj
    rw [hcell j (by omega)]
    congr 2
    simp [List.getD_eq_getElem?_getD, show j < len by omega]
end Go.Proofs.YtpnoliognpmkmaaDoor
