/- The plain law of ClassificationValid. -/
import Derived.Test.YtpnoliognpmkmaaDoorClsH
import Derived.Test.YtpnoliognpmkmaaDoorP19
namespace Go.Proofs.YtpnoliognpmkmaaDoor
open Go.RowKit P Cls Go.Proofs.YtpnoliognpmkmaaDoorW.PrintWords
set_option linter.unusedVariables false
theorem valid_k (k : Nat) (hk : 5000 ≤ k) (nm : ByteArray) (cs : List ByteArray) (l : List Int) : priceofficelaw06_ClassificationValid.f k nm cs l = some true := by
  unfold priceofficelaw06_ClassificationValid.f
  obtain ⟨nm1, cs1, m, e, _, s1, _, _⟩ := spoiled_ex k l 0 hk (by omega) (by omega)
  obtain ⟨cs2, e2, _, s2⟩ := raw_ex k nm cs (by omega)
  rw [e, e2]
  simp only [Option.bind_some]
  have z1 : ∀ s ∈ cs1, s.size ≤ 1000 := fun s hs => by have := s1 s hs; omega
  have z2 : ∀ s ∈ cs2, s.size ≤ 1000 := fun s hs => by have := s2 s hs; omega
  rw [validate_eq k nm cs2 z2 (by omega), rvalidate_eq k nm cs2 z2 (by omega), validate_eq k nm1 cs1 z1 (by omega), rvalidate_eq k nm1 cs1 z1 (by omega), awake_eq k (by omega)]
  simp
theorem pureClassificationValid (nm : ByteArray) (cs : List ByteArray) (l : List Int) (hm1 : l.length ≤ maxLen) (y1 : l.length * 8 ≤ 140737488351232) (hw1 : ∀ n ∈ l, (Lit.int .i64 n).wf = true) : ∃ k, priceofficelaw06_ClassificationValid.f k nm cs l = some true := ⟨5000, valid_k 5000 (Nat.le_refl _) nm cs l⟩
end Go.Proofs.YtpnoliognpmkmaaDoor
