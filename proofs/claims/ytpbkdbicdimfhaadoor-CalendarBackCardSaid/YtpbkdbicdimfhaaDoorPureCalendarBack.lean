/- The plain law of CalendarBack: what the printed functions compute for any day, number and tape is true. -/
import Derived.Test.YtpbkdbicdimfhaaDoorCalE
import Derived.Test.YtpbkdbicdimfhaaDoorP20
namespace Go.Proofs.YtpbkdbicdimfhaaDoor
open Go.RowKit P Go.Proofs.YtpbkdbicdimfhaaDoorW.PrintWords
set_option linter.unusedVariables false
theorem pureCalendarBack (a b : Int) (l : List Int) (wa : (Lit.int .i64 a).wf = true) (wb : (Lit.int .i64 b).wf = true) (h1 : l.length ≤ maxLen) (h2 : l.length * 8 ≤ 140737488351232) (h3 : ∀ x ∈ l, (Lit.int .i64 x).wf = true) :
    ∃ k, P.priceofficelaw05_CalendarBack.f k a b l = some true := by
  obtain ⟨K, hK⟩ : ∃ K : Nat, 7000 ≤ K := ⟨7000, Nat.le_refl _⟩
  refine ⟨K, ?_⟩
  unfold priceofficelaw05_CalendarBack.f
  obtain ⟨r, e, r0, r1⟩ := fold_ex a 180621 (by omega) (by omega)
  rw [e]
  simp only [Option.bind_some]
  rw [w64 (x := 1000 + r) (by omega) (by omega)]
  obtain ⟨h, m, eh, hl, hw⟩ := holidays_ex (k := K) l (1000 + r) (by omega)
  rw [eh]
  simp only [Option.bind_some]
  obtain ⟨j, ej, j0, j1⟩ := fold_ex b 30 (by omega) (by omega)
  rw [ej]
  simp only [Option.bind_some]
  rw [w64 (x := 1 + j) (by omega) (by omega), w64 (x := -(1 + j)) (by omega) (by omega)]
  -- the first one
  have n1 := enough h 3 (1000 + r - 1)
  obtain ⟨f, ef, f1, f2, f3, f4⟩ := shift_fwd h (7 * 3) (1000 + r - 1) 1 (by omega) (by omega) (by omega) (by omega)
  have s1 : shift (1000 + r) 0 h = (f, 0) := by
    unfold shift
    rw [if_pos (show inCal (1000 + r) = true from decide_eq_true ⟨by omega, by omega⟩), if_neg (by omega), if_neg (by omega), if_neg (by omega), if_pos rfl, ef]
  rw [shiftf_eq _ _ hw, s1]
  simp only [Option.bind_some]
  -- forth
  have n2 := enough h 9 f
  obtain ⟨t, et, t1, t2, t3, t4⟩ := shift_fwd h (7 * 9) f (1 + j) (by omega) (by omega) (by omega) (by omega)
  have s2 : shift f (1 + j) h = (t, 0) := by
    unfold shift
    rw [if_pos (show inCal f = true from decide_eq_true ⟨by omega, by omega⟩), if_neg (by omega), if_neg (by omega), if_neg (by omega), if_neg (by omega), et]
  rw [shiftf_eq _ _ hw, s2]
  simp only [Option.bind_some]
  -- back
  have s3 : shift t (-(1 + j)) h = (f, 0) := by
    unfold shift
    rw [if_pos (show inCal t = true from decide_eq_true ⟨by omega, by omega⟩), if_neg (by omega), if_neg (by omega), if_pos (by omega), show -(-(1 + j)) = 1 + j by omega]
    obtain ⟨n, hn⟩ : ∃ n : Nat, t = f + n + 1 := ⟨(t - f - 1).toNat, by omega⟩
    subst hn
    refine shift_back h f (by omega) f3 n (1 + j) (by omega) ?_
    rw [show (f + n + 1 - f).toNat = n + 1 by omega, cnt_last, t3, if_pos rfl] at t4
    rw [cnt, show f - 1 + 1 = f by omega, f3, if_pos rfl]
    omega
  rw [shiftf_eq _ _ hw, s3]
  simp only [Option.bind_some]
  rw [awake_eq (by omega)]
  have hge : f ≥ 1000 + r := by omega
  simp [hge]
end Go.Proofs.YtpbkdbicdimfhaaDoor
