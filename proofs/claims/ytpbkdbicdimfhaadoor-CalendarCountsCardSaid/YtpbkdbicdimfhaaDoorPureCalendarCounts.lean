/- The plain law of CalendarCounts: what the printed functions compute for any day, number and tape is true. -/
import Derived.Test.YtpbkdbicdimfhaaDoorCalE
import Derived.Test.YtpbkdbicdimfhaaDoorP22
namespace Go.Proofs.YtpbkdbicdimfhaaDoor
open Go.RowKit P Go.Proofs.YtpbkdbicdimfhaaDoorW.PrintWords
set_option linter.unusedVariables false
theorem counts_l (h : List Int) (j t : Int) (hl : h.length ≤ 281474976710656) (hw : WF h) (ht0 : 0 ≤ t) (ht : t ≤ 182620) (hb : biz h t = true) (hj0 : 0 ≤ j) (hj1 : j ≤ 1000) (c : Nat) : ∀ (k : Nat) (n d : Int), 0 ≤ d → d ≤ t → t - d = c → c + 200 < k → 0 ≤ n → n ≤ 1000000 - t + d → n + cnt h c (d - 1) = j - 1 →
    priceofficelaw05_CalendarCounts.l0 k h j t n d = some true := by
  induction c with
  | zero =>
    intro k n d h0 h1 h2 hk hn hn2 hc
    obtain ⟨k, rfl⟩ : ∃ q, k = q + 1 := ⟨k - 1, by omega⟩
    simp only [priceofficelaw05_CalendarCounts.l0]
    rw [cnt] at hc
    rw [if_neg (by omega), w64 (x := j - 1) (by omega) (by omega), if_pos (by omega), business_eq _ hl hw, hb]
    have hi : inCal t = true := decide_eq_true ⟨ht0, ht⟩
    rw [hi]
    simp only [Option.bind_some, Bool.and_self, if_true]
    rw [awake_eq (by omega)]
    rfl
  | succ c ih =>
    intro k n d h0 h1 h2 hk hn hn2 hc
    obtain ⟨k, rfl⟩ : ∃ q, k = q + 1 := ⟨k - 1, by omega⟩
    simp only [priceofficelaw05_CalendarCounts.l0]
    rw [cnt, show d - 1 + 1 = d by omega] at hc
    have hi : inCal d = true := decide_eq_true ⟨h0, by omega⟩
    rw [if_pos (by omega), business_eq _ hl hw, hi, Bool.true_and]
    simp only [Option.bind_some]
    rw [w64 (x := d + 1) (by omega) (by omega)]
    cases hx : biz h d with
    | true =>
      rw [hx, if_pos rfl] at hc
      rw [if_pos rfl, w64 (x := n + 1) (by omega) (by omega)]
      exact ih k _ _ (by omega) (by omega) (by omega) (by omega) (by omega) (by omega) (by rw [show d + 1 - 1 = d by omega]; omega)
    | false =>
      rw [hx, if_neg (by simp)] at hc
      rw [if_neg (by simp)]
      exact ih k _ _ (by omega) (by omega) (by omega) (by omega) (by omega) (by omega) (by rw [show d + 1 - 1 = d by omega]; omega)
theorem pureCalendarCounts (a b : Int) (l : List Int) (wa : (Lit.int .i64 a).wf = true) (wb : (Lit.int .i64 b).wf = true) (h1 : l.length ≤ maxLen) (h2 : l.length * 8 ≤ 140737488351232) (h3 : ∀ x ∈ l, (Lit.int .i64 x).wf = true) :
    ∃ k, P.priceofficelaw05_CalendarCounts.f k a b l = some true := by
  obtain ⟨K, hK⟩ : ∃ K : Nat, 7000 ≤ K := ⟨7000, Nat.le_refl _⟩
  refine ⟨K, ?_⟩
  unfold priceofficelaw05_CalendarCounts.f
  obtain ⟨r, e, r0, r1⟩ := fold_ex a 182221 (by omega) (by omega)
  rw [e]
  simp only [Option.bind_some]
  rw [w64 (x := r + 5) (by omega) (by omega)]
  obtain ⟨h, m, eh, hl, hw⟩ := holidays_ex (k := K) l (r + 5) (by omega)
  rw [eh]
  simp only [Option.bind_some]
  obtain ⟨j, ej, j0, j1⟩ := fold_ex b 30 (by omega) (by omega)
  rw [ej]
  simp only [Option.bind_some]
  rw [w64 (x := 1 + j) (by omega) (by omega), w64 (x := r + 400) (by omega) (by omega)]
  have n2 := enough h 9 r
  obtain ⟨t, et, t1, t2, t3, t4⟩ := shift_fwd h (7 * 9) r (1 + j) (by omega) (by omega) (by omega) (by omega)
  have s2 : shift r (1 + j) h = (t, 0) := by
    unfold shift
    rw [if_pos (show inCal r = true from decide_eq_true ⟨by omega, by omega⟩), if_neg (by omega), if_neg (by omega), if_neg (by omega), if_neg (by omega), et]
  rw [shiftf_eq _ _ hw, s2]
  simp only [Option.bind_some, if_true]
  rw [if_neg (by omega), decide_eq_false (show ¬ t > r + 400 by omega)]
  obtain ⟨K, rfl⟩ : ∃ q, K = q + 1 := ⟨K - 1, by omega⟩
  simp only [priceofficelaw05_CalendarCounts.j0]
  rw [if_neg (by simp), w64 (x := r + 1) (by omega) (by omega)]
  obtain ⟨n, hn⟩ : ∃ n : Nat, t = r + n + 1 := ⟨(t - r - 1).toNat, by omega⟩
  rw [hn, show (r + n + 1 - r).toNat = n + 1 by omega, cnt_last, ← hn, t3, if_pos rfl] at t4
  exact counts_l h (1 + j) t (by omega) hw (by omega) (by omega) t3 (by omega) (by omega) n K 0 (r + 1) (by omega) (by omega) (by omega) (by omega) (by omega) (by omega) (by rw [show r + 1 - 1 = r by omega]; omega)
end Go.Proofs.YtpbkdbicdimfhaaDoor
