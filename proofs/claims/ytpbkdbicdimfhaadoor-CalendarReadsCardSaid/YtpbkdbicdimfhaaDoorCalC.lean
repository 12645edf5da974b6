/- The plain laws of folded numbers, tapes, lists of holidays, business days, periods, dates of days and shifts. -/
import Derived.Test.YtpbkdbicdimfhaaDoorP6
import Derived.Test.YtpbkdbicdimfhaaDoorP9
import Derived.Test.YtpbkdbicdimfhaaDoorP10
import Derived.Test.YtpbkdbicdimfhaaDoorP11
import Derived.Test.YtpbkdbicdimfhaaDoorP13
import Derived.Test.YtpbkdbicdimfhaaDoorCalB
namespace Go.Proofs.YtpbkdbicdimfhaaDoor
open Go.RowKit P Go.Proofs.YtpbkdbicdimfhaaDoorW.PrintWords
set_option linter.unusedVariables false

theorem wf_i {x : Int} (h0 : -9223372036854775808 ≤ x) (h1 : x ≤ 9223372036854775807) : (Lit.int .i64 x).wf = true := WalkArith.wf_i64 (by omega)
theorem wf_w (x : Int) : (Lit.int .i64 (wrap64 x)).wf = true := wf_i (by unfold wrap64; omega) (by unfold wrap64; omega)
theorem mx_ge {a b : Int} (h : b ≤ a) : mx a b = a := by unfold mx; split <;> omega
theorem mx_lt {a b : Int} (h : a < b) : mx a b = b := by unfold mx; split <;> omega

theorem fold_ex (v n : Int) (h1 : 1 ≤ n) (h2 : n ≤ 4611686018427387904) : ∃ r, priceofficemake_Fold.f v n = some r ∧ 0 ≤ r ∧ r < n := by
  unfold priceofficemake_Fold.f
  rw [mx_ge h1, IntKind.wrap_u64, IntKind.wrap_u64, Int.emod_eq_of_lt (a := n) (by omega) (by omega)]
  rw [if_neg (by omega), tmod_nn _ (by omega)]
  have a := Int.emod_nonneg (v % 18446744073709551616) (show n ≠ 0 by omega)
  have b := Int.emod_lt_of_pos (v % 18446744073709551616) (show 0 < n by omega)
  exact ⟨_, by rw [w64 (by omega) (by omega)], a, b⟩
theorem next_ex (l : List Int) (i n : Int) (h0 : 0 ≤ i) (hi : i ≤ 4611686018427387904) (h1 : 1 ≤ n) (h2 : n ≤ 4611686018427387904) : ∃ r, priceofficemake_Tape_Next.f l i n = some (r, i + 1) ∧ 0 ≤ r ∧ r < n := by
  unfold priceofficemake_Tape_Next.f
  rw [mx_ge h1, IntKind.wrap_u64, IntKind.wrap_u64, Int.emod_eq_of_lt (a := n) (by omega) (by omega), w64 (x := i + 1) (by omega) (by omega)]
  by_cases hl : i < l.length
  · rw [if_pos hl, if_pos h0, if_neg (by omega), tmod_nn _ (by omega)]
    have a := Int.emod_nonneg (rd l i % 18446744073709551616) (show n ≠ 0 by omega)
    have b := Int.emod_lt_of_pos (rd l i % 18446744073709551616) (show 0 < n by omega)
    exact ⟨_, by rw [w64 (by omega) (by omega)], a, b⟩
  · rw [if_neg hl, if_neg (by omega)]
    exact ⟨0, rfl, by omega, by omega⟩

def WF (l : List Int) : Prop := ∀ x ∈ l, (Lit.int .i64 x).wf = true
theorem WF.all {l : List Int} (h : WF l) : l.all (fun x => (Lit.int .i64 x).wf) = true := by simpa [WF] using h
theorem WF.app {l m : List Int} (h : WF l) (h2 : WF m) : WF (l ++ m) := by
  intro x hx
  rcases List.mem_append.1 hx with h3 | h3
  · exact h x h3
  · exact h2 x h3
theorem WF.take {l : List Int} (h : WF l) (n : Nat) : WF (l.take n) := fun x hx => h x (List.mem_of_mem_take hx)

theorem holidays_l (l : List Int) (day : Int) (c : Nat) : ∀ (k : Nat) (out : List Int) (n i at' : Int), 0 ≤ i → i ≤ n → n ≤ 20 → n - i = c → c < k → out.length = i.toNat → WF out → 0 ≤ at' → at' ≤ 1000 + i →
    ∃ h m, priceofficelaw05_holidays.l0 k day out n i l at' = some (h, m) ∧ h.length = n.toNat + 2 ∧ WF h := by
  induction c with
  | zero =>
    intro k out n i at' h0 h1 h2 h3 hk hl hw ha0 ha1
    obtain ⟨k, rfl⟩ : ∃ q, k = q + 1 := ⟨k - 1, by omega⟩
    simp only [priceofficelaw05_holidays.l0]
    rw [if_neg (by omega)]
    obtain ⟨r1, e1, _, _⟩ := next_ex l at' 3 ha0 (by omega) (by omega) (by omega)
    obtain ⟨r2, e2, _, _⟩ := next_ex l (at' + 1) 3 (by omega) (by omega) (by omega) (by omega)
    rw [e1]
    simp only [Option.bind_some]
    rw [e2]
    simp only [Option.bind_some]
    rw [if_pos (by simp; omega)]
    refine ⟨_, _, rfl, by simp; omega, hw.app ?_⟩
    intro x hx
    simp only [List.mem_cons, List.mem_nil_iff, or_false] at hx
    rcases hx with rfl | rfl <;> exact wf_w _
  | succ c ih =>
    intro k out n i at' h0 h1 h2 h3 hk hl hw ha0 ha1
    obtain ⟨k, rfl⟩ : ∃ q, k = q + 1 := ⟨k - 1, by omega⟩
    simp only [priceofficelaw05_holidays.l0]
    rw [if_pos (by omega)]
    obtain ⟨r1, e1, _, _⟩ := next_ex l at' 21 ha0 (by omega) (by omega) (by omega)
    rw [e1]
    simp only [Option.bind_some]
    rw [if_pos (by omega), w64 (x := i + 1) (by omega) (by omega)]
    refine ih k _ n (i + 1) _ (by omega) (by omega) h2 (by omega) (by omega) (by simp; omega) (hw.app ?_) (by omega) (by omega)
    intro x hx
    simp only [List.mem_cons, List.mem_nil_iff, or_false] at hx
    subst hx
    exact wf_w _
theorem holidays_ex {k : Nat} (l : List Int) (day : Int) (hk : 30 ≤ k) : ∃ h m, priceofficelaw05_holidays.f k l 0 day = some (h, m) ∧ h.length ≤ 13 ∧ WF h := by
  unfold priceofficelaw05_holidays.f
  obtain ⟨r, e, r0, r1⟩ := next_ex l 0 12 (by omega) (by omega) (by omega) (by omega)
  rw [e]
  simp only [Option.bind_some]
  obtain ⟨h, m, e2, hl, hw⟩ := holidays_l l day r.toNat k [] r 0 1 (by omega) (by omega) (by omega) (by omega) (by omega) rfl (by intro x hx; cases hx) (by omega) (by omega)
  exact ⟨h, m, e2, by omega, hw⟩

theorem business_eq {l : List Int} (a : Int) (hl : l.length ≤ 281474976710656) (hw : WF l) : calendar_Business.f a l = some (inCal a && biz l a) := by
  unfold calendar_Business.f; rw [if_pos ⟨hl, hw.all⟩]
theorem rd_eq {l : List Int} {i : Nat} (h : i < l.length) : rd l (i : Int) = l[i] := by
  unfold rd; simp [List.getD_eq_getElem?_getD, h]
theorem rbusiness_l (a : Int) (l : List Int) (hl : l.length ≤ 281474976710656) (c : Nat) : ∀ (k i : Nat), i + c = l.length → c < k →
    priceofficeref05_Business.l0 k a l l.length i = some (!(l.drop i).contains a) := by
  induction c with
  | zero =>
    intro k i h hk
    obtain ⟨k, rfl⟩ : ∃ q, k = q + 1 := ⟨k - 1, by omega⟩
    simp only [priceofficeref05_Business.l0]
    rw [if_neg (by omega), show i = l.length by omega, List.drop_length]
    rfl
  | succ c ih =>
    intro k i h hk
    obtain ⟨k, rfl⟩ : ∃ q, k = q + 1 := ⟨k - 1, by omega⟩
    simp only [priceofficeref05_Business.l0]
    have hi : i < l.length := by omega
    rw [if_pos (by omega), if_pos (by omega), if_pos (by omega), rd_eq hi, w64 (x := (i : Int) + 1) (by omega) (by omega), List.drop_eq_getElem_cons hi]
    by_cases e : l[i] = a
    · rw [if_pos e, List.contains_cons]; simp [e]
    · rw [if_neg e, List.contains_cons]
      have h1 := ih k (i + 1) (by omega) (by omega)
      rw [show ((i + 1 : Nat) : Int) = (i : Int) + 1 by omega] at h1
      rw [h1]
      have : (a == l[i]) = false := by simp; exact fun h => e h.symm
      rw [this, Bool.false_or]
theorem rbusiness_eq {k : Nat} {l : List Int} (a : Int) (hl : l.length ≤ 281474976710656) (hk : l.length + 2 ≤ k) : priceofficeref05_Business.f k a l = some (inCal a && biz l a) := by
  obtain ⟨k, rfl⟩ : ∃ q, k = q + 1 := ⟨k - 1, by omega⟩
  unfold priceofficeref05_Business.f
  by_cases h0 : a < 0
  · rw [if_pos h0]
    simp only [priceofficeref05_Business.j0, if_true]
    unfold inCal; rw [decide_eq_false (by omega)]; rfl
  · rw [if_neg h0]
    by_cases h1 : a ≥ 182621
    · rw [if_pos h1]
      simp only [priceofficeref05_Business.j0, if_true]
      unfold inCal; rw [decide_eq_false (by omega)]; rfl
    · rw [if_neg h1]
      simp only [priceofficeref05_Business.j0]
      rw [tmod_nn _ (by omega)]
      unfold inCal biz
      rw [decide_eq_true (show 0 ≤ a ∧ a ≤ 182620 by omega), Bool.true_and]
      by_cases h2 : a % 7 ≥ 5
      · rw [if_pos (decide_eq_true h2), decide_eq_false (show ¬ a % 7 < 5 by omega)]; rfl
      · rw [if_neg (by simpa using h2), decide_eq_true (show a % 7 < 5 by omega), Bool.true_and]
        have := rbusiness_l a l hl l.length k 0 (by omega) (by omega)
        rw [List.drop_zero] at this
        exact this

/-! ### periods -/
def mon (x : Int) : Int := if 0 ≤ x ∧ x ≤ 5999 then x % 12 + 1 else 0
theorem month_eq (x : Int) (h1 : x ≤ 9223372036854775807) : calendar_Month.f x = some (mon x) := by
  unfold calendar_Month.f calendar_month.f mon
  by_cases h0 : x ≥ 0
  · rw [if_pos h0]
    simp only [Option.bind_some]
    by_cases h2 : x ≤ 5999
    · rw [if_pos (decide_eq_true h2), if_pos ⟨h0, h2⟩, tmod_nn _ h0, w64 (by omega) (by omega)]
    · rw [if_neg (by simpa using h2), if_neg (by omega)]
  · rw [if_neg h0, if_neg (by omega)]
    simp
theorem rmonth_eq (x : Int) : priceofficeref05_Month.f x = some (mon x) := by
  unfold priceofficeref05_Month.f mon
  by_cases h0 : x < 0
  · rw [if_pos h0, if_neg (by omega)]
  · rw [if_neg h0]
    by_cases h2 : x > 5999
    · rw [if_pos h2, if_neg (by omega)]
    · rw [if_neg h2, if_pos (by omega), tmod_nn _ (by omega), w64 (by omega) (by omega)]
theorem first_eq {k : Nat} (x : Int) (h0 : -9223372036854775808 ≤ x) (h1 : x ≤ 9223372036854775807) (hk : 12 ≤ k) : calendar_FirstDay.f k x = some (firstDay x) := by
  unfold calendar_FirstDay.f
  rw [month_eq x h1]
  simp only [Option.bind_some]
  rw [number_eq _ _ _ hk]
  simp only [Option.bind_some]
  congr 1
  by_cases h : 0 ≤ x ∧ x ≤ 5999
  · rw [firstDay_in h.1 h.2, mx_ge (by omega), tdiv_nn _ h.1, w64 (x := x / 12) (by omega) (by omega), w64 (by omega) (by omega)]
    unfold mon; rw [if_pos h]
    have hl := Cal.ln_bd (1900 + x / 12) (x % 12 + 1)
    have hv : Cal.vd (1900 + x / 12) (x % 12 + 1) 1 = true := Cal.vd_mk ⟨by omega, by omega, by omega, by omega, by omega, by omega⟩
    rw [Cal.num_fd hv, show (12 * (1900 + x / 12 - 1900) + (x % 12 + 1) - 1) = x by omega]
    omega
  · rw [firstDay_out h]
    unfold mon; rw [if_neg h]
    exact Cal.num_no (Cal.vd_no (by omega))
def lastDay (x : Int) : Int := if 0 ≤ x ∧ x ≤ 5999 then Cal.fd (x.toNat + 1) - 1 else -1
theorem fd_next {x : Int} (h0 : 0 ≤ x) : Cal.fd (x.toNat + 1) = Cal.fd x.toNat + Cal.ln (1900 + x / 12) (x % 12 + 1) := by
  rw [Cal.fd, show (x.toNat : Int) = x by omega]
theorem last_eq {k : Nat} (x : Int) (h0 : -9223372036854775808 ≤ x) (h1 : x ≤ 9223372036854775807) (hk : 12 ≤ k) : calendar_LastDay.f k x = some (lastDay x) := by
  unfold calendar_LastDay.f calendar_month.f
  by_cases ha : x ≥ 0
  · rw [if_pos ha]
    simp only [Option.bind_some]
    by_cases hb : x ≤ 5999
    · rw [if_pos (decide_eq_true hb), first_eq x h0 h1 hk, month_eq x h1]
      simp only [Option.bind_some]
      have hm : mon x = x % 12 + 1 := by unfold mon; rw [if_pos ⟨ha, hb⟩]
      have hl := Cal.ln_bd (1900 + x / 12) (x % 12 + 1)
      have hf := Cal.fd_bd x.toNat (by omega)
      rw [hm, tdiv_nn _ ha, w64 (x := x / 12) (by omega) (by omega), w64 (x := 1900 + x / 12) (by omega) (by omega), length_eq (by omega) (by omega) (by omega) (by omega), firstDay_in ha hb]
      simp only [Option.bind_some]
      rw [w64 (x := _ + _) (by omega) (by omega), w64 (by omega) (by omega)]
      unfold lastDay
      rw [if_pos ⟨ha, hb⟩, fd_next ha]
    · rw [if_neg (by simpa using hb)]; unfold lastDay; rw [if_neg (by omega)]
  · rw [if_neg ha]; unfold lastDay; rw [if_neg (by omega)]; simp
theorem rlast_eq {k : Nat} (x : Int) (hk : 6020 ≤ k) : priceofficeref05_LastDay.f k x = some (lastDay x) := by
  obtain ⟨k, rfl⟩ : ∃ q, k = q + 1 := ⟨k - 1, by omega⟩
  unfold priceofficeref05_LastDay.f lastDay
  by_cases ha : x < 0
  · rw [if_pos ha, if_neg (by omega)]
    simp only [priceofficeref05_LastDay.j0, if_true]
  · rw [if_neg ha]
    simp only [priceofficeref05_LastDay.j0]
    by_cases hb : x > 5999
    · rw [if_pos (decide_eq_true hb), if_neg (by omega)]
    · rw [if_neg (by simpa using hb), if_pos (by omega), rfirst_eq x (by omega)]
      simp only [Option.bind_some]
      have hl := Cal.ln_bd (1900 + x / 12) (x % 12 + 1)
      have hf := Cal.fd_bd x.toNat (by omega)
      rw [tdiv_nn _ (by omega), tmod_nn _ (by omega), w64 (x := x / 12) (by omega) (by omega), w64 (x := 1900 + x / 12) (by omega) (by omega), w64 (x := x % 12 + 1) (by omega) (by omega), rlength_eq (by omega) (by omega), firstDay_in (by omega) (by omega)]
      simp only [Option.bind_some]
      rw [w64 (x := _ + _) (by omega) (by omega), w64 (by omega) (by omega), fd_next (by omega)]
def dec (x : Int) : Int := if 12 ≤ x ∧ x ≤ 5999 then x / 12 * 12 - 1 else -1
theorem dec_eq (x : Int) : calendar_December.f x = some (dec x) := by
  unfold calendar_December.f calendar_month.f dec
  by_cases ha : x ≥ 0
  · rw [if_pos ha]
    simp only [Option.bind_some]
    by_cases hb : x ≤ 5999
    · rw [if_pos (decide_eq_true hb), tdiv_nn _ ha, w64 (x := x / 12) (by omega) (by omega), w64 (x := x / 12 * 12) (by omega) (by omega), w64 (x := x / 12 * 12 - 1) (by omega) (by omega), mx_ge (by omega)]
      congr 1
      split <;> omega
    · rw [if_neg (by simpa using hb), if_neg (by omega)]
  · rw [if_neg ha, if_neg (by omega)]; simp
theorem rdec_eq (x : Int) : priceofficeref05_December.f x = some (dec x) := by
  unfold priceofficeref05_December.f dec
  by_cases ha : x < 12
  · rw [if_pos ha, if_neg (by omega)]
  · rw [if_neg ha]
    by_cases hb : x > 5999
    · rw [if_pos hb, if_neg (by omega)]
    · rw [if_neg hb, if_pos (by omega), tdiv_nn _ (by omega), w64 (x := x / 12) (by omega) (by omega), w64 (x := x / 12 * 12) (by omega) (by omega), w64 (x := x / 12 * 12 - 1) (by omega) (by omega)]
end Go.Proofs.YtpbkdbicdimfhaaDoor
