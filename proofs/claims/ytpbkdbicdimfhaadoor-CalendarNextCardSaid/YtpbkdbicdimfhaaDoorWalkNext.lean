/- The walk of CalendarNext. -/
import Derived.Test.YtpbkdbicdimfhaaDoorCalD
import Derived.Test.YtpbkdbicdimfhaaDoorP7
import Derived.Deep.QuietTactic
import Derived.BigQuiet
import Derived.Lib.Hide
namespace Go.Proofs.YtpbkdbicdimfhaaDoor
open Go.RowKit P Go.Proofs.YtpbkdbicdimfhaaDoorW.PrintWords
set_option linter.unusedVariables false

theorem fold_call (v n r : Int) (w : World) (h : priceofficemake_Fold.f v n = some r) : Calls Tryd.prog 19 #[.int .i64 v, .int .i64 n] w fun e w' => e = .returned (.int .i64 r) ∧ Below w.heap.size w w' := priceofficemake_Fold.calls v n r w h
def DateIs (n y m d : Int) : Prop := 0 ≤ n ∧ n ≤ 182620 ∧ Cal.vd y m d = true ∧ Cal.num y m d = n
theorem date_call {n y m d : Int} (h : DateIs n y m d) (w : World) : Calls Tryd.prog 31 #[.int .i64 n] w fun e w' => e = .returned (.tuple #[.agg #[.int .i64 y, .int .i64 m, .int .i64 d], .bool true]) ∧ Below w.heap.size w w' := by
  obtain ⟨y', m', d', e, hv, hn⟩ := dateof_in (k := 7000) h.1 h.2.1 (by omega)
  obtain ⟨rfl, rfl, rfl⟩ := Cal.num_inj hv h.2.2.1 (hn.trans h.2.2.2.symm)
  exact calendar_DateOf.calls 7000 n y' m' d' true w e
theorem weekday_call (n : Int) (h0 : 0 ≤ n) (h1 : n ≤ 182620) (w : World) : Calls Tryd.prog 32 #[.int .i64 n] w fun e w' => e = .returned (.int .i64 (n % 7)) ∧ Drawn0 w w' := by
  refine calendar_Weekday.calls n (n % 7) w ?_
  rw [weekday_eq]; unfold wday; rw [if_pos ⟨h0, h1⟩]
theorem awake_call (w : World) (hG : GT w) : Calls Tryd.prog 18 #[] w fun e w' => e = .returned (.bool true) ∧ Below w.heap.size w w' := priceofficelaw05_awake.calls 7000 true w hG (awake_eq (by omega))

set_option maxHeartbeats 2000000 in
theorem next_same (a n y m d : Int) (w : World) (hf : priceofficemake_Fold.f a 182620 = some n) (h0 : 0 ≤ n) (h1 : n < 182620) (y0 : 1900 ≤ y) (y1 : y ≤ 2399) (m0 : 1 ≤ m) (m1 : m ≤ 12) (d0 : 1 ≤ d) (d1 : d ≤ 31)
    (ha : DateIs n y m d) (hb : DateIs (n + 1) (y) (m) (d + 1)) (hG : GT w) :
    Calls Tryd.prog 6 #[.int .i64 a] w fun e w' => e = .returned (.bool true) ∧ Below w.heap.size w w' := by
  have HF := Lib.hid hf
  have HA := Lib.hid ha
  have HB := Lib.hid hb
  have HG := Lib.hid hG
  clear hf ha hb hG
  go_enter Tryd.func6, Tryd.ntmps6
  go_wp2_with fail
  refine (fold_call _ _ n _ HF.out).mono ?_
  rintro e w1 ⟨rfl, hb1⟩
  have HB1 := Lib.hid hb1
  clear hb1
  go_wp2_with fail
  refine (date_call HA.out _).mono ?_
  rintro e w2 ⟨rfl, hb2⟩
  have HB2 := Lib.hid hb2
  clear hb2
  go_wp2_with fail
  refine (date_call HB.out _).mono ?_
  rintro e w3 ⟨rfl, hb3⟩
  have HB3 := Lib.hid hb3
  have c0 : w3.cell? ⟨w2.heap.size, 0, none⟩ = some (.int .i64 y) := by rw [hb3.cell (p := ⟨w2.heap.size, 0, none⟩) (by simp)]; simp [go_sem]
  have c1 : w3.cell? ⟨w2.heap.size, 1, none⟩ = some (.int .i64 m) := by rw [hb3.cell (p := ⟨w2.heap.size, 1, none⟩) (by simp)]; simp [go_sem]
  have c2 : w3.cell? ⟨w2.heap.size, 2, none⟩ = some (.int .i64 d) := by rw [hb3.cell (p := ⟨w2.heap.size, 2, none⟩) (by simp)]; simp [go_sem]
  have hsz : w2.heap.size < w3.heap.size := by have := hb3.size; simp at this; omega
  clear hb3
  have hw7 : ((n + 1) % 7 == (n % 7 + 1) % 7) = true := by simp
  go_wp2_with fail
  refine (weekday_call _ (by omega) (by omega) _).mono ?_
  rintro e w4 ⟨rfl, ⟨nd, rfl⟩⟩
  go_wp2_with fail
  refine (weekday_call _ (by omega) (by omega) _).mono ?_
  rintro e w5 ⟨rfl, ⟨nd2, rfl⟩⟩
  go_wp2_with fail
  have hX := pw_below_drewN (below_alloc (below_step (below_alloc (below_step HB1.out HB2.out) (Obj.cells #[.int .i64 (y), .int .i64 (m), .int .i64 (d)] 23)) HB3.out) (Obj.cells #[.int .i64 (y), .int .i64 (m), .int .i64 (d + 1)] 23)) (nd + nd2)
  refine (awake_call _ (HG.out.below hX)).mono ?_
  rintro e w6 ⟨rfl, hb6⟩
  have hY := Lib.hid (below_step hX hb6)
  clear hb6 hX
  go_wp2_with fail
  go_ret
  exact ⟨rfl, hY.out⟩
set_option maxHeartbeats 2000000 in
theorem next_month (a n y m d : Int) (w : World) (hf : priceofficemake_Fold.f a 182620 = some n) (h0 : 0 ≤ n) (h1 : n < 182620) (y0 : 1900 ≤ y) (y1 : y ≤ 2399) (m0 : 1 ≤ m) (m1 : m ≤ 11) (d0 : 28 ≤ d) (d1 : d ≤ 31)
    (ha : DateIs n y m d) (hb : DateIs (n + 1) (y) (m + 1) (1)) (hG : GT w) :
    Calls Tryd.prog 6 #[.int .i64 a] w fun e w' => e = .returned (.bool true) ∧ Below w.heap.size w w' := by
  have HF := Lib.hid hf
  have HA := Lib.hid ha
  have HB := Lib.hid hb
  have HG := Lib.hid hG
  clear hf ha hb hG
  go_enter Tryd.func6, Tryd.ntmps6
  go_wp2_with fail
  refine (fold_call _ _ n _ HF.out).mono ?_
  rintro e w1 ⟨rfl, hb1⟩
  have HB1 := Lib.hid hb1
  clear hb1
  go_wp2_with fail
  refine (date_call HA.out _).mono ?_
  rintro e w2 ⟨rfl, hb2⟩
  have HB2 := Lib.hid hb2
  clear hb2
  go_wp2_with fail
  refine (date_call HB.out _).mono ?_
  rintro e w3 ⟨rfl, hb3⟩
  have HB3 := Lib.hid hb3
  have c0 : w3.cell? ⟨w2.heap.size, 0, none⟩ = some (.int .i64 y) := by rw [hb3.cell (p := ⟨w2.heap.size, 0, none⟩) (by simp)]; simp [go_sem]
  have c1 : w3.cell? ⟨w2.heap.size, 1, none⟩ = some (.int .i64 m) := by rw [hb3.cell (p := ⟨w2.heap.size, 1, none⟩) (by simp)]; simp [go_sem]
  have c2 : w3.cell? ⟨w2.heap.size, 2, none⟩ = some (.int .i64 d) := by rw [hb3.cell (p := ⟨w2.heap.size, 2, none⟩) (by simp)]; simp [go_sem]
  have hsz : w2.heap.size < w3.heap.size := by have := hb3.size; simp at this; omega
  clear hb3
  have hw7 : ((n + 1) % 7 == (n % 7 + 1) % 7) = true := by simp
  go_wp2_with fail
  refine (weekday_call _ (by omega) (by omega) _).mono ?_
  rintro e w4 ⟨rfl, ⟨nd, rfl⟩⟩
  go_wp2_with fail
  refine (weekday_call _ (by omega) (by omega) _).mono ?_
  rintro e w5 ⟨rfl, ⟨nd2, rfl⟩⟩
  go_wp2_with fail
  have hX := pw_below_drewN (below_alloc (below_step (below_alloc (below_step HB1.out HB2.out) (Obj.cells #[.int .i64 (y), .int .i64 (m), .int .i64 (d)] 23)) HB3.out) (Obj.cells #[.int .i64 (y), .int .i64 (m + 1), .int .i64 (1)] 23)) (nd + nd2)
  refine (awake_call _ (HG.out.below hX)).mono ?_
  rintro e w6 ⟨rfl, hb6⟩
  have hY := Lib.hid (below_step hX hb6)
  clear hb6 hX
  go_wp2_with fail
  go_ret
  exact ⟨rfl, hY.out⟩
set_option maxHeartbeats 2000000 in
theorem next_year (a n y : Int) (w : World) (hf : priceofficemake_Fold.f a 182620 = some n) (h0 : 0 ≤ n) (h1 : n < 182620) (y0 : 1900 ≤ y) (y1 : y ≤ 2398)
    (ha : DateIs n y 12 31) (hb : DateIs (n + 1) (y + 1) (1) (1)) (hG : GT w) :
    Calls Tryd.prog 6 #[.int .i64 a] w fun e w' => e = .returned (.bool true) ∧ Below w.heap.size w w' := by
  have HF := Lib.hid hf
  have HA := Lib.hid ha
  have HB := Lib.hid hb
  have HG := Lib.hid hG
  clear hf ha hb hG
  go_enter Tryd.func6, Tryd.ntmps6
  go_wp2_with fail
  refine (fold_call _ _ n _ HF.out).mono ?_
  rintro e w1 ⟨rfl, hb1⟩
  have HB1 := Lib.hid hb1
  clear hb1
  go_wp2_with fail
  refine (date_call HA.out _).mono ?_
  rintro e w2 ⟨rfl, hb2⟩
  have HB2 := Lib.hid hb2
  clear hb2
  go_wp2_with fail
  refine (date_call HB.out _).mono ?_
  rintro e w3 ⟨rfl, hb3⟩
  have HB3 := Lib.hid hb3
  have c0 : w3.cell? ⟨w2.heap.size, 0, none⟩ = some (.int .i64 y) := by rw [hb3.cell (p := ⟨w2.heap.size, 0, none⟩) (by simp)]; simp [go_sem]
  have c1 : w3.cell? ⟨w2.heap.size, 1, none⟩ = some (.int .i64 12) := by rw [hb3.cell (p := ⟨w2.heap.size, 1, none⟩) (by simp)]; simp [go_sem]
  have c2 : w3.cell? ⟨w2.heap.size, 2, none⟩ = some (.int .i64 31) := by rw [hb3.cell (p := ⟨w2.heap.size, 2, none⟩) (by simp)]; simp [go_sem]
  have hsz : w2.heap.size < w3.heap.size := by have := hb3.size; simp at this; omega
  clear hb3
  have hw7 : ((n + 1) % 7 == (n % 7 + 1) % 7) = true := by simp
  go_wp2_with fail
  refine (weekday_call _ (by omega) (by omega) _).mono ?_
  rintro e w4 ⟨rfl, ⟨nd, rfl⟩⟩
  go_wp2_with fail
  refine (weekday_call _ (by omega) (by omega) _).mono ?_
  rintro e w5 ⟨rfl, ⟨nd2, rfl⟩⟩
  go_wp2_with fail
  have hX := pw_below_drewN (below_alloc (below_step (below_alloc (below_step HB1.out HB2.out) (Obj.cells #[.int .i64 (y), .int .i64 (12), .int .i64 (31)] 23)) HB3.out) (Obj.cells #[.int .i64 (y + 1), .int .i64 (1), .int .i64 (1)] 23)) (nd + nd2)
  refine (awake_call _ (HG.out.below hX)).mono ?_
  rintro e w6 ⟨rfl, hb6⟩
  have hY := Lib.hid (below_step hX hb6)
  clear hb6 hX
  go_wp2_with fail
  go_ret
  exact ⟨rfl, hY.out⟩

theorem next_walk (a : Int) (w : World) (hG : GT w) : Calls Tryd.prog 6 #[.int .i64 a] w fun e w' => e = .returned (.bool true) ∧ Below w.heap.size w w' := by
  obtain ⟨n, hf, h0, h1⟩ := fold_ex a 182620 (by omega) (by omega)
  obtain ⟨y, m, d, e, hv, hn⟩ := dateof_in (k := 7000) (x := n) h0 (by omega) (by omega)
  have ha : DateIs n y m d := ⟨h0, by omega, hv, hn⟩
  obtain ⟨v1, v2, v3, v4, v5, v6⟩ := Cal.vd_of hv
  have hl := Cal.ln_bd y m
  rw [Cal.num_vd hv] at hn
  by_cases hd : d + 1 ≤ Cal.ln y m
  · have hv2 : Cal.vd y m (d + 1) = true := Cal.vd_mk ⟨v1, v2, v3, v4, by omega, hd⟩
    exact next_same a n y m d w hf h0 h1 v1 v2 v3 v4 v5 (by omega) ha ⟨by omega, by omega, hv2, by rw [Cal.num_vd hv2]; omega⟩ hG
  · by_cases hm : m ≤ 11
    · have hl2 := Cal.ln_bd y (m + 1)
      have hc := Cal.cum_succ y m v3 v4
      have hv2 : Cal.vd y (m + 1) 1 = true := Cal.vd_mk ⟨v1, v2, by omega, by omega, by omega, by omega⟩
      exact next_month a n y m d w hf h0 h1 v1 v2 v3 hm (by omega) (by omega) ha ⟨by omega, by omega, hv2, by rw [Cal.num_vd hv2]; omega⟩ hG
    · obtain rfl : m = 12 := by omega
      have h12 : Cal.ln y 12 = 31 := by simp [Cal.ln]
      obtain rfl : d = 31 := by omega
      have hc := Cal.cum_succ y 12 (by omega) (by omega)
      rw [show (12 : Int) + 1 = 13 from rfl, Cal.cum_end] at hc
      have hb := Cal.bef_succ y
      have hlp := Cal.lp_01 y
      have hy : y ≤ 2398 := by
        rcases Int.lt_or_le y 2399 with h | h
        · omega
        · have e2 : y = 2399 := by omega
          subst e2
          rw [show (2399 : Int) + 1 = 2400 from rfl, Cal.bef_2400] at hb
          omega
      have hl1 := Cal.ln_bd (y + 1) 1
      have hc1 := Cal.cum_one (y + 1)
      have hv2 : Cal.vd (y + 1) 1 1 = true := Cal.vd_mk ⟨by omega, by omega, by omega, by omega, by omega, by omega⟩
      exact next_year a n y w hf h0 h1 v1 hy ha ⟨by omega, by omega, hv2, by rw [Cal.num_vd hv2]; omega⟩ hG
end Go.Proofs.YtpbkdbicdimfhaaDoor
