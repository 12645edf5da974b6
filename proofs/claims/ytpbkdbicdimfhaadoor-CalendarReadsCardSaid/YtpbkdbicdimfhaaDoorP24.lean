/- Lean functions with the same answers as the program's Go functions, and for each the proof that the call comes to these answers; written by a program of mine out of the translation, the functions marked 'by hand' by me. -/
import Derived.Test.YtpbkdbicdimfhaaDoorP0
import Derived.Test.YtpbkdbicdimfhaaDoorP23
namespace Go.Proofs.YtpbkdbicdimfhaaDoor.P
open Go.RowKit Go.Proofs.YtpbkdbicdimfhaaDoorW.PrintWords Go.Proofs.YtpbkdbicdimfhaaDoorW.PrintLast Go.Proofs.YtpbkdbicdimfhaaDoorW.PrintMore
attribute [local go_sem] max2_int min2_int max_two min_two max_three min_three max_four min_four   -- for this text's walks alone
set_option linter.unusedVariables false
set_option linter.unusedSimpArgs false

/-! ### calendar_ParseDate: function 44 (by hand) -/

section
/-- the j-th number, if it is among the first k -/
def pN (l : List ByteArray) (k j : Nat) : Int := if j < k then numOf (l[j]?.getD ByteArray.empty).data.toList else 0
theorem pN_zero (l : List ByteArray) (j : Nat) : pN l 0 j = 0 := by simp [pN]
def calendar_ParseDate.f (k : Nat) (a0 : ByteArray) : Option (Int × Int × Int × Int) := if a0.size < 4294967281 ∧ (∀ x ∈ words a0, x.size ≤ 281474976710656) then (if a0.toList = ([] : List UInt8) then some (0, 0, 0, 54) else (calendar_FormatDate.f k (pN (words a0) (words a0).length 0) (pN (words a0) (words a0).length 1) (pN (words a0) (words a0).length 2)).bind fun t => if t.toList = a0.toList then some (pN (words a0) (words a0).length 0, pN (words a0) (words a0).length 1, pN (words a0) (words a0).length 2, 0) else some (0, 0, 0, 54)) else none
theorem calendar_ParseDate.mono (a0 : ByteArray) (k : Nat) : LeO (calendar_ParseDate.f k a0) (calendar_ParseDate.f (k + 1) a0) := by
  unfold calendar_ParseDate.f
  exact LeO.ite (LeO.ite (LeO.refl _) (LeO.bind (calendar_FormatDate.mono _ _ _ _) fun t => LeO.refl _)) (LeO.refl _)
def PRel (w : World) (b : Nat) (l : List ByteArray) (i : Value) (wr : World) : Prop := ∃ k : Nat, k ≤ l.length ∧ i = .int .i64 k ∧ wr.heap[w.heap.size]? = some (.cells #[.int .i64 0, .int .i64 0, .int .i64 0] 23 (0, 0)) ∧ wr.heap[w.heap.size + 1]? = some (.cells #[.int .i64 (pN l k 0), .int .i64 (pN l k 1), .int .i64 (pN l k 2)] 59 (0, 0)) ∧ (∀ (j : Nat) x, l[j]? = some x → wr.cell? ⟨b, j, none⟩ = some (.string x)) ∧ Below w.heap.size w wr
set_option maxRecDepth 100000 in
set_option maxHeartbeats 4000000 in
theorem calendar_ParseDate.calls (k : Nat) (a0 : ByteArray) (r1 : Int) (r2 : Int) (r3 : Int) (r4 : Int) (w : World) (hG : GL w) (h : calendar_ParseDate.f k a0 = some (r1, r2, r3, r4)) :
    Calls Tryd.prog 44 #[.string a0] w fun e w' => e = .returned (.tuple #[.agg #[.int .i64 r1, .int .i64 r2, .int .i64 r3], .int .i64 r4]) ∧ Below w.heap.size w w' := by
  have hu23 := Tryd.underlying23
  have hu59 := Tryd.underlying59
  unfold calendar_ParseDate.f at h
  by_cases hs : a0.size < 4294967281 ∧ (∀ x ∈ words a0, x.size ≤ 281474976710656)
  case neg => rw [if_neg hs] at h; exact absurd h (by simp)
  rw [if_pos hs] at h
  have HS := Lib.hid hs
  have H := Lib.hid h
  have hwl := words_len a0
  generalize hwe : words a0 = l at *
  have HW := Lib.hid hwe
  clear hs h hwe
  go_enter Tryd.func44, Tryd.ntmps44
  have hB0 : Below w.heap.size w ((w.alloc (.cells #[.int .i64 0, .int .i64 0, .int .i64 0] 23)).alloc (.cells #[.int .i64 0, .int .i64 0, .int .i64 0] 59)) := ((Below.refl _ w).alloc (Nat.le_refl _) _).alloc (by simp) _
  have HB0 := Lib.hid hB0
  clear hB0
  go_wp2_with (go_at_call 57; refine (splitn_any a0 HS.out.1 _ (hG.below HB0.out)).mono ?_; rintro e w1 hp; rw [HW.out] at hp; obtain ⟨c, b, rfl, hbge, hB1, hblt, hcells⟩ := hp)
  have hB1w : Below w.heap.size w w1 := HB0.out.trans (hB1.mono (by simp; omega))
  have HRel0 : PRel w b l (.int .i64 0) w1 := ⟨0, Nat.zero_le _, rfl, blk_below (blk_alloc (blk_new w _) _) hB1, (by rw [pN_zero, pN_zero, pN_zero]; exact blk_below (by simpa using blk_new (w.alloc (.cells #[.int .i64 0, .int .i64 0, .int .i64 0] 23)) (.cells #[.int .i64 0, .int .i64 0, .int .i64 0] 59)) hB1), hcells, hB1w⟩
  have hbw : w.heap.size + 2 ≤ b := by simpa using hbge
  clear hcells hB1 hB1w hbge hblt
  go_loopw [11] (fun i wr => PRel w b l i wr) (fun i _ => l.length - (intOf i).toNat)
  case atStart => exact HRel0
  case round =>
    clear HRel0
    obtain ⟨k1, hk1, rfl, hc0, hc1, hcs, hb⟩ := hrel
    have HC0 := Lib.hid hc0
    have HC1 := Lib.hid hc1
    have HCS := Lib.hid hcs
    have HBw := Lib.hid hb
    clear hc0 hc1 hcs hb
    by_cases hlt : k1 < l.length
    · obtain ⟨x, hx⟩ : ∃ x, l[k1]? = some x := ⟨l[k1], by simp [hlt]⟩
      have hc : wr.cell? ⟨b, k1, none⟩ = some (.string x) := HCS.out k1 x hx
      have hxz : x.size ≤ 281474976710656 := HS.out.2 x (List.mem_of_getElem? hx)
      have HX := Lib.hid hx
      clear hx
      have hk3 : k1 < 3 := by omega
      go_wp2_with (go_at_call 58; refine (atoi_any x hxz _ (hG.below HBw.out)).mono ?_; rintro e w4 ⟨ev, hev, rfl, hb4⟩; have HB4 := Lib.hid hb4; obtain ⟨v0, hv0⟩ : ∃ v, w4.cell? ⟨w.heap.size + 1, k1, none⟩ = some v := ⟨_, (blk_cell (blk_below HC1.out hb4) k1).trans (Array.getElem?_eq_getElem (by simp; omega))⟩; have hf0 := blk_frozen (blk_below HC1.out hb4) k1; clear hb4)
      have hblk := blk_set (blk_below HC1.out HB4.out) k1 (.int .i64 (numOf x.data.toList))
      have hpn : (#[.int .i64 (pN l k1 0), .int .i64 (pN l k1 1), .int .i64 (pN l k1 2)] : Array Value).setIfInBounds k1 (.int .i64 (numOf x.data.toList)) = #[.int .i64 (pN l (k1 + 1) 0), .int .i64 (pN l (k1 + 1) 1), .int .i64 (pN l (k1 + 1) 2)] := by
        have hx := HX.out
        have h3 : k1 = 0 ∨ k1 = 1 ∨ k1 = 2 := by omega
        rcases h3 with rfl | rfl | rfl <;> simp [pN, hx]
      rw [hpn] at hblk
      go_roundw
      case rel => exact ⟨k1 + 1, by omega, by go_num, blk_far (blk_below HC0.out HB4.out) (by simp) _, hblk, fun j y hy => by
        have h1 := pw_cell_below HB4.out (HCS.out j y hy)
        have h2 : b ≠ w.heap.size + 1 := by omega
        rw [World.cell?_setCell_far _ _ _ _ (show w.heap.size + 1 ≠ b by omega)]
        exact h1, below_set (below_step HBw.out HB4.out) (by simp)⟩
      case measure => simp [intOf]; omega
    · have hkl : k1 = l.length := by omega
      subst hkl
      have hq0 : wr.cell? ⟨w.heap.size + 1, 0, none⟩ = some (.int .i64 (pN l l.length 0)) := (blk_cell HC1.out 0).trans rfl
      have hq1 : wr.cell? ⟨w.heap.size + 1, 1, none⟩ = some (.int .i64 (pN l l.length 1)) := (blk_cell HC1.out 1).trans rfl
      have hq2 : wr.cell? ⟨w.heap.size + 1, 2, none⟩ = some (.int .i64 (pN l l.length 2)) := (blk_cell HC1.out 2).trans rfl
      have HQ := Lib.hid (And.intro hq0 (And.intro hq1 hq2))
      have hf : ∀ (W : World), W.heap[w.heap.size]? = some (.cells #[.int .i64 0, .int .i64 0, .int .i64 0] 23 (0, 0)) → True := fun _ _ => trivial
      clear hf hk1 hlt
      by_cases hA : a0.toList = []
      · have hr := H.out
        rw [if_pos hA] at hr
        simp only [Option.some.injEq, Prod.mk.injEq] at hr
        obtain ⟨rfl, rfl, rfl, rfl⟩ := hr
        obtain ⟨W2, hW2⟩ : ∃ W2, wr.alloc (.cells #[.int .i64 (pN l l.length 0), .int .i64 (pN l l.length 1), .int .i64 (pN l l.length 2)] 23) = W2 := ⟨_, rfl⟩
        have HZ : Hid (W2.heap[w.heap.size]? = some (.cells #[.int .i64 0, .int .i64 0, .int .i64 0] 23 (0, 0))) := Lib.hid (hW2 ▸ blk_alloc HC0.out _)
        have z0 : W2.cell? ⟨w.heap.size, 0, none⟩ = some (.int .i64 0) := (blk_cell HZ.out 0).trans rfl
        have z1 : W2.cell? ⟨w.heap.size, 1, none⟩ = some (.int .i64 0) := (blk_cell HZ.out 1).trans rfl
        have z2 : W2.cell? ⟨w.heap.size, 2, none⟩ = some (.int .i64 0) := (blk_cell HZ.out 2).trans rfl
        have y0 := blk_frozen HZ.out 0
        have y1 := blk_frozen HZ.out 1
        have y2 := blk_frozen HZ.out 2
        have HW2 := Lib.hid hW2
        have hA1 : a0.toList.isEmpty = true := by simp [hA]
        go_wp2
        refine bodyPost_ret (v := .tuple #[.agg #[.int .i64 0, .int .i64 0, .int .i64 0], .int .i64 54]) (by simp [results, Tryd.f44, go_sem, z0, z1, z2]) rfl ⟨rfl, ?_⟩
        exact below_set (below_set (below_set (HW2.out ▸ below_alloc HBw.out _) (Nat.le_refl _)) (Nat.le_refl _)) (Nat.le_refl _)
      · have hr := H.out
        rw [if_neg hA] at hr
        obtain ⟨t, ht, hr⟩ := Option.bind_eq_some_iff.1 hr
        have HF := Lib.hid ht
        clear ht
        obtain ⟨W2, hW2⟩ : ∃ W2, wr.alloc (.cells #[.int .i64 (pN l l.length 0), .int .i64 (pN l l.length 1), .int .i64 (pN l l.length 2)] 23) = W2 := ⟨_, rfl⟩
        have HZ : Hid (W2.heap[w.heap.size]? = some (.cells #[.int .i64 0, .int .i64 0, .int .i64 0] 23 (0, 0))) := Lib.hid (hW2 ▸ blk_alloc HC0.out _)
        have HD : Hid (W2.heap[wr.heap.size]? = some (.cells #[.int .i64 (pN l l.length 0), .int .i64 (pN l l.length 1), .int .i64 (pN l l.length 2)] 23 (0, 0))) := Lib.hid (hW2 ▸ blk_new wr _)
        have HB2 : Hid (Below w.heap.size w W2) := Lib.hid (hW2 ▸ below_alloc HBw.out _)
        have d0 : W2.cell? ⟨wr.heap.size, 0, none⟩ = some (.int .i64 (pN l l.length 0)) := (blk_cell HD.out 0).trans rfl
        have d1 : W2.cell? ⟨wr.heap.size, 1, none⟩ = some (.int .i64 (pN l l.length 1)) := (blk_cell HD.out 1).trans rfl
        have d2 : W2.cell? ⟨wr.heap.size, 2, none⟩ = some (.int .i64 (pN l l.length 2)) := (blk_cell HD.out 2).trans rfl
        have HW2 := Lib.hid hW2
        have hA1 : a0.toList.isEmpty = false := by simpa using hA
        have hA2 : (a0.toList == []) = false := by simpa using hA
        by_cases hT : t.toList = a0.toList
        · rw [if_pos hT] at hr
          simp only [Option.some.injEq, Prod.mk.injEq] at hr
          obtain ⟨rfl, rfl, rfl, rfl⟩ := hr
          have hT1 : (t.toList == a0.toList) = true := by simp [hT]
          have hT2 : (t.toList != a0.toList) = false := by simp [hT]
          have HT := Lib.hid hT
          clear hT hA
          go_wp2_with (go_at_call 39; refine (calendar_FormatDate.calls k _ _ _ t _ (hG.below HB2.out).gt HF.out).mono ?_; rintro e w5 ⟨rfl, hb5⟩; have HZ5 := Lib.hid (blk_below HZ.out hb5); have HD5 := Lib.hid (blk_below HD.out hb5); have HB5 := Lib.hid (below_step HB2.out hb5); have z0 : w5.cell? ⟨w.heap.size, 0, none⟩ = some (.int .i64 0) := (blk_cell HZ5.out 0).trans rfl; have z1 : w5.cell? ⟨w.heap.size, 1, none⟩ = some (.int .i64 0) := (blk_cell HZ5.out 1).trans rfl; have z2 : w5.cell? ⟨w.heap.size, 2, none⟩ = some (.int .i64 0) := (blk_cell HZ5.out 2).trans rfl; have y0 := blk_frozen HZ5.out 0; have y1 := blk_frozen HZ5.out 1; have y2 := blk_frozen HZ5.out 2; have g0 : w5.cell? ⟨wr.heap.size, 0, none⟩ = some (.int .i64 (pN l l.length 0)) := (blk_cell HD5.out 0).trans rfl; have g1 : w5.cell? ⟨wr.heap.size, 1, none⟩ = some (.int .i64 (pN l l.length 1)) := (blk_cell HD5.out 1).trans rfl; have g2 : w5.cell? ⟨wr.heap.size, 2, none⟩ = some (.int .i64 (pN l l.length 2)) := (blk_cell HD5.out 2).trans rfl; clear hb5)
          refine bodyPost_ret (v := .tuple #[.agg #[.int .i64 (pN l l.length 0), .int .i64 (pN l l.length 1), .int .i64 (pN l l.length 2)], .int .i64 0]) (by simp [results, Tryd.f44, go_sem, z0, z1, z2]) rfl ⟨rfl, ?_⟩
          exact below_set (below_set (below_set HB5.out (Nat.le_refl _)) (Nat.le_refl _)) (Nat.le_refl _)
        · rw [if_neg hT] at hr
          simp only [Option.some.injEq, Prod.mk.injEq] at hr
          obtain ⟨rfl, rfl, rfl, rfl⟩ := hr
          have hT1 : (t.toList == a0.toList) = false := by simp [hT]
          have hT2 : (t.toList != a0.toList) = true := by simp [hT]
          clear hT hA
          go_wp2_with (go_at_call 39; refine (calendar_FormatDate.calls k _ _ _ t _ (hG.below HB2.out).gt HF.out).mono ?_; rintro e w5 ⟨rfl, hb5⟩; have HZ5 := Lib.hid (blk_below HZ.out hb5); have HB5 := Lib.hid (below_step HB2.out hb5); have z0 : w5.cell? ⟨w.heap.size, 0, none⟩ = some (.int .i64 0) := (blk_cell HZ5.out 0).trans rfl; have z1 : w5.cell? ⟨w.heap.size, 1, none⟩ = some (.int .i64 0) := (blk_cell HZ5.out 1).trans rfl; have z2 : w5.cell? ⟨w.heap.size, 2, none⟩ = some (.int .i64 0) := (blk_cell HZ5.out 2).trans rfl; have y0 := blk_frozen HZ5.out 0; have y1 := blk_frozen HZ5.out 1; have y2 := blk_frozen HZ5.out 2; clear hb5)
          refine bodyPost_ret (v := .tuple #[.agg #[.int .i64 0, .int .i64 0, .int .i64 0], .int .i64 54]) (by simp [results, Tryd.f44, go_sem, z0, z1, z2]) rfl ⟨rfl, ?_⟩
          exact below_set (below_set (below_set HB5.out (Nat.le_refl _)) (Nat.le_refl _)) (Nat.le_refl _)
end

end Go.Proofs.YtpbkdbicdimfhaaDoor.P
