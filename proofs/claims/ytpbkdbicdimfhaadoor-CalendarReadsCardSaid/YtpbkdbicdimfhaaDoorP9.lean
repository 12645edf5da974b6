/- Lean functions with the same answers as the program's Go functions, and for each the proof that the call comes to these answers; written by a program of mine out of the translation, the functions marked 'by hand' by me. -/
import Derived.Test.YtpbkdbicdimfhaaDoorP0
namespace Go.Proofs.YtpbkdbicdimfhaaDoor.P
open Go.RowKit Go.Proofs.YtpbkdbicdimfhaaDoorW.PrintWords Go.Proofs.YtpbkdbicdimfhaaDoorW.PrintLast Go.Proofs.YtpbkdbicdimfhaaDoorW.PrintMore
attribute [local go_sem] max2_int min2_int max_two min_two max_three min_three max_four min_four   -- for this text's walks alone
set_option linter.unusedVariables false
set_option linter.unusedSimpArgs false

/-! ### priceofficemake_Fold: function 19 -/
def priceofficemake_Fold.f (a0 : Int) (a1 : Int) : Option (Int) := if (IntKind.u64.wrap (mx a1 1)) = 0 then (none) else (some (wrap64 (Int.tmod (IntKind.u64.wrap (a0)) (IntKind.u64.wrap (mx a1 1)))))
set_option maxHeartbeats 8000000 in
set_option maxRecDepth 100000 in
theorem priceofficemake_Fold.calls (a0 : Int) (a1 : Int) (r : Int) (w : World) (h : priceofficemake_Fold.f a0 a1 = some r) :
    Calls Tryd.prog 19 #[.int .i64 a0, .int .i64 a1] w fun e w' => e = .returned (.int .i64 r) ∧ Below w.heap.size w w' := by
  have HB := Aside0.mk (Below.refl w.heap.size w)
  have H : (if (IntKind.u64.wrap (mx a1 1)) = 0 then (none) else (some (wrap64 (Int.tmod (IntKind.u64.wrap (a0)) (IntKind.u64.wrap (mx a1 1)))))) = some r := h
  clear h
  obtain ⟨ji3, hji3⟩ : ∃ j_ : Int, (mx a1 1) = j_ := ⟨_, rfl⟩
  replace H : (if (IntKind.u64.wrap (ji3)) = 0 then (none) else (some (wrap64 (Int.tmod (IntKind.u64.wrap (a0)) (IntKind.u64.wrap (ji3)))))) = some r := by first | (rw [hji3] at H; exact H) | (simp only [hji3] at H ⊢; exact H)
  (try (have hji3l : 1 ≤ ji3 := by (rw [← hji3]; unfold mx; (repeat' split) <;> omega)))
  (try (have hji3m : 0 ≤ ji3 := by omega))
  have hji3_ : (if a1 < 1 then 1 else a1) = ji3 := hji3
  by_cases c4 : (IntKind.u64.wrap (ji3)) = 0
  · rw [if_pos c4] at H
    exact absurd H (by simp)
  · rw [if_neg c4] at H
    have c4b0 : ((IntKind.u64.wrap (ji3)) == 0) = false := beq_eq_false_iff_ne.mpr c4
    have c4b1 : ((IntKind.u64.wrap (ji3)) != 0) = true := bne_iff_ne.mpr c4
    obtain rfl := Option.some.inj H
    go_enter Tryd.func19, Tryd.ntmps19
    go_wp2
    go_ret
    exact ⟨by first | rfl | (simp [errW_none, errW_some] <;> rfl) | (simp only [← hji3]; first | rfl | (simp [errW_none, errW_some] <;> rfl)) | (simp [*, errW_none, errW_some] <;> rfl), by repeat (first | (with_reducible first | exact HB.out | apply below_alloc | apply pw_below_drewN | apply below_drew1) | exact HB.out)⟩

/-! ### priceofficemake_Tape_Next: function 50 (by hand) -/
/-- A state of type 32 at block g of W; what its slices lead to came in by w0. -/
def IsS32 (w0 W : World) (g : Nat) (f0 : List Int) (f1 : Int) : Prop := ∃ A0 c0, W.heap[g]? = some (.cells #[.slice A0 f0.length c0, .int .i64 f1] 32 (0, 0)) ∧ w0.heap.size ≤ g ∧ Kd.C (Kd.int .i64) w0 A0 f0.length f0
theorem IsS32.grown {w0 W : World} {g : Nat} {f0 : List Int} {f1 : Int} {W1 : World} {row : Option Nat} (h : IsS32 w0 W g f0 f1) (hw : W.grownBy W1 row) (hne : some g ≠ row) : IsS32 w0 W1 g f0 f1 := by
  obtain ⟨A0, c0, hb, hg, hr0⟩ := h
  exact ⟨A0, c0, blk_grown hb hw hne, hg, hr0⟩
theorem IsS32.own_neN {w0 W : World} {g : Nat} {f0 : List Int} {f1 : Int} {α : Type} {d : Kd α} {e : Nat} {base : Nat} {ok : Nat → Prop} {v : Value} {xs : List α} (h : IsS32 w0 W g f0 f1) (ho : Kd.N d e W base ok v xs) (ht : e ≠ 32) : some g ≠ v.ownBlock := by
  obtain ⟨A0, c0, hb, hg, hr0⟩ := h
  exact Kd.N_ne ho hb ht
theorem IsS32.fresh {w0 W : World} {g : Nat} {f0 : List Int} {f1 : Int} (h : IsS32 w0 W g f0 f1) : ∀ k, W.heap.size ≤ k → k ≠ g := by
  obtain ⟨A0, c0, hb, hg, hr0⟩ := h
  exact Kd.freshB hb
theorem IsS32.kept {w0 W : World} {g : Nat} {f0 : List Int} {f1 : Int} {W1 : World} {S : Nat → Prop} (h : IsS32 w0 W g f0 f1) (hk : Kept W W1 S) (hne : ¬ S g) : IsS32 w0 W1 g f0 f1 := by
  obtain ⟨A0, c0, hb, hg, hr0⟩ := h
  exact ⟨A0, c0, blk_kept hb hk hne, hg, hr0⟩
theorem IsS32.below {w0 W : World} {g : Nat} {f0 : List Int} {f1 : Int} {W1 : World} (h : IsS32 w0 W g f0 f1) (hw : Below W.heap.size W W1) : IsS32 w0 W1 g f0 f1 := h.grown (grown_of_below hw none) (by simp)
theorem IsS32.alloc {w0 W : World} {g : Nat} {f0 : List Int} {f1 : Int} (h : IsS32 w0 W g f0 f1) (o : Obj) : IsS32 w0 (W.alloc o) g f0 f1 := h.below (below_alloc (Below.refl _ _) o)
theorem IsS32.drewN {w0 W : World} {g : Nat} {f0 : List Int} {f1 : Int} (h : IsS32 w0 W g f0 f1) (m : Nat) : IsS32 w0 (W.drewN m) g f0 f1 := h
theorem IsS32.drew {w0 W : World} {g : Nat} {f0 : List Int} {f1 : Int} (h : IsS32 w0 W g f0 f1) : IsS32 w0 W.drew g f0 f1 := h
theorem IsS32.at_ {w0 W : World} {g : Nat} {f0 : List Int} {f1 : Int} {w' : World} {m : Nat} (hq : W.drewN m = w') (h : IsS32 w0 W g f0 f1) : IsS32 w0 w' g f0 f1 := by subst hq; exact IsS32.drewN h m
theorem IsS32.apart {w0 W : World} {g : Nat} {f0 : List Int} {f1 : Int} {α : Type} {d : Kd α} {e : Nat} {base : Nat} {ok : Nat → Prop} {v : Value} {xs : List α} (h : IsS32 w0 W g f0 f1) (ho : d.R e W base ok v xs) (ht : ∀ q, q ∈ e :: d.E → q ≠ 32) : d.R e W base (fun k => ok k ∧ k ≠ g) v xs := by
  obtain ⟨A0, c0, hb, hg, hr0⟩ := h
  exact Kd.R_types ho hb ht
theorem IsS32.own_ne {w0 W : World} {g : Nat} {f0 : List Int} {f1 : Int} {α : Type} {d : Kd α} {e : Nat} {base : Nat} {ok : Nat → Prop} {v : Value} {xs : List α} (h : IsS32 w0 W g f0 f1) (ho : d.R e W base ok v xs) (ht : e ≠ 32) : some g ≠ v.ownBlock := by
  obtain ⟨A0, c0, hb, hg, hr0⟩ := h
  exact Kd.R_ne ho hb ht
theorem IsS32.apartQ {w0 W : World} {g : Nat} {f0 : List Int} {f1 : Int} {α : Type} {d : Kd α} {e : Nat} {base : Nat} {ok : Nat → Prop} {v : Value} {xs : List α} (h : IsS32 w0 W g f0 f1) (ho : d.Q e W base ok v xs) (ht : ∀ q, q ∈ e :: d.E → q ≠ 32) : d.Q e W base (fun k => ok k ∧ k ≠ g) v xs := by
  obtain ⟨A0, c0, hb, hg, hr0⟩ := h
  exact Kd.Q_types ho hb ht
theorem IsS32.own_neQ {w0 W : World} {g : Nat} {f0 : List Int} {f1 : Int} {α : Type} {d : Kd α} {e : Nat} {base : Nat} {ok : Nat → Prop} {v : Value} {xs : List α} (h : IsS32 w0 W g f0 f1) (ho : d.Q e W base ok v xs) (ht : e ≠ 32) : some g ≠ v.ownBlock := by
  obtain ⟨A0, c0, hb, hg, hr0⟩ := h
  exact Kd.Q_ne ho hb ht
theorem IsS32.apartS {w0 W : World} {g : Nat} {f0 : List Int} {f1 : Int} {α : Type} {d : Kd α} {e : Nat} {base : Nat} {ok : Nat → Prop} {v : Value} {xs : List α} (h : IsS32 w0 W g f0 f1) (ho : d.S e W base ok v xs) (ht : ∀ q, q ∈ e :: d.E → q ≠ 32) : d.S e W base (fun k => ok k ∧ k ≠ g) v xs := by
  obtain ⟨A0, c0, hb, hg, hr0⟩ := h
  exact Kd.S_types ho hb ht
theorem IsS32.own_neS {w0 W : World} {g : Nat} {f0 : List Int} {f1 : Int} {α : Type} {d : Kd α} {e : Nat} {base : Nat} {ok : Nat → Prop} {v : Value} {xs : List α} (h : IsS32 w0 W g f0 f1) (ho : d.S e W base ok v xs) (ht : e ≠ 32) : some g ≠ v.ownBlock := by
  obtain ⟨A0, c0, hb, hg, hr0⟩ := h
  exact Kd.S_ne ho hb ht
theorem IsS32.lt {w0 W : World} {g : Nat} {f0 : List Int} {f1 : Int} (h : IsS32 w0 W g f0 f1) : g < W.heap.size := by
  obtain ⟨A0, c0, hb, hg, hr0⟩ := h
  exact blk_lt hb
theorem IsS32.ge {w0 W : World} {g : Nat} {f0 : List Int} {f1 : Int} (h : IsS32 w0 W g f0 f1) : w0.heap.size ≤ g := by
  obtain ⟨A0, c0, hb, hg, hr0⟩ := h
  exact hg
theorem IsS32.ne_blk {w0 W : World} {g : Nat} {f0 : List Int} {f1 : Int} {a : Nat} {cs : Array Value} {t : TypeId} {fr : Nat × Nat} (h : IsS32 w0 W g f0 f1) (hb2 : W.heap[a]? = some (.cells cs t fr)) (ht : t ≠ 32) : g ≠ a := by
  obtain ⟨A0, c0, hb, hg, hr0⟩ := h
  rintro rfl
  rw [hb] at hb2
  injection hb2 with hb2
  injection hb2 with _ ht2
  exact ht ht2.symm
theorem IsS32.far {w0 W : World} {g : Nat} {f0 : List Int} {f1 : Int} {p : Addr} (h : IsS32 w0 W g f0 f1) (hne : g ≠ p.block) (u : Value) : IsS32 w0 (W.setCell p u) g f0 f1 := by
  obtain ⟨A0, c0, hb, hg, hr0⟩ := h
  exact ⟨A0, c0, blk_far hb hne u, hg, hr0⟩
theorem cellS32_0 {W : World} {g : Nat} {A0 : Option Addr} {c0 : Nat} {f0 : List Int} {f1 : Int} (h : W.heap[g]? = some (.cells #[.slice A0 f0.length c0, .int .i64 f1] 32 (0, 0))) : W.cell? ⟨g, 0, none⟩ = some (.slice A0 f0.length c0) := (blk_cell h 0).trans rfl
theorem cellS32_1 {W : World} {g : Nat} {A0 : Option Addr} {c0 : Nat} {f0 : List Int} {f1 : Int} (h : W.heap[g]? = some (.cells #[.slice A0 f0.length c0, .int .i64 f1] 32 (0, 0))) : W.cell? ⟨g, 1, none⟩ = some (.int .i64 f1) := (blk_cell h 1).trans rfl
theorem IsS32.set_1 {w0 W : World} {g : Nat} {f0 : List Int} {f1 : Int} (h : IsS32 w0 W g f0 f1) (x : Int) : IsS32 w0 (W.setCell ⟨g, 1, none⟩ (.int .i64 x)) g f0 x := by
  obtain ⟨A0, c0, hb, hg, hr0⟩ := h
  exact ⟨A0, c0, by simpa using blk_set hb 1 (.int .i64 x), hg, hr0⟩
theorem IsS32.new (w0 W : World) (A0 : Option Addr) (c0 : Nat) (f0 : List Int) (f1 : Int) (hB : Below w0.heap.size w0 W) (hr0 : Kd.C (Kd.int .i64) w0 A0 f0.length f0) : IsS32 w0 (W.alloc (.cells #[.slice A0 f0.length c0, .int .i64 f1] 32)) W.heap.size f0 f1 := ⟨A0, c0, by simpa using heap_alloc_new W _, hB.size, hr0⟩


def priceofficemake_Tape_Next.f (s0_0 : List Int) (s0_1 : Int) (a1 : Int) : Option (Int × Int) := if s0_1 < (s0_0.length : Int) then (if 0 ≤ s0_1 then (if (IntKind.u64.wrap (mx a1 1)) = 0 then (none) else (some (wrap64 (Int.tmod (IntKind.u64.wrap (rd s0_0 s0_1)) (IntKind.u64.wrap (mx a1 1))), wrap64 (s0_1 + 1)))) else (none)) else (if (IntKind.u64.wrap (mx a1 1)) = 0 then (none) else (some ((0 : Int), wrap64 (s0_1 + 1))))
set_option maxHeartbeats 8000000 in
set_option maxRecDepth 100000 in
theorem priceofficemake_Tape_Next.calls (g : Nat) (s0_0 : List Int) (s0_1 : Int) (a1 : Int) (r1 : Int) (r2 : Int) (w0 w : World) (hI : IsS32 w0 w g s0_0 s0_1) (hB : Below w0.heap.size w0 w) (h : priceofficemake_Tape_Next.f s0_0 s0_1 a1 = some (r1, r2)) :
    Calls Tryd.prog 50 #[.pointer (some ⟨g, 0, none⟩), .int .i64 a1] w fun e w' => e = .returned (.int .i64 r1) ∧ IsS32 w0 w' g s0_0 r2 ∧ Below w0.heap.size w0 w' ∧ KeepBut w w' g none := by
  have HI0 := Aside0.mk hI
  have HK := Aside0.mk (KeepBut.refl w g none)
  have HL := Aside0.mk hB.size
  clear hI
  have HW0 := Aside0.mk hB.size
  have HB := Aside0.mk hB
  clear hB
  have H : (if s0_1 < (s0_0.length : Int) then (if 0 ≤ s0_1 then (if (IntKind.u64.wrap (mx a1 1)) = 0 then (none) else (some (wrap64 (Int.tmod (IntKind.u64.wrap (rd s0_0 s0_1)) (IntKind.u64.wrap (mx a1 1))), wrap64 (s0_1 + 1)))) else (none)) else (if (IntKind.u64.wrap (mx a1 1)) = 0 then (none) else (some ((0 : Int), wrap64 (s0_1 + 1))))) = some (r1, r2) := h
  clear h
  by_cases c3 : s0_1 < (s0_0.length : Int)
  · rw [if_pos c3] at H
    have c3b0 : decide (s0_1 < (s0_0.length : Int)) = true := decide_eq_true c3
    clear c3
    by_cases c4 : 0 ≤ s0_1
    · rw [if_pos c4] at H
      have c4b0 : decide (0 ≤ s0_1) = true := decide_eq_true c4
      clear c4
      obtain ⟨ji5, hji5⟩ : ∃ j_ : Int, (mx a1 1) = j_ := ⟨_, rfl⟩
      replace H : (if (IntKind.u64.wrap (ji5)) = 0 then (none) else (some (wrap64 (Int.tmod (IntKind.u64.wrap (rd s0_0 s0_1)) (IntKind.u64.wrap (ji5))), wrap64 (s0_1 + 1)))) = some (r1, r2) := by first | (rw [hji5] at H; exact H) | (simp only [hji5] at H ⊢; exact H)
      (try (have hji5l : 1 ≤ ji5 := by (rw [← hji5]; unfold mx; (repeat' split) <;> omega)))
      (try (have hji5m : 0 ≤ ji5 := by omega))
      have hji5_ : (if a1 < 1 then 1 else a1) = ji5 := hji5
      by_cases c6 : (IntKind.u64.wrap (ji5)) = 0
      · rw [if_pos c6] at H
        exact absurd H (by simp)
      · rw [if_neg c6] at H
        have c6b0 : ((IntKind.u64.wrap (ji5)) == 0) = false := beq_eq_false_iff_ne.mpr c6
        have c6b1 : ((IntKind.u64.wrap (ji5)) != 0) = true := bne_iff_ne.mpr c6
        simp only [Option.some.injEq, Prod.mk.injEq] at H
        obtain ⟨rfl, rfl⟩ := H
        obtain ⟨ASz7_0, cSz7_0, HGz7, hgz7, HSz7_0⟩ := HI0.out
        have hcz7_0 := cellS32_0 HGz7
        have hcz7_1 := cellS32_1 HGz7
        have hfz7_1 := blk_frozen HGz7 1
        clear HGz7 hgz7
        have p137 : 0 ≤ (s0_1 : Int) := of_decide_eq_true (by first | (with_reducible assumption) | assumption)
        have q137 : s0_1 < (s0_0.length : Int) := of_decide_eq_true (by first | (with_reducible assumption) | assumption)
        obtain ⟨ad137, e137, hx137_0⟩ := Kd.at_int HSz7_0 s0_1 p137 q137
        cases e137
        replace hx137_0 := pw_cell_below HB.out hx137_0
        replace p137 := eq_true p137
        replace q137 := eq_true q137
        go_enter Tryd.func50, Tryd.ntmps50
        go_wp2
        repeat (go_quiet (fail); try go_wp2)
        go_ret
        exact ⟨by first | rfl | (simp [errW_none, errW_some] <;> rfl) | (simp only [← hji5]; first | rfl | (simp [errW_none, errW_some] <;> rfl)) | (simp [*, errW_none, errW_some] <;> rfl), by repeat (first | (with_reducible first | exact HI0.out | apply IsS32.alloc | apply IsS32.drewN | apply IsS32.drew | apply IsS32.set_1) | exact HI0.out), by repeat (first | (with_reducible first | exact HB.out | apply below_alloc | apply pw_below_drewN | apply below_drew1 | refine below_set ?_ (IsS32.ge HI0.out)) | exact HB.out), by repeat (first | (with_reducible first | exact HK.out | apply KeepBut.set_ | apply keep_drewN | apply keep_drew | apply keep_alloc) | exact HK.out)⟩
    · rw [if_neg c4] at H
      exact absurd H (by simp)
  · rw [if_neg c3] at H
    have c3b0 : decide (s0_1 < (s0_0.length : Int)) = false := decide_eq_false c3
    clear c3
    obtain ⟨ji8, hji8⟩ : ∃ j_ : Int, (mx a1 1) = j_ := ⟨_, rfl⟩
    replace H : (if (IntKind.u64.wrap (ji8)) = 0 then (none) else (some ((0 : Int), wrap64 (s0_1 + 1)))) = some (r1, r2) := by first | (rw [hji8] at H; exact H) | (simp only [hji8] at H ⊢; exact H)
    (try (have hji8l : 1 ≤ ji8 := by (rw [← hji8]; unfold mx; (repeat' split) <;> omega)))
    (try (have hji8m : 0 ≤ ji8 := by omega))
    have hji8_ : (if a1 < 1 then 1 else a1) = ji8 := hji8
    by_cases c9 : (IntKind.u64.wrap (ji8)) = 0
    · rw [if_pos c9] at H
      exact absurd H (by simp)
    · rw [if_neg c9] at H
      have c9b0 : ((IntKind.u64.wrap (ji8)) == 0) = false := beq_eq_false_iff_ne.mpr c9
      have c9b1 : ((IntKind.u64.wrap (ji8)) != 0) = true := bne_iff_ne.mpr c9
      simp only [Option.some.injEq, Prod.mk.injEq] at H
      obtain ⟨rfl, rfl⟩ := H
      obtain ⟨ASz10_0, cSz10_0, HGz10, hgz10, HSz10_0⟩ := HI0.out
      have hcz10_0 := cellS32_0 HGz10
      have hcz10_1 := cellS32_1 HGz10
      have hfz10_1 := blk_frozen HGz10 1
      clear HGz10 hgz10
      go_enter Tryd.func50, Tryd.ntmps50
      go_wp2
      repeat (go_quiet (fail); try go_wp2)
      go_ret
      exact ⟨by first | rfl | (simp [errW_none, errW_some] <;> rfl) | (simp only [← hji8]; first | rfl | (simp [errW_none, errW_some] <;> rfl)) | (simp [*, errW_none, errW_some] <;> rfl), by repeat (first | (with_reducible first | exact HI0.out | apply IsS32.alloc | apply IsS32.drewN | apply IsS32.drew | apply IsS32.set_1) | exact HI0.out), by repeat (first | (with_reducible first | exact HB.out | apply below_alloc | apply pw_below_drewN | apply below_drew1 | refine below_set ?_ (IsS32.ge HI0.out)) | exact HB.out), by repeat (first | (with_reducible first | exact HK.out | apply KeepBut.set_ | apply keep_drewN | apply keep_drew | apply keep_alloc) | exact HK.out)⟩

end Go.Proofs.YtpbkdbicdimfhaaDoor.P
