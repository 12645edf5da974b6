/- Lean functions with the same answers as the program's Go functions, and for each the proof that the call comes to these answers; written by a program of mine out of the translation, the functions marked 'by hand' by me. -/
import Derived.Test.YtpnoliognpmkmaaDoorP0
namespace Go.Proofs.YtpnoliognpmkmaaDoor.P
open Go.RowKit Go.Proofs.YtpnoliognpmkmaaDoorW.PrintWords Go.Proofs.YtpnoliognpmkmaaDoorW.PrintLast Go.Proofs.YtpnoliognpmkmaaDoorW.PrintMore
attribute [local go_sem] max2_int min2_int max_two min_two max_three min_three max_four min_four   -- for this text's walks alone
set_option linter.unusedVariables false
set_option linter.unusedSimpArgs false

/-! ### priceofficemake_Tape_Next: function 18 (by hand) -/
/-- A state of type 25 at block g of W; what its slices lead to came in by w0. -/
def IsS25 (w0 W : World) (g : Nat) (f0 : List Int) (f1 : Int) : Prop := ∃ A0 c0, W.heap[g]? = some (.cells #[.slice A0 f0.length c0, .int .i64 f1] 25 (0, 0)) ∧ w0.heap.size ≤ g ∧ Kd.C (Kd.int .i64) w0 A0 f0.length f0
theorem IsS25.grown {w0 W : World} {g : Nat} {f0 : List Int} {f1 : Int} {W1 : World} {row : Option Nat} (h : IsS25 w0 W g f0 f1) (hw : W.grownBy W1 row) (hne : some g ≠ row) : IsS25 w0 W1 g f0 f1 := by
 obtain ⟨A0, c0, hb, hg, hr0⟩ := h
 exact ⟨A0, c0, blk_grown hb hw hne, hg, hr0⟩
theorem IsS25.own_neN {w0 W : World} {g : Nat} {f0 : List Int} {f1 : Int} {α : Type} {d : Kd α} {e : Nat} {base : Nat} {ok : Nat → Prop} {v : Value} {xs : List α} (h : IsS25 w0 W g f0 f1) (ho : Kd.N d e W base ok v xs) (ht : e ≠ 25) : some g ≠ v.ownBlock := by
 obtain ⟨A0, c0, hb, hg, hr0⟩ := h
 exact Kd.N_ne ho hb ht
theorem IsS25.fresh {w0 W : World} {g : Nat} {f0 : List Int} {f1 : Int} (h : IsS25 w0 W g f0 f1) : ∀ k, W.heap.size ≤ k → k ≠ g := by
 obtain ⟨A0, c0, hb, hg, hr0⟩ := h
 exact Kd.freshB hb
theorem IsS25.kept {w0 W : World} {g : Nat} {f0 : List Int} {f1 : Int} {W1 : World} {S : Nat → Prop} (h : IsS25 w0 W g f0 f1) (hk : Kept W W1 S) (hne : ¬ S g) : IsS25 w0 W1 g f0 f1 := by
 obtain ⟨A0, c0, hb, hg, hr0⟩ := h
 exact ⟨A0, c0, blk_kept hb hk hne, hg, hr0⟩
theorem IsS25.below {w0 W : World} {g : Nat} {f0 : List Int} {f1 : Int} {W1 : World} (h : IsS25 w0 W g f0 f1) (hw : Below W.heap.size W W1) : IsS25 w0 W1 g f0 f1 := h.grown (grown_of_below hw none) (by simp)
theorem IsS25.alloc {w0 W : World} {g : Nat} {f0 : List Int} {f1 : Int} (h : IsS25 w0 W g f0 f1) (o : Obj) : IsS25 w0 (W.alloc o) g f0 f1 := h.below (b_a (Below.refl _ _) o)
theorem IsS25.drewN {w0 W : World} {g : Nat} {f0 : List Int} {f1 : Int} (h : IsS25 w0 W g f0 f1) (m : Nat) : IsS25 w0 (W.drewN m) g f0 f1 := h
theorem IsS25.drew {w0 W : World} {g : Nat} {f0 : List Int} {f1 : Int} (h : IsS25 w0 W g f0 f1) : IsS25 w0 W.drew g f0 f1 := h
theorem IsS25.at_ {w0 W : World} {g : Nat} {f0 : List Int} {f1 : Int} {w' : World} {m : Nat} (hq : W.drewN m = w') (h : IsS25 w0 W g f0 f1) : IsS25 w0 w' g f0 f1 := by subst hq; exact IsS25.drewN h m
theorem IsS25.apart {w0 W : World} {g : Nat} {f0 : List Int} {f1 : Int} {α : Type} {d : Kd α} {e : Nat} {base : Nat} {ok : Nat → Prop} {v : Value} {xs : List α} (h : IsS25 w0 W g f0 f1) (ho : d.R e W base ok v xs) (ht : ∀ q, q ∈ e :: d.E → q ≠ 25) : d.R e W base (fun k => ok k ∧ k ≠ g) v xs := by
 obtain ⟨A0, c0, hb, hg, hr0⟩ := h
 exact Kd.R_types ho hb ht
theorem IsS25.own_ne {w0 W : World} {g : Nat} {f0 : List Int} {f1 : Int} {α : Type} {d : Kd α} {e : Nat} {base : Nat} {ok : Nat → Prop} {v : Value} {xs : List α} (h : IsS25 w0 W g f0 f1) (ho : d.R e W base ok v xs) (ht : e ≠ 25) : some g ≠ v.ownBlock := by
 obtain ⟨A0, c0, hb, hg, hr0⟩ := h
 exact Kd.R_ne ho hb ht
theorem IsS25.apartQ {w0 W : World} {g : Nat} {f0 : List Int} {f1 : Int} {α : Type} {d : Kd α} {e : Nat} {base : Nat} {ok : Nat → Prop} {v : Value} {xs : List α} (h : IsS25 w0 W g f0 f1) (ho : d.Q e W base ok v xs) (ht : ∀ q, q ∈ e :: d.E → q ≠ 25) : d.Q e W base (fun k => ok k ∧ k ≠ g) v xs := by
 obtain ⟨A0, c0, hb, hg, hr0⟩ := h
 exact Kd.Q_types ho hb ht
theorem IsS25.own_neQ {w0 W : World} {g : Nat} {f0 : List Int} {f1 : Int} {α : Type} {d : Kd α} {e : Nat} {base : Nat} {ok : Nat → Prop} {v : Value} {xs : List α} (h : IsS25 w0 W g f0 f1) (ho : d.Q e W base ok v xs) (ht : e ≠ 25) : some g ≠ v.ownBlock := by
 obtain ⟨A0, c0, hb, hg, hr0⟩ := h
 exact Kd.Q_ne ho hb ht
theorem IsS25.apartS {w0 W : World} {g : Nat} {f0 : List Int} {f1 : Int} {α : Type} {d : Kd α} {e : Nat} {base : Nat} {ok : Nat → Prop} {v : Value} {xs : List α} (h : IsS25 w0 W g f0 f1) (ho : d.S e W base ok v xs) (ht : ∀ q, q ∈ e :: d.E → q ≠ 25) : d.S e W base (fun k => ok k ∧ k ≠ g) v xs := by
 obtain ⟨A0, c0, hb, hg, hr0⟩ := h
 exact Kd.S_types ho hb ht
theorem IsS25.own_neS {w0 W : World} {g : Nat} {f0 : List Int} {f1 : Int} {α : Type} {d : Kd α} {e : Nat} {base : Nat} {ok : Nat → Prop} {v : Value} {xs : List α} (h : IsS25 w0 W g f0 f1) (ho : d.S e W base ok v xs) (ht : e ≠ 25) : some g ≠ v.ownBlock := by
 obtain ⟨A0, c0, hb, hg, hr0⟩ := h
 exact Kd.S_ne ho hb ht
theorem IsS25.lt {w0 W : World} {g : Nat} {f0 : List Int} {f1 : Int} (h : IsS25 w0 W g f0 f1) : g < W.heap.size := by
 obtain ⟨A0, c0, hb, hg, hr0⟩ := h
 exact blk_lt hb
theorem IsS25.ge {w0 W : World} {g : Nat} {f0 : List Int} {f1 : Int} (h : IsS25 w0 W g f0 f1) : w0.heap.size ≤ g := by
 obtain ⟨A0, c0, hb, hg, hr0⟩ := h
 exact hg
theorem IsS25.ne_blk {w0 W : World} {g : Nat} {f0 : List Int} {f1 : Int} {a : Nat} {cs : Array Value} {t : TypeId} {fr : Nat × Nat} (h : IsS25 w0 W g f0 f1) (hb2 : W.heap[a]? = some (.cells cs t fr)) (ht : t ≠ 25) : g ≠ a := by
 obtain ⟨A0, c0, hb, hg, hr0⟩ := h
 rintro rfl
 rw [hb] at hb2
 injection hb2 with hb2
 injection hb2 with _ ht2
 exact ht ht2.symm
theorem IsS25.far {w0 W : World} {g : Nat} {f0 : List Int} {f1 : Int} {p : Addr} (h : IsS25 w0 W g f0 f1) (hne : g ≠ p.block) (u : Value) : IsS25 w0 (W.setCell p u) g f0 f1 := by
 obtain ⟨A0, c0, hb, hg, hr0⟩ := h
 exact ⟨A0, c0, blk_far hb hne u, hg, hr0⟩
theorem cellS25_0 {W : World} {g : Nat} {A0 : Option Addr} {c0 : Nat} {f0 : List Int} {f1 : Int} (h : W.heap[g]? = some (.cells #[.slice A0 f0.length c0, .int .i64 f1] 25 (0, 0))) : W.cell? ⟨g, 0, none⟩ = some (.slice A0 f0.length c0) := (blk_cell h 0).trans rfl
theorem cellS25_1 {W : World} {g : Nat} {A0 : Option Addr} {c0 : Nat} {f0 : List Int} {f1 : Int} (h : W.heap[g]? = some (.cells #[.slice A0 f0.length c0, .int .i64 f1] 25 (0, 0))) : W.cell? ⟨g, 1, none⟩ = some (.int .i64 f1) := (blk_cell h 1).trans rfl
theorem IsS25.set_1 {w0 W : World} {g : Nat} {f0 : List Int} {f1 : Int} (h : IsS25 w0 W g f0 f1) (x : Int) : IsS25 w0 (W.setCell ⟨g, 1, none⟩ (.int .i64 x)) g f0 x := by
 obtain ⟨A0, c0, hb, hg, hr0⟩ := h
 exact ⟨A0, c0, by simpa using blk_set hb 1 (.int .i64 x), hg, hr0⟩
theorem IsS25.new (w0 W : World) (A0 : Option Addr) (c0 : Nat) (f0 : List Int) (f1 : Int) (hB : Below w0.heap.size w0 W) (hr0 : Kd.C (Kd.int .i64) w0 A0 f0.length f0) : IsS25 w0 (W.alloc (.cells #[.slice A0 f0.length c0, .int .i64 f1] 25)) W.heap.size f0 f1 := ⟨A0, c0, by simpa using heap_alloc_new W _, hB.size, hr0⟩


def priceofficemake_Tape_Next.f (s0_0 : List Int) (s0_1 : Int) (a1 : Int) : Option (Int × Int) := if s0_1 < (s0_0.length : Int) then (if 0 ≤ s0_1 then (if (IntKind.u64.wrap (mx a1 1)) = 0 then (none) else (some (wrap64 (Int.tmod (IntKind.u64.wrap (rd s0_0 s0_1)) (IntKind.u64.wrap (mx a1 1))), wrap64 (s0_1 + 1)))) else (none)) else (if (IntKind.u64.wrap (mx a1 1)) = 0 then (none) else (some ((0 : Int), wrap64 (s0_1 + 1))))
set_option maxHeartbeats 8000000 in
set_option maxRecDepth 100000 in
theorem priceofficemake_Tape_Next.calls (g : Nat) (s0_0 : List Int) (s0_1 : Int) (a1 : Int) (r1 : Int) (r2 : Int) (w0 w : World) (hI : IsS25 w0 w g s0_0 s0_1) (hB : Below w0.heap.size w0 w) (h : priceofficemake_Tape_Next.f s0_0 s0_1 a1 = some (r1, r2)) :
  Calls Tryd.prog 18 #[.pointer (some ⟨g, 0, none⟩), .int .i64 a1] w fun e w' => e = .returned (.int .i64 r1) ∧ IsS25 w0 w' g s0_0 r2 ∧ Below w0.heap.size w0 w' ∧ KeepBut w w' g none := by
 have HI0 := mk0 hI
 have HK := mk0 (KeepBut.refl w g none)
 have HL := mk0 hB.size
 clear hI
 have HW0 := mk0 hB.size
 have HB := mk0 hB
 clear hB
 have H : (if s0_1 < (s0_0.length : Int) then (if 0 ≤ s0_1 then (if (IntKind.u64.wrap (mx a1 1)) = 0 then (none) else (some (wrap64 (Int.tmod (IntKind.u64.wrap (rd s0_0 s0_1)) (IntKind.u64.wrap (mx a1 1))), wrap64 (s0_1 + 1)))) else (none)) else (if (IntKind.u64.wrap (mx a1 1)) = 0 then (none) else (some ((0 : Int), wrap64 (s0_1 + 1))))) = some (r1, r2) := h
 clear h
 by_cases c3 : s0_1 < (s0_0.length : Int)
 ·rw [if_pos c3] at H
  have c3b0 : decide (s0_1 < (s0_0.length : Int)) = true := decide_eq_true c3
  clear c3
  by_cases c4 : 0 ≤ s0_1
  ·rw [if_pos c4] at H
   have c4b0 : decide (0 ≤ s0_1) = true := decide_eq_true c4
   clear c4
   obtain ⟨ji5, hji5⟩ : ∃ j_ : Int, (mx a1 1) = j_ := ⟨_, rfl⟩
   replace H : (if (IntKind.u64.wrap (ji5)) = 0 then (none) else (some (wrap64 (Int.tmod (IntKind.u64.wrap (rd s0_0 s0_1)) (IntKind.u64.wrap (ji5))), wrap64 (s0_1 + 1)))) = some (r1, r2) := by first | (rw [hji5] at H; exact H) | (simp only [hji5] at H ⊢; exact H)
   (try (have hji5l : 1 ≤ ji5 := by (rw [← hji5]; unfold mx; (repeat' split) <;> omega)))
   (try (have hji5m : 0 ≤ ji5 := by omega))
   have hji5_ : (if a1 < 1 then 1 else a1) = ji5 := hji5
   by_cases c6 : (IntKind.u64.wrap (ji5)) = 0
   ·rw [if_pos c6] at H
    exact absurd H (by simp)
   ·rw [if_neg c6] at H
    have c6b0 : ((IntKind.u64.wrap (ji5)) == 0) = false := beq_eq_false_iff_ne.mpr c6
    have c6b1 : ((IntKind.u64.wrap (ji5)) != 0) = true := bne_iff_ne.mpr c6
    simp only [Option.some.injEq, Prod.mk.injEq] at H
    obtain ⟨rfl, rfl⟩ := H
    obtain ⟨ASz7_0, cSz7_0, HGz7, hgz7, HSz7_0⟩ := HI0.out
    have hcz7_0 := cellS25_0 HGz7
    have hcz7_1 := cellS25_1 HGz7
    have hfz7_1 := blk_frozen HGz7 1
    clear HGz7 hgz7
    have p137 : 0 ≤ (s0_1 : Int) := of_decide_eq_true (by first | (with_reducible assumption) | assumption)
    have q137 : s0_1 < (s0_0.length : Int) := of_decide_eq_true (by first | (with_reducible assumption) | assumption)
    obtain ⟨ad137, e137, hx137_0⟩ := Kd.at_int HSz7_0 s0_1 p137 q137
    cases e137
    replace hx137_0 := pw_cell_below HB.out hx137_0
    replace p137 := eq_true p137
    replace q137 := eq_true q137
    go_enter Tryd.func18, Tryd.ntmps18
    go_wp2
    repeat (go_quiet (fail); try go_wp2)
    go_ret
    exact ⟨by first | rfl | (simp [errW_none, errW_some] <;> rfl) | (simp only [← hji5]; first | rfl | (simp [errW_none, errW_some] <;> rfl)) | (simp [*, errW_none, errW_some] <;> rfl), by repeat (first | (with_reducible first | exact HI0.out | apply IsS25.alloc | apply IsS25.drewN | apply IsS25.drew | apply IsS25.set_1) | exact HI0.out), by repeat (first | (with_reducible first | exact HB.out | apply b_a | apply b_n | apply b_d | refine below_set ?_ (IsS25.ge HI0.out)) | exact HB.out), by repeat (first | (with_reducible first | exact HK.out | apply KeepBut.set_ | apply keep_drewN | apply keep_drew | apply keep_alloc) | exact HK.out)⟩
  ·rw [if_neg c4] at H
   exact absurd H (by simp)
 ·rw [if_neg c3] at H
  have c3b0 : decide (s0_1 < (s0_0.length : Int)) = false := decide_eq_false c3
  clear c3
  obtain ⟨ji8, hji8⟩ : ∃ j_ : Int, (mx a1 1) = j_ := ⟨_, rfl⟩
  replace H : (if (IntKind.u64.wrap (ji8)) = 0 then (none) else (some ((0 : Int), wrap64 (s0_1 + 1)))) = some (r1, r2) := by first | (rw [hji8] at H; exact H) | (simp only [hji8] at H ⊢; exact H)
  (try (have hji8l : 1 ≤ ji8 := by (rw [← hji8]; unfold mx; (repeat' split) <;> omega)))
  (try (have hji8m : 0 ≤ ji8 := by omega))
  have hji8_ : (if a1 < 1 then 1 else a1) = ji8 := hji8
  by_cases c9 : (IntKind.u64.wrap (ji8)) = 0
  ·rw [if_pos c9] at H
   exact absurd H (by simp)
  ·rw [if_neg c9] at H
   have c9b0 : ((IntKind.u64.wrap (ji8)) == 0) = false := beq_eq_false_iff_ne.mpr c9
   have c9b1 : ((IntKind.u64.wrap (ji8)) != 0) = true := bne_iff_ne.mpr c9
   simp only [Option.some.injEq, Prod.mk.injEq] at H
   obtain ⟨rfl, rfl⟩ := H
   obtain ⟨ASz10_0, cSz10_0, HGz10, hgz10, HSz10_0⟩ := HI0.out
   have hcz10_0 := cellS25_0 HGz10
   have hcz10_1 := cellS25_1 HGz10
   have hfz10_1 := blk_frozen HGz10 1
   clear HGz10 hgz10
   go_enter Tryd.func18, Tryd.ntmps18
   go_wp2
   repeat (go_quiet (fail); try go_wp2)
   go_ret
   exact ⟨by first | rfl | (simp [errW_none, errW_some] <;> rfl) | (simp only [← hji8]; first | rfl | (simp [errW_none, errW_some] <;> rfl)) | (simp [*, errW_none, errW_some] <;> rfl), by repeat (first | (with_reducible first | exact HI0.out | apply IsS25.alloc | apply IsS25.drewN | apply IsS25.drew | apply IsS25.set_1) | exact HI0.out), by repeat (first | (with_reducible first | exact HB.out | apply b_a | apply b_n | apply b_d | refine below_set ?_ (IsS25.ge HI0.out)) | exact HB.out), by repeat (first | (with_reducible first | exact HK.out | apply KeepBut.set_ | apply keep_drewN | apply keep_drew | apply keep_alloc) | exact HK.out)⟩

/-! ### priceofficeref06_Format: function 29 -/
mutual
def priceofficeref06_Format.j0 : Nat → List Int → Bool → Option (ByteArray × Int)
 | 0, _, _ => none
 | k + 1, x0, x14 => if x14 = true then (some ((⟨#[]⟩ : ByteArray), 64)) else (priceofficeref06_Format.l0 k (⟨#[]⟩ : ByteArray) x0 (x0.length : Int) 0)
def priceofficeref06_Format.l0 : Nat → ByteArray → List Int → Int → Int → Option (ByteArray × Int)
 | 0, _, _, _, _ => none
 | k + 1, x4, x15, x16, x17 => if x17 < x16 then (if 0 ≤ x17 then (if x17 < (x15.length : Int) then (if (rd x15 x17) < 1 then (priceofficeref06_Format.j2 k x4 x17 (rd x15 x17) x15 x16 x17 true) else (priceofficeref06_Format.j2 k x4 x17 (rd x15 x17) x15 x16 x17 (decide ((rd x15 x17) > 99)))) else (none)) else (none)) else (some (x4, 0))
def priceofficeref06_Format.j2 : Nat → ByteArray → Int → Int → List Int → Int → Int → Bool → Option (ByteArray × Int)
 | 0, _, _, _, _, _, _, _ => none
 | k + 1, x4, x5, x6, x15, x16, x17, x27 => if x27 = true then (some ((⟨#[]⟩ : ByteArray), 64)) else (if x5 > 0 then (if x4.size + 1 ≤ 9223372036854775807 then (if x6 > 9 then ((some (([(wrap64 (48 + (wrap64 (Int.tdiv x6 10)))) % 256] : List Int) : List Int)).bind fun y163 => (if (x4 ++ (⟨#[46]⟩ : ByteArray)).size + (strOfNums y163).size ≤ 9223372036854775807 then ((some (([(wrap64 (48 + (Int.tmod x6 10))) % 256] : List Int) : List Int)).bind fun y166 => (if ((x4 ++ (⟨#[46]⟩ : ByteArray)) ++ (strOfNums y163)).size + (strOfNums y166).size ≤ 9223372036854775807 then (priceofficeref06_Format.l0 k (((x4 ++ (⟨#[46]⟩ : ByteArray)) ++ (strOfNums y163)) ++ (strOfNums y166)) x15 x16 (wrap64 (x17 + 1))) else (none))) else (none))) else (if x5 = 0 then ((some (([(wrap64 (48 + (wrap64 (Int.tdiv x6 10)))) % 256] : List Int) : List Int)).bind fun y169 => (if (x4 ++ (⟨#[46]⟩ : ByteArray)).size + (strOfNums y169).size ≤ 9223372036854775807 then ((some (([(wrap64 (48 + (Int.tmod x6 10))) % 256] : List Int) : List Int)).bind fun y172 => (if ((x4 ++ (⟨#[46]⟩ : ByteArray)) ++ (strOfNums y169)).size + (strOfNums y172).size ≤ 9223372036854775807 then (priceofficeref06_Format.l0 k (((x4 ++ (⟨#[46]⟩ : ByteArray)) ++ (strOfNums y169)) ++ (strOfNums y172)) x15 x16 (wrap64 (x17 + 1))) else (none))) else (none))) else ((some (([(wrap64 (48 + (Int.tmod x6 10))) % 256] : List Int) : List Int)).bind fun y175 => (if (x4 ++ (⟨#[46]⟩ : ByteArray)).size + (strOfNums y175).size ≤ 9223372036854775807 then (priceofficeref06_Format.l0 k ((x4 ++ (⟨#[46]⟩ : ByteArray)) ++ (strOfNums y175)) x15 x16 (wrap64 (x17 + 1))) else (none))))) else (none)) else (if x6 > 9 then ((some (([(wrap64 (48 + (wrap64 (Int.tdiv x6 10)))) % 256] : List Int) : List Int)).bind fun y178 => (if x4.size + (strOfNums y178).size ≤ 9223372036854775807 then ((some (([(wrap64 (48 + (Int.tmod x6 10))) % 256] : List Int) : List Int)).bind fun y181 => (if (x4 ++ (strOfNums y178)).size + (strOfNums y181).size ≤ 9223372036854775807 then (priceofficeref06_Format.l0 k ((x4 ++ (strOfNums y178)) ++ (strOfNums y181)) x15 x16 (wrap64 (x17 + 1))) else (none))) else (none))) else (if x5 = 0 then ((some (([(wrap64 (48 + (wrap64 (Int.tdiv x6 10)))) % 256] : List Int) : List Int)).bind fun y184 => (if x4.size + (strOfNums y184).size ≤ 9223372036854775807 then ((some (([(wrap64 (48 + (Int.tmod x6 10))) % 256] : List Int) : List Int)).bind fun y187 => (if (x4 ++ (strOfNums y184)).size + (strOfNums y187).size ≤ 9223372036854775807 then (priceofficeref06_Format.l0 k ((x4 ++ (strOfNums y184)) ++ (strOfNums y187)) x15 x16 (wrap64 (x17 + 1))) else (none))) else (none))) else ((some (([(wrap64 (48 + (Int.tmod x6 10))) % 256] : List Int) : List Int)).bind fun y190 => (if x4.size + (strOfNums y190).size ≤ 9223372036854775807 then (priceofficeref06_Format.l0 k (x4 ++ (strOfNums y190)) x15 x16 (wrap64 (x17 + 1))) else (none))))))
end
def priceofficeref06_Format.f (k : Nat) (l0 : List Int) : Option (ByteArray × Int) := if (l0.length : Int) < 1 then (priceofficeref06_Format.j0 k l0 true) else (priceofficeref06_Format.j0 k l0 (decide ((l0.length : Int) > 5)))
theorem priceofficeref06_Format.mono_l : ∀ k, (∀ y0 y1, LeO (priceofficeref06_Format.j0 k y0 y1) (priceofficeref06_Format.j0 (k + 1) y0 y1)) ∧ (∀ y0 y1 y2 y3, LeO (priceofficeref06_Format.l0 k y0 y1 y2 y3) (priceofficeref06_Format.l0 (k + 1) y0 y1 y2 y3)) ∧ (∀ y0 y1 y2 y3 y4 y5 y6, LeO (priceofficeref06_Format.j2 k y0 y1 y2 y3 y4 y5 y6) (priceofficeref06_Format.j2 (k + 1) y0 y1 y2 y3 y4 y5 y6))
 | 0 => ⟨fun _ _ r h => by simp [priceofficeref06_Format.j0] at h, fun _ _ _ _ r h => by simp [priceofficeref06_Format.l0] at h, fun _ _ _ _ _ _ _ r h => by simp [priceofficeref06_Format.j2] at h⟩
 | k + 1 => by
  obtain ⟨ih0, ih1, ih2⟩ := priceofficeref06_Format.mono_l k
  refine ⟨?_, ?_, ?_⟩
  ·intro y0 y1
   unfold priceofficeref06_Format.j0
   repeat' first
   | (with_reducible exact ih0 _ _)
   | (with_reducible exact ih1 _ _ _ _)
   | (with_reducible exact ih2 _ _ _ _ _ _ _)
   | (with_reducible exact LeO.refl _)
   | (with_reducible exact LeO.none _)
   | (with_reducible refine LeO.ite ?_ ?_)
   | (with_reducible refine LeO.bind ?_ (fun _ => ?_))
   | exact ih0 _ _
   | exact ih1 _ _ _ _
   | exact ih2 _ _ _ _ _ _ _
   | exact LeO.none _
   | refine LeO.ite ?_ ?_
   | refine LeO.bind ?_ (fun _ => ?_)
  ·intro y0 y1 y2 y3
   unfold priceofficeref06_Format.l0
   repeat' first
   | (with_reducible exact ih0 _ _)
   | (with_reducible exact ih1 _ _ _ _)
   | (with_reducible exact ih2 _ _ _ _ _ _ _)
   | (with_reducible exact LeO.refl _)
   | (with_reducible exact LeO.none _)
   | (with_reducible refine LeO.ite ?_ ?_)
   | (with_reducible refine LeO.bind ?_ (fun _ => ?_))
   | exact ih0 _ _
   | exact ih1 _ _ _ _
   | exact ih2 _ _ _ _ _ _ _
   | exact LeO.none _
   | refine LeO.ite ?_ ?_
   | refine LeO.bind ?_ (fun _ => ?_)
  ·intro y0 y1 y2 y3 y4 y5 y6
   unfold priceofficeref06_Format.j2
   repeat' first
   | (with_reducible exact ih0 _ _)
   | (with_reducible exact ih1 _ _ _ _)
   | (with_reducible exact ih2 _ _ _ _ _ _ _)
   | (with_reducible exact LeO.refl _)
   | (with_reducible exact LeO.none _)
   | (with_reducible refine LeO.ite ?_ ?_)
   | (with_reducible refine LeO.bind ?_ (fun _ => ?_))
   | exact ih0 _ _
   | exact ih1 _ _ _ _
   | exact ih2 _ _ _ _ _ _ _
   | exact LeO.none _
   | refine LeO.ite ?_ ?_
   | refine LeO.bind ?_ (fun _ => ?_)
theorem priceofficeref06_Format.mono : ∀ a0 k, LeO (priceofficeref06_Format.f k a0) (priceofficeref06_Format.f (k + 1) a0) := by
 intro a0 k
 obtain ⟨ih0, ih1, ih2⟩ := priceofficeref06_Format.mono_l k
 unfold priceofficeref06_Format.f
 repeat' first
   | (with_reducible exact ih0 _ _)
   | (with_reducible exact ih1 _ _ _ _)
   | (with_reducible exact ih2 _ _ _ _ _ _ _)
   | (with_reducible exact LeO.refl _)
   | (with_reducible exact LeO.none _)
   | (with_reducible refine LeO.ite ?_ ?_)
   | (with_reducible refine LeO.bind ?_ (fun _ => ?_))
   | exact ih0 _ _
   | exact ih1 _ _ _ _
   | exact ih2 _ _ _ _ _ _ _
   | exact LeO.none _
   | refine LeO.ite ?_ ?_
   | refine LeO.bind ?_ (fun _ => ?_)
set_option maxHeartbeats 8000000 in
set_option maxRecDepth 100000 in
theorem priceofficeref06_Format.calls (k : Nat) (A0 : Option Addr) (c0 : Nat) (l0 : List Int) (r1 : ByteArray) (r2 : Int) (w : World) (hr0 : Kd.C (Kd.int .i64) w A0 l0.length l0) (hc0 : l0.length ≤ c0) (h : priceofficeref06_Format.f k l0 = some (r1, r2)) :
  Calls Tryd.prog 29 #[.slice A0 l0.length c0] w fun e w' => e = .returned (.tuple #[.string r1, .int .i64 r2]) ∧ Below w.heap.size w w' := by
 have HR0 := mk0 hr0
 have HC0 := mk0 hc0
 clear hr0 hc0
 have HB := mk0 (Below.refl w.heap.size w)
 have H : (if (l0.length : Int) < 1 then (priceofficeref06_Format.j0 k l0 true) else (priceofficeref06_Format.j0 k l0 (decide ((l0.length : Int) > 5)))) = some (r1, r2) := h
 clear h
 have HC2 := mk0 H
 clear H
 go_enter Tryd.func29, Tryd.ntmps29
 go_upto_region 1 with (fail)
 go_cut [14] (fun v14 wc => ∃ (kq : Nat) (x14_41 : Bool), v14 = .bool x14_41 ∧ Aside0 (priceofficeref06_Format.j0 kq l0 x14_41 = some (r1, r2)) ∧ Aside0 (kq ≤ k) ∧ Aside0 (Below w.heap.size w wc))
 case first =>
  have H := HC2.out
  clear HC2
  by_cases c3 : (l0.length : Int) < 1
  ·rw [if_pos c3] at H
   have c3b0 : decide ((l0.length : Int) < 1) = true := decide_eq_true c3
   have c3b1 : decide (l0.length < 1) = true := decide_eq_true (by omega)
   clear c3
   (first | rw [c3b0] | (simp only [i64_w, i32_w]; rw [c3b0]) | skip)
   have H' := mk0 H
   clear H
   go_wp2
   go_meet
   case rel => exact ⟨_, (true), (by first | rfl | (simp; done) | (simp [*]; done)), H', ⟨by first | omega | exact Nat.le_refl _⟩, ⟨by repeat (first | (with_reducible first | exact HB.out | apply b_a | apply b_n | apply b_d) | exact HB.out)⟩⟩
  ·rw [if_neg c3] at H
   have c3b0 : decide ((l0.length : Int) < 1) = false := decide_eq_false c3
   have c3b1 : decide (l0.length < 1) = false := decide_eq_false (by omega)
   clear c3
   (first | rw [c3b0] | (simp only [i64_w, i32_w]; rw [c3b0]) | skip)
   have H' := mk0 H
   clear H
   go_wp2
   go_meet
   case rel => exact ⟨_, (decide ((l0.length : Int) > 5)), (by first | rfl | (simp; done) | (simp [*]; done)), H', ⟨by first | omega | exact Nat.le_refl _⟩, ⟨by repeat (first | (with_reducible first | exact HB.out | apply b_a | apply b_n | apply b_d) | exact HB.out)⟩⟩
 case rest =>
  clear HC2
  try clear c2
  try clear p2
  try clear c3
  try clear c3b0
  try clear c3b1
  obtain ⟨kq, x14_41, rfl, HA, HJ41, HB⟩ := hcut
  cases kq with
  | zero => exact absurd HA.out (by simp [priceofficeref06_Format.j0])
  | succ kj41 =>
   have H := HA.out
   clear HA
   simp only [priceofficeref06_Format.j0] at H
   by_cases c4 : x14_41 = true
   ·subst c4
    have H1 : (some ((⟨#[]⟩ : ByteArray), 64)) = some (r1, r2) := by rw [if_pos rfl] at H; exact H
    clear H
    have H := H1
    clear H1
    simp only [Option.some.injEq, Prod.mk.injEq] at H
    obtain ⟨rfl, rfl⟩ := H
    go_wp2
    go_ret2
    exact ⟨by first | rfl | (simp [errW_none, errW_some] <;> rfl) | (simp [*, errW_none, errW_some] <;> rfl), by repeat (first | (with_reducible first | exact HB.out | apply b_a | apply b_n | apply b_d) | exact HB.out)⟩
   ·replace c4 := Bool.eq_false_iff.mpr c4
    subst c4
    have H1 : (priceofficeref06_Format.l0 kj41 (⟨#[]⟩ : ByteArray) l0 (l0.length : Int) 0) = some (r1, r2) := by rw [if_neg (show ¬ (false = true) by decide)] at H; exact H
    clear H
    have H := H1
    clear H1
    have H' := mk0 H
    clear H
    go_wp2
    go_loopg [4, 17] kj41 (fun kq v4 v17 w' => ∃ (x4_2 : ByteArray) (x17_2 : Int), v4 = .string x4_2 ∧ v17 = .int .i64 x17_2 ∧ Aside0 (priceofficeref06_Format.l0 kq x4_2 l0 (l0.length : Int) x17_2 = some (r1, r2)) ∧ Aside0 (kq ≤ kj41) ∧ Aside0 (Below w.heap.size w w'))
    case atStart => exact ⟨((⟨#[]⟩ : ByteArray)), (0), (by first | rfl | (simp; done) | (simp [*]; done)), (by first | rfl | (simp; done) | (simp [*]; done)), H', ⟨Nat.le_refl _⟩, ⟨by repeat (first | (with_reducible first | exact HB.out | apply b_a | apply b_n | apply b_d) | exact HB.out)⟩⟩
    case round =>
     clear H'
     try clear c2
     try clear p2
     try clear c3
     try clear c3b0
     try clear c3b1
     try clear c4
     try clear p2
     obtain ⟨x4_2, x17_2, rfl, rfl, HA, HK2, HB⟩ := hrel
     cases gk with
     | zero => exact absurd HA.out (by simp [priceofficeref06_Format.l0])
     | succ k2 =>
      have H := HA.out
      clear HA
      simp only [priceofficeref06_Format.l0] at H
      by_cases c5 : x17_2 < (l0.length : Int)
      ·rw [if_pos c5] at H
       have c5b0 : decide (x17_2 < (l0.length : Int)) = true := decide_eq_true c5
       clear c5
       by_cases c6 : 0 ≤ x17_2
       ·rw [if_pos c6] at H
        have c6b0 : decide (0 ≤ x17_2) = true := decide_eq_true c6
        clear c6
        by_cases c7 : x17_2 < (l0.length : Int)
        ·rw [if_pos c7] at H
         have c7b0 : decide (x17_2 < (l0.length : Int)) = true := decide_eq_true c7
         clear c7
         have HC8 := mk0 H
         clear H
         have p162 : 0 ≤ (x17_2 : Int) := of_decide_eq_true (by first | (with_reducible assumption) | assumption)
         have q162 : x17_2 < (l0.length : Int) := of_decide_eq_true (by first | (with_reducible assumption) | assumption)
         obtain ⟨ad162, e162, hx162_0⟩ := Kd.at_int HR0.out x17_2 p162 q162
         cases e162
         replace hx162_0 := (HB.out.cell (World.block_lt_of_cell? w _ hx162_0)).trans hx162_0
         replace p162 := eq_true p162
         replace q162 := eq_true q162
         go_upto_region 7 with (fail)
         go_cut [27] (fun v27 wc => ∃ (kq : Nat) (x27_47 : Bool), v27 = .bool x27_47 ∧ Aside0 (priceofficeref06_Format.j2 kq x4_2 x17_2 (rd l0 x17_2) l0 (l0.length : Int) x17_2 x27_47 = some (r1, r2)) ∧ Aside0 (kq ≤ k2) ∧ Aside0 (Below w.heap.size w wc))
         case first =>
          have H := HC8.out
          clear HC8
          by_cases c9 : (rd l0 x17_2) < 1
          ·rw [if_pos c9] at H
           have c9b0 : decide ((rd l0 x17_2) < 1) = true := decide_eq_true c9
           clear c9
           (first | rw [c9b0] | (simp only [i64_w, i32_w]; rw [c9b0]) | skip)
           have H' := mk0 H
           clear H
           go_wp2
           go_meet
           case rel => exact ⟨_, (true), (by first | rfl | (simp; done) | (simp [*]; done)), H', ⟨by have := HJ41.out; have := HK2.out; first | omega | exact Nat.le_refl _⟩, ⟨by repeat (first | (with_reducible first | exact HB.out | apply b_a | apply b_n | apply b_d) | exact HB.out)⟩⟩
          ·rw [if_neg c9] at H
           have c9b0 : decide ((rd l0 x17_2) < 1) = false := decide_eq_false c9
           clear c9
           (first | rw [c9b0] | (simp only [i64_w, i32_w]; rw [c9b0]) | skip)
           have H' := mk0 H
           clear H
           go_wp2
           go_meet
           case rel => exact ⟨_, (decide ((rd l0 x17_2) > 99)), (by first | rfl | (simp; done) | (simp [*]; done)), H', ⟨by have := HJ41.out; have := HK2.out; first | omega | exact Nat.le_refl _⟩, ⟨by repeat (first | (with_reducible first | exact HB.out | apply b_a | apply b_n | apply b_d) | exact HB.out)⟩⟩
         case rest =>
          clear HC8
          try clear p1
          try clear q1
          try clear hx1
          try clear c2
          try clear p2
          try clear c3
          try clear c3b0
          try clear c3b1
          try clear c4
          try clear c5
          try clear c5b0
          try clear c6
          try clear c6b0
          try clear c7
          try clear c7b0
          try clear c9
          try clear c9b0
          try clear hx162_0
          try clear p162
          try clear p2
          try clear q162
          obtain ⟨kq, x27_47, rfl, HA, HJ47, HB⟩ := hcut
          cases kq with
          | zero => exact absurd HA.out (by simp [priceofficeref06_Format.j2])
          | succ kj47 =>
           have H := HA.out
           clear HA
           simp only [priceofficeref06_Format.j2] at H
           by_cases c10 : x27_47 = true
           ·subst c10
            have H1 : (some ((⟨#[]⟩ : ByteArray), 64)) = some (r1, r2) := by rw [if_pos rfl] at H; exact H
            clear H
            have H := H1
            clear H1
            simp only [Option.some.injEq, Prod.mk.injEq] at H
            obtain ⟨rfl, rfl⟩ := H
            go_wp2
            go_ret2
            exact ⟨by first | rfl | (simp [errW_none, errW_some] <;> rfl) | (simp [*, errW_none, errW_some] <;> rfl), by repeat (first | (with_reducible first | exact HB.out | apply b_a | apply b_n | apply b_d) | exact HB.out)⟩
           ·replace c10 := Bool.eq_false_iff.mpr c10
            subst c10
            have H1 : (if x17_2 > 0 then (if x4_2.size + 1 ≤ 9223372036854775807 then (if (rd l0 x17_2) > 9 then ((some (([(wrap64 (48 + (wrap64 (Int.tdiv (rd l0 x17_2) 10)))) % 256] : List Int) : List Int)).bind fun y163 => (if (x4_2 ++ (⟨#[46]⟩ : ByteArray)).size + (strOfNums y163).size ≤ 9223372036854775807 then ((some (([(wrap64 (48 + (Int.tmod (rd l0 x17_2) 10))) % 256] : List Int) : List Int)).bind fun y166 => (if ((x4_2 ++ (⟨#[46]⟩ : ByteArray)) ++ (strOfNums y163)).size + (strOfNums y166).size ≤ 9223372036854775807 then (priceofficeref06_Format.l0 kj47 (((x4_2 ++ (⟨#[46]⟩ : ByteArray)) ++ (strOfNums y163)) ++ (strOfNums y166)) l0 (l0.length : Int) (wrap64 (x17_2 + 1))) else (none))) else (none))) else (if x17_2 = 0 then ((some (([(wrap64 (48 + (wrap64 (Int.tdiv (rd l0 x17_2) 10)))) % 256] : List Int) : List Int)).bind fun y169 => (if (x4_2 ++ (⟨#[46]⟩ : ByteArray)).size + (strOfNums y169).size ≤ 9223372036854775807 then ((some (([(wrap64 (48 + (Int.tmod (rd l0 x17_2) 10))) % 256] : List Int) : List Int)).bind fun y172 => (if ((x4_2 ++ (⟨#[46]⟩ : ByteArray)) ++ (strOfNums y169)).size + (strOfNums y172).size ≤ 9223372036854775807 then (priceofficeref06_Format.l0 kj47 (((x4_2 ++ (⟨#[46]⟩ : ByteArray)) ++ (strOfNums y169)) ++ (strOfNums y172)) l0 (l0.length : Int) (wrap64 (x17_2 + 1))) else (none))) else (none))) else ((some (([(wrap64 (48 + (Int.tmod (rd l0 x17_2) 10))) % 256] : List Int) : List Int)).bind fun y175 => (if (x4_2 ++ (⟨#[46]⟩ : ByteArray)).size + (strOfNums y175).size ≤ 9223372036854775807 then (priceofficeref06_Format.l0 kj47 ((x4_2 ++ (⟨#[46]⟩ : ByteArray)) ++ (strOfNums y175)) l0 (l0.length : Int) (wrap64 (x17_2 + 1))) else (none))))) else (none)) else (if (rd l0 x17_2) > 9 then ((some (([(wrap64 (48 + (wrap64 (Int.tdiv (rd l0 x17_2) 10)))) % 256] : List Int) : List Int)).bind fun y178 => (if x4_2.size + (strOfNums y178).size ≤ 9223372036854775807 then ((some (([(wrap64 (48 + (Int.tmod (rd l0 x17_2) 10))) % 256] : List Int) : List Int)).bind fun y181 => (if (x4_2 ++ (strOfNums y178)).size + (strOfNums y181).size ≤ 9223372036854775807 then (priceofficeref06_Format.l0 kj47 ((x4_2 ++ (strOfNums y178)) ++ (strOfNums y181)) l0 (l0.length : Int) (wrap64 (x17_2 + 1))) else (none))) else (none))) else (if x17_2 = 0 then ((some (([(wrap64 (48 + (wrap64 (Int.tdiv (rd l0 x17_2) 10)))) % 256] : List Int) : List Int)).bind fun y184 => (if x4_2.size + (strOfNums y184).size ≤ 9223372036854775807 then ((some (([(wrap64 (48 + (Int.tmod (rd l0 x17_2) 10))) % 256] : List Int) : List Int)).bind fun y187 => (if (x4_2 ++ (strOfNums y184)).size + (strOfNums y187).size ≤ 9223372036854775807 then (priceofficeref06_Format.l0 kj47 ((x4_2 ++ (strOfNums y184)) ++ (strOfNums y187)) l0 (l0.length : Int) (wrap64 (x17_2 + 1))) else (none))) else (none))) else ((some (([(wrap64 (48 + (Int.tmod (rd l0 x17_2) 10))) % 256] : List Int) : List Int)).bind fun y190 => (if x4_2.size + (strOfNums y190).size ≤ 9223372036854775807 then (priceofficeref06_Format.l0 kj47 (x4_2 ++ (strOfNums y190)) l0 (l0.length : Int) (wrap64 (x17_2 + 1))) else (none)))))) = some (r1, r2) := by rw [if_neg (show ¬ (false = true) by decide)] at H; exact H
            clear H
            have H := H1
            clear H1
            by_cases c11 : x17_2 > 0
            ·rw [if_pos c11] at H
             have c11b0 : decide (0 < x17_2) = true := decide_eq_true c11
             clear c11
             by_cases c12 : x4_2.size + 1 ≤ 9223372036854775807
             ·rw [if_pos c12] at H
              have c12b0 := eq_true c12
              have c12b1 : decide (x4_2.size + 1 ≤ 9223372036854775807) = true := decide_eq_true c12
              try have c12b2 : (9223372036854775807 < x4_2.size + 1) = False := eq_false (Nat.not_lt.2 c12)
              by_cases c13 : (rd l0 x17_2) > 9
              ·rw [if_pos c13] at H
               have c13b0 : decide (9 < (rd l0 x17_2)) = true := decide_eq_true c13
               clear c13
               obtain ⟨y163, hy163⟩ : ∃ y_ : List Int, y_ = (([(wrap64 (48 + (wrap64 (Int.tdiv (rd l0 x17_2) 10)))) % 256] : List Int)) := ⟨_, rfl⟩
               replace H : (if (x4_2 ++ (⟨#[46]⟩ : ByteArray)).size + (strOfNums y163).size ≤ 9223372036854775807 then ((some (([(wrap64 (48 + (Int.tmod (rd l0 x17_2) 10))) % 256] : List Int) : List Int)).bind fun y166 => (if ((x4_2 ++ (⟨#[46]⟩ : ByteArray)) ++ (strOfNums y163)).size + (strOfNums y166).size ≤ 9223372036854775807 then (priceofficeref06_Format.l0 kj47 (((x4_2 ++ (⟨#[46]⟩ : ByteArray)) ++ (strOfNums y163)) ++ (strOfNums y166)) l0 (l0.length : Int) (wrap64 (x17_2 + 1))) else (none))) else (none)) = some (r1, r2) := by first | (rw [hy163]; with_reducible exact H) | (have H2_ := (Option.bind_some _ _).symm.trans H; rw [hy163]; with_reducible exact H2_) | (have H2_ := (Option.bind_some _ _).symm.trans H; with_reducible exact H2_) | with_reducible exact H | (rw [hy163]; exact H) | exact H
               have Ny163 := mk0 hy163
               clear hy163
               by_cases c14 : (x4_2 ++ (⟨#[46]⟩ : ByteArray)).size + (strOfNums y163).size ≤ 9223372036854775807
               ·rw [if_pos c14] at H
                have c14b0 := eq_true c14
                have c14b1 : decide ((x4_2 ++ (⟨#[46]⟩ : ByteArray)).size + (strOfNums y163).size ≤ 9223372036854775807) = true := decide_eq_true c14
                try have c14b2 : (9223372036854775807 < (x4_2 ++ (⟨#[46]⟩ : ByteArray)).size + (strOfNums y163).size) = False := eq_false (Nat.not_lt.2 c14)
                obtain ⟨y166, hy166⟩ : ∃ y_ : List Int, y_ = (([(wrap64 (48 + (Int.tmod (rd l0 x17_2) 10))) % 256] : List Int)) := ⟨_, rfl⟩
                replace H : (if ((x4_2 ++ (⟨#[46]⟩ : ByteArray)) ++ (strOfNums y163)).size + (strOfNums y166).size ≤ 9223372036854775807 then (priceofficeref06_Format.l0 kj47 (((x4_2 ++ (⟨#[46]⟩ : ByteArray)) ++ (strOfNums y163)) ++ (strOfNums y166)) l0 (l0.length : Int) (wrap64 (x17_2 + 1))) else (none)) = some (r1, r2) := by first | (rw [hy166]; with_reducible exact H) | (have H2_ := (Option.bind_some _ _).symm.trans H; rw [hy166]; with_reducible exact H2_) | (have H2_ := (Option.bind_some _ _).symm.trans H; with_reducible exact H2_) | with_reducible exact H | (rw [hy166]; exact H) | exact H
                have Ny166 := mk0 hy166
                clear hy166
                by_cases c15 : ((x4_2 ++ (⟨#[46]⟩ : ByteArray)) ++ (strOfNums y163)).size + (strOfNums y166).size ≤ 9223372036854775807
                ·rw [if_pos c15] at H
                 have c15b0 := eq_true c15
                 have c15b1 : decide (((x4_2 ++ (⟨#[46]⟩ : ByteArray)) ++ (strOfNums y163)).size + (strOfNums y166).size ≤ 9223372036854775807) = true := decide_eq_true c15
                 try have c15b2 : (9223372036854775807 < ((x4_2 ++ (⟨#[46]⟩ : ByteArray)) ++ (strOfNums y163)).size + (strOfNums y166).size) = False := eq_false (Nat.not_lt.2 c15)
                 have H' := mk0 H
                 clear H
                 go_wp2_with (first | ((with_reducible refine gate_dst (N := 43) rfl ?_); refine Kd.R_lit (Kd.int .u8) _ 5 ?hg (N := 43) ?hd (xs := ([(wrap64 (48 + (wrap64 (Int.tdiv (rd l0 x17_2) 10)))) % 256] : List Int)) (inner := [.int .u8 ((wrap64 (48 + (wrap64 (Int.tdiv (rd l0 x17_2) 10)))) % 256)]) (ok := fun _ => True) (okp := fun _ => True) ?hr ?hp (fun _ hk => hk) trivial (Below.refl _ _) (Nat.le_refl _) (by simp) ?_; (case hd => rfl); (case hg => rfl); (case hr => first | (go_simp; done) | (go_simp; rfl)); (case hp => exact (Reps.one (show Kd.M (Kd.int .u8) _ _ _ ((wrap64 (48 + (wrap64 (Int.tdiv (rd l0 x17_2) 10)))) % 256) [.int .u8 ((wrap64 (48 + (wrap64 (Int.tdiv (rd l0 x17_2) 10)))) % 256)] from rfl) (Reps.none _ _))); intro v164 w16 ho17 hb hg_ hnew_; clear hg_ hnew_; (first | rw [← Ny163.out] at ho17 | (simp only [Int.reduceToNat] at ho17; rw [← Ny163.out] at ho17)); have n0_ := mk0 (Kd.R_lower ho17 (below_size (by repeat (first | (with_reducible first | exact HB.out | apply b_a | apply b_n | apply b_d) | exact HB.out)))); have n1_ := mk0 (below_step (by repeat (first | (with_reducible first | exact HB.out | apply b_a | apply b_n | apply b_d) | exact HB.out)) hb); clear HB; have HO165 := n0_; have HB := n1_; clear n0_ n1_; clear hb ho17; have hcv18 := own_string (P := Tryd.prog) Tryd.underlying73 Tryd.underlying5 Tryd.underlying9 (Kd.own_of_R HO165.out)) | ((with_reducible refine gate_dst (N := 51) rfl ?_); refine Kd.R_lit (Kd.int .u8) _ 5 ?hg (N := 51) ?hd (xs := ([(wrap64 (48 + (Int.tmod (rd l0 x17_2) 10))) % 256] : List Int)) (inner := [.int .u8 ((wrap64 (48 + (Int.tmod (rd l0 x17_2) 10))) % 256)]) (ok := fun _ => True) (okp := fun _ => True) ?hr ?hp (fun _ hk => hk) trivial (Below.refl _ _) (Nat.le_refl _) (by simp) ?_; (case hd => rfl); (case hg => rfl); (case hr => first | (go_simp; done) | (go_simp; rfl)); (case hp => exact (Reps.one (show Kd.M (Kd.int .u8) _ _ _ ((wrap64 (48 + (Int.tmod (rd l0 x17_2) 10))) % 256) [.int .u8 ((wrap64 (48 + (Int.tmod (rd l0 x17_2) 10))) % 256)] from rfl) (Reps.none _ _))); intro v167 w19 ho20 hb hg_ hnew_; clear hg_ hnew_; (first | rw [← Ny166.out] at ho20 | (simp only [Int.reduceToNat] at ho20; rw [← Ny166.out] at ho20)); have n0_ := mk0 (Kd.R_elder' (by (with_reducible repeat (first | apply r_a | apply r_n | apply r_d)); exact HO165.out) (Kd.R_base ho20) hb); have n1_ := mk0 (Kd.R_lower (Kd.R_new' ho20 (Kd.R_lt (by (with_reducible repeat (first | apply r_a | apply r_n | apply r_d)); exact HO165.out))) (below_size (by repeat (first | (with_reducible first | exact HB.out | apply b_a | apply b_n | apply b_d) | exact HB.out)))); have n2_ := mk0 (below_step (by repeat (first | (with_reducible first | exact HB.out | apply b_a | apply b_n | apply b_d) | exact HB.out)) hb); clear HO165; clear HB; have HO165 := n0_; have HO168 := n1_; have HB := n2_; clear n0_ n1_ n2_; clear hb ho20; have hcv21 := own_string (P := Tryd.prog) Tryd.underlying73 Tryd.underlying5 Tryd.underlying9 (Kd.own_of_R HO168.out)))
                 go_roundg kj47
                 case measure => have := HJ41.out; have := HK2.out; have := HJ47.out; omega
                 case rel => exact ⟨(((x4_2 ++ (⟨#[46]⟩ : ByteArray)) ++ (strOfNums y163)) ++ (strOfNums y166)), (wrap64 (x17_2 + 1)), (by first | rfl | (simp; done) | (simp [*]; done)), (by first | rfl | (simp; done) | (simp [*]; done)), H', ⟨by have := HJ41.out; have := HK2.out; have := HJ47.out; omega⟩, ⟨by repeat (first | (with_reducible first | exact HB.out | apply b_a | apply b_n | apply b_d) | exact HB.out)⟩⟩
                ·rw [if_neg c15] at H
                 exact absurd H (by simp)
               ·rw [if_neg c14] at H
                exact absurd H (by simp)
              ·rw [if_neg c13] at H
               have c13b0 : decide (9 < (rd l0 x17_2)) = false := decide_eq_false c13
               clear c13
               by_cases c22 : x17_2 = 0
               ·rw [if_pos c22] at H
                have c22b0 : (x17_2 == 0) = true := beq_iff_eq.mpr c22
                have c22b1 : (x17_2 != 0) = false := bne_eq_false_iff_eq.mpr c22
                clear c22
                obtain ⟨y169, hy169⟩ : ∃ y_ : List Int, y_ = (([(wrap64 (48 + (wrap64 (Int.tdiv (rd l0 x17_2) 10)))) % 256] : List Int)) := ⟨_, rfl⟩
                replace H : (if (x4_2 ++ (⟨#[46]⟩ : ByteArray)).size + (strOfNums y169).size ≤ 9223372036854775807 then ((some (([(wrap64 (48 + (Int.tmod (rd l0 x17_2) 10))) % 256] : List Int) : List Int)).bind fun y172 => (if ((x4_2 ++ (⟨#[46]⟩ : ByteArray)) ++ (strOfNums y169)).size + (strOfNums y172).size ≤ 9223372036854775807 then (priceofficeref06_Format.l0 kj47 (((x4_2 ++ (⟨#[46]⟩ : ByteArray)) ++ (strOfNums y169)) ++ (strOfNums y172)) l0 (l0.length : Int) (wrap64 (x17_2 + 1))) else (none))) else (none)) = some (r1, r2) := by first | (rw [hy169]; with_reducible exact H) | (have H2_ := (Option.bind_some _ _).symm.trans H; rw [hy169]; with_reducible exact H2_) | (have H2_ := (Option.bind_some _ _).symm.trans H; with_reducible exact H2_) | with_reducible exact H | (rw [hy169]; exact H) | exact H
                have Ny169 := mk0 hy169
                clear hy169
                by_cases c23 : (x4_2 ++ (⟨#[46]⟩ : ByteArray)).size + (strOfNums y169).size ≤ 9223372036854775807
                ·rw [if_pos c23] at H
                 have c23b0 := eq_true c23
                 have c23b1 : decide ((x4_2 ++ (⟨#[46]⟩ : ByteArray)).size + (strOfNums y169).size ≤ 9223372036854775807) = true := decide_eq_true c23
                 try have c23b2 : (9223372036854775807 < (x4_2 ++ (⟨#[46]⟩ : ByteArray)).size + (strOfNums y169).size) = False := eq_false (Nat.not_lt.2 c23)
                 obtain ⟨y172, hy172⟩ : ∃ y_ : List Int, y_ = (([(wrap64 (48 + (Int.tmod (rd l0 x17_2) 10))) % 256] : List Int)) := ⟨_, rfl⟩
                 replace H : (if ((x4_2 ++ (⟨#[46]⟩ : ByteArray)) ++ (strOfNums y169)).size + (strOfNums y172).size ≤ 9223372036854775807 then (priceofficeref06_Format.l0 kj47 (((x4_2 ++ (⟨#[46]⟩ : ByteArray)) ++ (strOfNums y169)) ++ (strOfNums y172)) l0 (l0.length : Int) (wrap64 (x17_2 + 1))) else (none)) = some (r1, r2) := by first | (rw [hy172]; with_reducible exact H) | (have H2_ := (Option.bind_some _ _).symm.trans H; rw [hy172]; with_reducible exact H2_) | (have H2_ := (Option.bind_some _ _).symm.trans H; with_reducible exact H2_) | with_reducible exact H | (rw [hy172]; exact H) | exact H
                 have Ny172 := mk0 hy172
                 clear hy172
                 by_cases c24 : ((x4_2 ++ (⟨#[46]⟩ : ByteArray)) ++ (strOfNums y169)).size + (strOfNums y172).size ≤ 9223372036854775807
                 ·rw [if_pos c24] at H
                  have c24b0 := eq_true c24
                  have c24b1 : decide (((x4_2 ++ (⟨#[46]⟩ : ByteArray)) ++ (strOfNums y169)).size + (strOfNums y172).size ≤ 9223372036854775807) = true := decide_eq_true c24
                  try have c24b2 : (9223372036854775807 < ((x4_2 ++ (⟨#[46]⟩ : ByteArray)) ++ (strOfNums y169)).size + (strOfNums y172).size) = False := eq_false (Nat.not_lt.2 c24)
                  have H' := mk0 H
                  clear H
                  go_wp2_with (first | ((with_reducible refine gate_dst (N := 43) rfl ?_); refine Kd.R_lit (Kd.int .u8) _ 5 ?hg (N := 43) ?hd (xs := ([(wrap64 (48 + (wrap64 (Int.tdiv (rd l0 x17_2) 10)))) % 256] : List Int)) (inner := [.int .u8 ((wrap64 (48 + (wrap64 (Int.tdiv (rd l0 x17_2) 10)))) % 256)]) (ok := fun _ => True) (okp := fun _ => True) ?hr ?hp (fun _ hk => hk) trivial (Below.refl _ _) (Nat.le_refl _) (by simp) ?_; (case hd => rfl); (case hg => rfl); (case hr => first | (go_simp; done) | (go_simp; rfl)); (case hp => exact (Reps.one (show Kd.M (Kd.int .u8) _ _ _ ((wrap64 (48 + (wrap64 (Int.tdiv (rd l0 x17_2) 10)))) % 256) [.int .u8 ((wrap64 (48 + (wrap64 (Int.tdiv (rd l0 x17_2) 10)))) % 256)] from rfl) (Reps.none _ _))); intro v170 w25 ho26 hb hg_ hnew_; clear hg_ hnew_; (first | rw [← Ny169.out] at ho26 | (simp only [Int.reduceToNat] at ho26; rw [← Ny169.out] at ho26)); have n0_ := mk0 (Kd.R_lower ho26 (below_size (by repeat (first | (with_reducible first | exact HB.out | apply b_a | apply b_n | apply b_d) | exact HB.out)))); have n1_ := mk0 (below_step (by repeat (first | (with_reducible first | exact HB.out | apply b_a | apply b_n | apply b_d) | exact HB.out)) hb); clear HB; have HO171 := n0_; have HB := n1_; clear n0_ n1_; clear hb ho26; have hcv27 := own_string (P := Tryd.prog) Tryd.underlying73 Tryd.underlying5 Tryd.underlying9 (Kd.own_of_R HO171.out)) | ((with_reducible refine gate_dst (N := 51) rfl ?_); refine Kd.R_lit (Kd.int .u8) _ 5 ?hg (N := 51) ?hd (xs := ([(wrap64 (48 + (Int.tmod (rd l0 x17_2) 10))) % 256] : List Int)) (inner := [.int .u8 ((wrap64 (48 + (Int.tmod (rd l0 x17_2) 10))) % 256)]) (ok := fun _ => True) (okp := fun _ => True) ?hr ?hp (fun _ hk => hk) trivial (Below.refl _ _) (Nat.le_refl _) (by simp) ?_; (case hd => rfl); (case hg => rfl); (case hr => first | (go_simp; done) | (go_simp; rfl)); (case hp => exact (Reps.one (show Kd.M (Kd.int .u8) _ _ _ ((wrap64 (48 + (Int.tmod (rd l0 x17_2) 10))) % 256) [.int .u8 ((wrap64 (48 + (Int.tmod (rd l0 x17_2) 10))) % 256)] from rfl) (Reps.none _ _))); intro v173 w28 ho29 hb hg_ hnew_; clear hg_ hnew_; (first | rw [← Ny172.out] at ho29 | (simp only [Int.reduceToNat] at ho29; rw [← Ny172.out] at ho29)); have n0_ := mk0 (Kd.R_elder' (by (with_reducible repeat (first | apply r_a | apply r_n | apply r_d)); exact HO171.out) (Kd.R_base ho29) hb); have n1_ := mk0 (Kd.R_lower (Kd.R_new' ho29 (Kd.R_lt (by (with_reducible repeat (first | apply r_a | apply r_n | apply r_d)); exact HO171.out))) (below_size (by repeat (first | (with_reducible first | exact HB.out | apply b_a | apply b_n | apply b_d) | exact HB.out)))); have n2_ := mk0 (below_step (by repeat (first | (with_reducible first | exact HB.out | apply b_a | apply b_n | apply b_d) | exact HB.out)) hb); clear HO171; clear HB; have HO171 := n0_; have HO174 := n1_; have HB := n2_; clear n0_ n1_ n2_; clear hb ho29; have hcv30 := own_string (P := Tryd.prog) Tryd.underlying73 Tryd.underlying5 Tryd.underlying9 (Kd.own_of_R HO174.out)))
                  go_roundg kj47
                  case measure => have := HJ41.out; have := HK2.out; have := HJ47.out; omega
                  case rel => exact ⟨(((x4_2 ++ (⟨#[46]⟩ : ByteArray)) ++ (strOfNums y169)) ++ (strOfNums y172)), (wrap64 (x17_2 + 1)), (by first | rfl | (simp; done) | (simp [*]; done)), (by first | rfl | (simp; done) | (simp [*]; done)), H', ⟨by have := HJ41.out; have := HK2.out; have := HJ47.out; omega⟩, ⟨by repeat (first | (with_reducible first | exact HB.out | apply b_a | apply b_n | apply b_d) | exact HB.out)⟩⟩
                 ·rw [if_neg c24] at H
                  exact absurd H (by simp)
                ·rw [if_neg c23] at H
                 exact absurd H (by simp)
               ·rw [if_neg c22] at H
                have c22b0 : (x17_2 == 0) = false := beq_eq_false_iff_ne.mpr c22
                have c22b1 : (x17_2 != 0) = true := bne_iff_ne.mpr c22
                obtain ⟨y175, hy175⟩ : ∃ y_ : List Int, y_ = (([(wrap64 (48 + (Int.tmod (rd l0 x17_2) 10))) % 256] : List Int)) := ⟨_, rfl⟩
                replace H : (if (x4_2 ++ (⟨#[46]⟩ : ByteArray)).size + (strOfNums y175).size ≤ 9223372036854775807 then (priceofficeref06_Format.l0 kj47 ((x4_2 ++ (⟨#[46]⟩ : ByteArray)) ++ (strOfNums y175)) l0 (l0.length : Int) (wrap64 (x17_2 + 1))) else (none)) = some (r1, r2) := by first | (rw [hy175]; with_reducible exact H) | (have H2_ := (Option.bind_some _ _).symm.trans H; rw [hy175]; with_reducible exact H2_) | (have H2_ := (Option.bind_some _ _).symm.trans H; with_reducible exact H2_) | with_reducible exact H | (rw [hy175]; exact H) | exact H
                have Ny175 := mk0 hy175
                clear hy175
                by_cases c31 : (x4_2 ++ (⟨#[46]⟩ : ByteArray)).size + (strOfNums y175).size ≤ 9223372036854775807
                ·rw [if_pos c31] at H
                 have c31b0 := eq_true c31
                 have c31b1 : decide ((x4_2 ++ (⟨#[46]⟩ : ByteArray)).size + (strOfNums y175).size ≤ 9223372036854775807) = true := decide_eq_true c31
                 try have c31b2 : (9223372036854775807 < (x4_2 ++ (⟨#[46]⟩ : ByteArray)).size + (strOfNums y175).size) = False := eq_false (Nat.not_lt.2 c31)
                 have H' := mk0 H
                 clear H
                 go_wp2_with (first | ((with_reducible refine gate_dst (N := 51) rfl ?_); refine Kd.R_lit (Kd.int .u8) _ 5 ?hg (N := 51) ?hd (xs := ([(wrap64 (48 + (Int.tmod (rd l0 x17_2) 10))) % 256] : List Int)) (inner := [.int .u8 ((wrap64 (48 + (Int.tmod (rd l0 x17_2) 10))) % 256)]) (ok := fun _ => True) (okp := fun _ => True) ?hr ?hp (fun _ hk => hk) trivial (Below.refl _ _) (Nat.le_refl _) (by simp) ?_; (case hd => rfl); (case hg => rfl); (case hr => first | (go_simp; done) | (go_simp; rfl)); (case hp => exact (Reps.one (show Kd.M (Kd.int .u8) _ _ _ ((wrap64 (48 + (Int.tmod (rd l0 x17_2) 10))) % 256) [.int .u8 ((wrap64 (48 + (Int.tmod (rd l0 x17_2) 10))) % 256)] from rfl) (Reps.none _ _))); intro v176 w32 ho33 hb hg_ hnew_; clear hg_ hnew_; (first | rw [← Ny175.out] at ho33 | (simp only [Int.reduceToNat] at ho33; rw [← Ny175.out] at ho33)); have n0_ := mk0 (Kd.R_lower ho33 (below_size (by repeat (first | (with_reducible first | exact HB.out | apply b_a | apply b_n | apply b_d) | exact HB.out)))); have n1_ := mk0 (below_step (by repeat (first | (with_reducible first | exact HB.out | apply b_a | apply b_n | apply b_d) | exact HB.out)) hb); clear HB; have HO177 := n0_; have HB := n1_; clear n0_ n1_; clear hb ho33; have hcv34 := own_string (P := Tryd.prog) Tryd.underlying73 Tryd.underlying5 Tryd.underlying9 (Kd.own_of_R HO177.out)))
                 go_roundg kj47
                 case measure => have := HJ41.out; have := HK2.out; have := HJ47.out; omega
                 case rel => exact ⟨((x4_2 ++ (⟨#[46]⟩ : ByteArray)) ++ (strOfNums y175)), (wrap64 (x17_2 + 1)), (by first | rfl | (simp; done) | (simp [*]; done)), (by first | rfl | (simp; done) | (simp [*]; done)), H', ⟨by have := HJ41.out; have := HK2.out; have := HJ47.out; omega⟩, ⟨by repeat (first | (with_reducible first | exact HB.out | apply b_a | apply b_n | apply b_d) | exact HB.out)⟩⟩
                ·rw [if_neg c31] at H
                 exact absurd H (by simp)
             ·rw [if_neg c12] at H
              exact absurd H (by simp)
            ·rw [if_neg c11] at H
             have c11b0 : decide (0 < x17_2) = false := decide_eq_false c11
             clear c11
             by_cases c35 : (rd l0 x17_2) > 9
             ·rw [if_pos c35] at H
              have c35b0 : decide (9 < (rd l0 x17_2)) = true := decide_eq_true c35
              clear c35
              obtain ⟨y178, hy178⟩ : ∃ y_ : List Int, y_ = (([(wrap64 (48 + (wrap64 (Int.tdiv (rd l0 x17_2) 10)))) % 256] : List Int)) := ⟨_, rfl⟩
              replace H : (if x4_2.size + (strOfNums y178).size ≤ 9223372036854775807 then ((some (([(wrap64 (48 + (Int.tmod (rd l0 x17_2) 10))) % 256] : List Int) : List Int)).bind fun y181 => (if (x4_2 ++ (strOfNums y178)).size + (strOfNums y181).size ≤ 9223372036854775807 then (priceofficeref06_Format.l0 kj47 ((x4_2 ++ (strOfNums y178)) ++ (strOfNums y181)) l0 (l0.length : Int) (wrap64 (x17_2 + 1))) else (none))) else (none)) = some (r1, r2) := by first | (rw [hy178]; with_reducible exact H) | (have H2_ := (Option.bind_some _ _).symm.trans H; rw [hy178]; with_reducible exact H2_) | (have H2_ := (Option.bind_some _ _).symm.trans H; with_reducible exact H2_) | with_reducible exact H | (rw [hy178]; exact H) | exact H
              have Ny178 := mk0 hy178
              clear hy178
              by_cases c36 : x4_2.size + (strOfNums y178).size ≤ 9223372036854775807
              ·rw [if_pos c36] at H
               have c36b0 := eq_true c36
               have c36b1 : decide (x4_2.size + (strOfNums y178).size ≤ 9223372036854775807) = true := decide_eq_true c36
               try have c36b2 : (9223372036854775807 < x4_2.size + (strOfNums y178).size) = False := eq_false (Nat.not_lt.2 c36)
               obtain ⟨y181, hy181⟩ : ∃ y_ : List Int, y_ = (([(wrap64 (48 + (Int.tmod (rd l0 x17_2) 10))) % 256] : List Int)) := ⟨_, rfl⟩
               replace H : (if (x4_2 ++ (strOfNums y178)).size + (strOfNums y181).size ≤ 9223372036854775807 then (priceofficeref06_Format.l0 kj47 ((x4_2 ++ (strOfNums y178)) ++ (strOfNums y181)) l0 (l0.length : Int) (wrap64 (x17_2 + 1))) else (none)) = some (r1, r2) := by first | (rw [hy181]; with_reducible exact H) | (have H2_ := (Option.bind_some _ _).symm.trans H; rw [hy181]; with_reducible exact H2_) | (have H2_ := (Option.bind_some _ _).symm.trans H; with_reducible exact H2_) | with_reducible exact H | (rw [hy181]; exact H) | exact H
               have Ny181 := mk0 hy181
               clear hy181
               by_cases c37 : (x4_2 ++ (strOfNums y178)).size + (strOfNums y181).size ≤ 9223372036854775807
               ·rw [if_pos c37] at H
                have c37b0 := eq_true c37
                have c37b1 : decide ((x4_2 ++ (strOfNums y178)).size + (strOfNums y181).size ≤ 9223372036854775807) = true := decide_eq_true c37
                try have c37b2 : (9223372036854775807 < (x4_2 ++ (strOfNums y178)).size + (strOfNums y181).size) = False := eq_false (Nat.not_lt.2 c37)
                have H' := mk0 H
                clear H
                go_wp2_with (first | ((with_reducible refine gate_dst (N := 43) rfl ?_); refine Kd.R_lit (Kd.int .u8) _ 5 ?hg (N := 43) ?hd (xs := ([(wrap64 (48 + (wrap64 (Int.tdiv (rd l0 x17_2) 10)))) % 256] : List Int)) (inner := [.int .u8 ((wrap64 (48 + (wrap64 (Int.tdiv (rd l0 x17_2) 10)))) % 256)]) (ok := fun _ => True) (okp := fun _ => True) ?hr ?hp (fun _ hk => hk) trivial (Below.refl _ _) (Nat.le_refl _) (by simp) ?_; (case hd => rfl); (case hg => rfl); (case hr => first | (go_simp; done) | (go_simp; rfl)); (case hp => exact (Reps.one (show Kd.M (Kd.int .u8) _ _ _ ((wrap64 (48 + (wrap64 (Int.tdiv (rd l0 x17_2) 10)))) % 256) [.int .u8 ((wrap64 (48 + (wrap64 (Int.tdiv (rd l0 x17_2) 10)))) % 256)] from rfl) (Reps.none _ _))); intro v179 w38 ho39 hb hg_ hnew_; clear hg_ hnew_; (first | rw [← Ny178.out] at ho39 | (simp only [Int.reduceToNat] at ho39; rw [← Ny178.out] at ho39)); have n0_ := mk0 (Kd.R_lower ho39 (below_size (by repeat (first | (with_reducible first | exact HB.out | apply b_a | apply b_n | apply b_d) | exact HB.out)))); have n1_ := mk0 (below_step (by repeat (first | (with_reducible first | exact HB.out | apply b_a | apply b_n | apply b_d) | exact HB.out)) hb); clear HB; have HO180 := n0_; have HB := n1_; clear n0_ n1_; clear hb ho39; have hcv40 := own_string (P := Tryd.prog) Tryd.underlying73 Tryd.underlying5 Tryd.underlying9 (Kd.own_of_R HO180.out)) | ((with_reducible refine gate_dst (N := 51) rfl ?_); refine Kd.R_lit (Kd.int .u8) _ 5 ?hg (N := 51) ?hd (xs := ([(wrap64 (48 + (Int.tmod (rd l0 x17_2) 10))) % 256] : List Int)) (inner := [.int .u8 ((wrap64 (48 + (Int.tmod (rd l0 x17_2) 10))) % 256)]) (ok := fun _ => True) (okp := fun _ => True) ?hr ?hp (fun _ hk => hk) trivial (Below.refl _ _) (Nat.le_refl _) (by simp) ?_; (case hd => rfl); (case hg => rfl); (case hr => first | (go_simp; done) | (go_simp; rfl)); (case hp => exact (Reps.one (show Kd.M (Kd.int .u8) _ _ _ ((wrap64 (48 + (Int.tmod (rd l0 x17_2) 10))) % 256) [.int .u8 ((wrap64 (48 + (Int.tmod (rd l0 x17_2) 10))) % 256)] from rfl) (Reps.none _ _))); intro v182 w41 ho42 hb hg_ hnew_; clear hg_ hnew_; (first | rw [← Ny181.out] at ho42 | (simp only [Int.reduceToNat] at ho42; rw [← Ny181.out] at ho42)); have n0_ := mk0 (Kd.R_elder' (by (with_reducible repeat (first | apply r_a | apply r_n | apply r_d)); exact HO180.out) (Kd.R_base ho42) hb); have n1_ := mk0 (Kd.R_lower (Kd.R_new' ho42 (Kd.R_lt (by (with_reducible repeat (first | apply r_a | apply r_n | apply r_d)); exact HO180.out))) (below_size (by repeat (first | (with_reducible first | exact HB.out | apply b_a | apply b_n | apply b_d) | exact HB.out)))); have n2_ := mk0 (below_step (by repeat (first | (with_reducible first | exact HB.out | apply b_a | apply b_n | apply b_d) | exact HB.out)) hb); clear HO180; clear HB; have HO180 := n0_; have HO183 := n1_; have HB := n2_; clear n0_ n1_ n2_; clear hb ho42; have hcv43 := own_string (P := Tryd.prog) Tryd.underlying73 Tryd.underlying5 Tryd.underlying9 (Kd.own_of_R HO183.out)))
                go_roundg kj47
                case measure => have := HJ41.out; have := HK2.out; have := HJ47.out; omega
                case rel => exact ⟨((x4_2 ++ (strOfNums y178)) ++ (strOfNums y181)), (wrap64 (x17_2 + 1)), (by first | rfl | (simp; done) | (simp [*]; done)), (by first | rfl | (simp; done) | (simp [*]; done)), H', ⟨by have := HJ41.out; have := HK2.out; have := HJ47.out; omega⟩, ⟨by repeat (first | (with_reducible first | exact HB.out | apply b_a | apply b_n | apply b_d) | exact HB.out)⟩⟩
               ·rw [if_neg c37] at H
                exact absurd H (by simp)
              ·rw [if_neg c36] at H
               exact absurd H (by simp)
             ·rw [if_neg c35] at H
              have c35b0 : decide (9 < (rd l0 x17_2)) = false := decide_eq_false c35
              clear c35
              by_cases c44 : x17_2 = 0
              ·rw [if_pos c44] at H
               have c44b0 : (x17_2 == 0) = true := beq_iff_eq.mpr c44
               have c44b1 : (x17_2 != 0) = false := bne_eq_false_iff_eq.mpr c44
               clear c44
               obtain ⟨y184, hy184⟩ : ∃ y_ : List Int, y_ = (([(wrap64 (48 + (wrap64 (Int.tdiv (rd l0 x17_2) 10)))) % 256] : List Int)) := ⟨_, rfl⟩
               replace H : (if x4_2.size + (strOfNums y184).size ≤ 9223372036854775807 then ((some (([(wrap64 (48 + (Int.tmod (rd l0 x17_2) 10))) % 256] : List Int) : List Int)).bind fun y187 => (if (x4_2 ++ (strOfNums y184)).size + (strOfNums y187).size ≤ 9223372036854775807 then (priceofficeref06_Format.l0 kj47 ((x4_2 ++ (strOfNums y184)) ++ (strOfNums y187)) l0 (l0.length : Int) (wrap64 (x17_2 + 1))) else (none))) else (none)) = some (r1, r2) := by first | (rw [hy184]; with_reducible exact H) | (have H2_ := (Option.bind_some _ _).symm.trans H; rw [hy184]; with_reducible exact H2_) | (have H2_ := (Option.bind_some _ _).symm.trans H; with_reducible exact H2_) | with_reducible exact H | (rw [hy184]; exact H) | exact H
               have Ny184 := mk0 hy184
               clear hy184
               by_cases c45 : x4_2.size + (strOfNums y184).size ≤ 9223372036854775807
               ·rw [if_pos c45] at H
                have c45b0 := eq_true c45
                have c45b1 : decide (x4_2.size + (strOfNums y184).size ≤ 9223372036854775807) = true := decide_eq_true c45
                try have c45b2 : (9223372036854775807 < x4_2.size + (strOfNums y184).size) = False := eq_false (Nat.not_lt.2 c45)
                obtain ⟨y187, hy187⟩ : ∃ y_ : List Int, y_ = (([(wrap64 (48 + (Int.tmod (rd l0 x17_2) 10))) % 256] : List Int)) := ⟨_, rfl⟩
                replace H : (if (x4_2 ++ (strOfNums y184)).size + (strOfNums y187).size ≤ 9223372036854775807 then (priceofficeref06_Format.l0 kj47 ((x4_2 ++ (strOfNums y184)) ++ (strOfNums y187)) l0 (l0.length : Int) (wrap64 (x17_2 + 1))) else (none)) = some (r1, r2) := by first | (rw [hy187]; with_reducible exact H) | (have H2_ := (Option.bind_some _ _).symm.trans H; rw [hy187]; with_reducible exact H2_) | (have H2_ := (Option.bind_some _ _).symm.trans H; with_reducible exact H2_) | with_reducible exact H | (rw [hy187]; exact H) | exact H
                have Ny187 := mk0 hy187
                clear hy187
                by_cases c46 : (x4_2 ++ (strOfNums y184)).size + (strOfNums y187).size ≤ 9223372036854775807
                ·rw [if_pos c46] at H
                 have c46b0 := eq_true c46
                 have c46b1 : decide ((x4_2 ++ (strOfNums y184)).size + (strOfNums y187).size ≤ 9223372036854775807) = true := decide_eq_true c46
                 try have c46b2 : (9223372036854775807 < (x4_2 ++ (strOfNums y184)).size + (strOfNums y187).size) = False := eq_false (Nat.not_lt.2 c46)
                 have H' := mk0 H
                 clear H
                 go_wp2_with (first | ((with_reducible refine gate_dst (N := 43) rfl ?_); refine Kd.R_lit (Kd.int .u8) _ 5 ?hg (N := 43) ?hd (xs := ([(wrap64 (48 + (wrap64 (Int.tdiv (rd l0 x17_2) 10)))) % 256] : List Int)) (inner := [.int .u8 ((wrap64 (48 + (wrap64 (Int.tdiv (rd l0 x17_2) 10)))) % 256)]) (ok := fun _ => True) (okp := fun _ => True) ?hr ?hp (fun _ hk => hk) trivial (Below.refl _ _) (Nat.le_refl _) (by simp) ?_; (case hd => rfl); (case hg => rfl); (case hr => first | (go_simp; done) | (go_simp; rfl)); (case hp => exact (Reps.one (show Kd.M (Kd.int .u8) _ _ _ ((wrap64 (48 + (wrap64 (Int.tdiv (rd l0 x17_2) 10)))) % 256) [.int .u8 ((wrap64 (48 + (wrap64 (Int.tdiv (rd l0 x17_2) 10)))) % 256)] from rfl) (Reps.none _ _))); intro v185 w47 ho48 hb hg_ hnew_; clear hg_ hnew_; (first | rw [← Ny184.out] at ho48 | (simp only [Int.reduceToNat] at ho48; rw [← Ny184.out] at ho48)); have n0_ := mk0 (Kd.R_lower ho48 (below_size (by repeat (first | (with_reducible first | exact HB.out | apply b_a | apply b_n | apply b_d) | exact HB.out)))); have n1_ := mk0 (below_step (by repeat (first | (with_reducible first | exact HB.out | apply b_a | apply b_n | apply b_d) | exact HB.out)) hb); clear HB; have HO186 := n0_; have HB := n1_; clear n0_ n1_; clear hb ho48; have hcv49 := own_string (P := Tryd.prog) Tryd.underlying73 Tryd.underlying5 Tryd.underlying9 (Kd.own_of_R HO186.out)) | ((with_reducible refine gate_dst (N := 51) rfl ?_); refine Kd.R_lit (Kd.int .u8) _ 5 ?hg (N := 51) ?hd (xs := ([(wrap64 (48 + (Int.tmod (rd l0 x17_2) 10))) % 256] : List Int)) (inner := [.int .u8 ((wrap64 (48 + (Int.tmod (rd l0 x17_2) 10))) % 256)]) (ok := fun _ => True) (okp := fun _ => True) ?hr ?hp (fun _ hk => hk) trivial (Below.refl _ _) (Nat.le_refl _) (by simp) ?_; (case hd => rfl); (case hg => rfl); (case hr => first | (go_simp; done) | (go_simp; rfl)); (case hp => exact (Reps.one (show Kd.M (Kd.int .u8) _ _ _ ((wrap64 (48 + (Int.tmod (rd l0 x17_2) 10))) % 256) [.int .u8 ((wrap64 (48 + (Int.tmod (rd l0 x17_2) 10))) % 256)] from rfl) (Reps.none _ _))); intro v188 w50 ho51 hb hg_ hnew_; clear hg_ hnew_; (first | rw [← Ny187.out] at ho51 | (simp only [Int.reduceToNat] at ho51; rw [← Ny187.out] at ho51)); have n0_ := mk0 (Kd.R_elder' (by (with_reducible repeat (first | apply r_a | apply r_n | apply r_d)); exact HO186.out) (Kd.R_base ho51) hb); have n1_ := mk0 (Kd.R_lower (Kd.R_new' ho51 (Kd.R_lt (by (with_reducible repeat (first | apply r_a | apply r_n | apply r_d)); exact HO186.out))) (below_size (by repeat (first | (with_reducible first | exact HB.out | apply b_a | apply b_n | apply b_d) | exact HB.out)))); have n2_ := mk0 (below_step (by repeat (first | (with_reducible first | exact HB.out | apply b_a | apply b_n | apply b_d) | exact HB.out)) hb); clear HO186; clear HB; have HO186 := n0_; have HO189 := n1_; have HB := n2_; clear n0_ n1_ n2_; clear hb ho51; have hcv52 := own_string (P := Tryd.prog) Tryd.underlying73 Tryd.underlying5 Tryd.underlying9 (Kd.own_of_R HO189.out)))
                 go_roundg kj47
                 case measure => have := HJ41.out; have := HK2.out; have := HJ47.out; omega
                 case rel => exact ⟨((x4_2 ++ (strOfNums y184)) ++ (strOfNums y187)), (wrap64 (x17_2 + 1)), (by first | rfl | (simp; done) | (simp [*]; done)), (by first | rfl | (simp; done) | (simp [*]; done)), H', ⟨by have := HJ41.out; have := HK2.out; have := HJ47.out; omega⟩, ⟨by repeat (first | (with_reducible first | exact HB.out | apply b_a | apply b_n | apply b_d) | exact HB.out)⟩⟩
                ·rw [if_neg c46] at H
                 exact absurd H (by simp)
               ·rw [if_neg c45] at H
                exact absurd H (by simp)
              ·rw [if_neg c44] at H
               have c44b0 : (x17_2 == 0) = false := beq_eq_false_iff_ne.mpr c44
               have c44b1 : (x17_2 != 0) = true := bne_iff_ne.mpr c44
               obtain ⟨y190, hy190⟩ : ∃ y_ : List Int, y_ = (([(wrap64 (48 + (Int.tmod (rd l0 x17_2) 10))) % 256] : List Int)) := ⟨_, rfl⟩
               replace H : (if x4_2.size + (strOfNums y190).size ≤ 9223372036854775807 then (priceofficeref06_Format.l0 kj47 (x4_2 ++ (strOfNums y190)) l0 (l0.length : Int) (wrap64 (x17_2 + 1))) else (none)) = some (r1, r2) := by first | (rw [hy190]; with_reducible exact H) | (have H2_ := (Option.bind_some _ _).symm.trans H; rw [hy190]; with_reducible exact H2_) | (have H2_ := (Option.bind_some _ _).symm.trans H; with_reducible exact H2_) | with_reducible exact H | (rw [hy190]; exact H) | exact H
               have Ny190 := mk0 hy190
               clear hy190
               by_cases c53 : x4_2.size + (strOfNums y190).size ≤ 9223372036854775807
               ·rw [if_pos c53] at H
                have c53b0 := eq_true c53
                have c53b1 : decide (x4_2.size + (strOfNums y190).size ≤ 9223372036854775807) = true := decide_eq_true c53
                try have c53b2 : (9223372036854775807 < x4_2.size + (strOfNums y190).size) = False := eq_false (Nat.not_lt.2 c53)
                have H' := mk0 H
                clear H
                go_wp2_with (first | ((with_reducible refine gate_dst (N := 51) rfl ?_); refine Kd.R_lit (Kd.int .u8) _ 5 ?hg (N := 51) ?hd (xs := ([(wrap64 (48 + (Int.tmod (rd l0 x17_2) 10))) % 256] : List Int)) (inner := [.int .u8 ((wrap64 (48 + (Int.tmod (rd l0 x17_2) 10))) % 256)]) (ok := fun _ => True) (okp := fun _ => True) ?hr ?hp (fun _ hk => hk) trivial (Below.refl _ _) (Nat.le_refl _) (by simp) ?_; (case hd => rfl); (case hg => rfl); (case hr => first | (go_simp; done) | (go_simp; rfl)); (case hp => exact (Reps.one (show Kd.M (Kd.int .u8) _ _ _ ((wrap64 (48 + (Int.tmod (rd l0 x17_2) 10))) % 256) [.int .u8 ((wrap64 (48 + (Int.tmod (rd l0 x17_2) 10))) % 256)] from rfl) (Reps.none _ _))); intro v191 w54 ho55 hb hg_ hnew_; clear hg_ hnew_; (first | rw [← Ny190.out] at ho55 | (simp only [Int.reduceToNat] at ho55; rw [← Ny190.out] at ho55)); have n0_ := mk0 (Kd.R_lower ho55 (below_size (by repeat (first | (with_reducible first | exact HB.out | apply b_a | apply b_n | apply b_d) | exact HB.out)))); have n1_ := mk0 (below_step (by repeat (first | (with_reducible first | exact HB.out | apply b_a | apply b_n | apply b_d) | exact HB.out)) hb); clear HB; have HO192 := n0_; have HB := n1_; clear n0_ n1_; clear hb ho55; have hcv56 := own_string (P := Tryd.prog) Tryd.underlying73 Tryd.underlying5 Tryd.underlying9 (Kd.own_of_R HO192.out)))
                go_roundg kj47
                case measure => have := HJ41.out; have := HK2.out; have := HJ47.out; omega
                case rel => exact ⟨(x4_2 ++ (strOfNums y190)), (wrap64 (x17_2 + 1)), (by first | rfl | (simp; done) | (simp [*]; done)), (by first | rfl | (simp; done) | (simp [*]; done)), H', ⟨by have := HJ41.out; have := HK2.out; have := HJ47.out; omega⟩, ⟨by repeat (first | (with_reducible first | exact HB.out | apply b_a | apply b_n | apply b_d) | exact HB.out)⟩⟩
               ·rw [if_neg c53] at H
                exact absurd H (by simp)
        ·rw [if_neg c7] at H
         exact absurd H (by simp)
       ·rw [if_neg c6] at H
        exact absurd H (by simp)
      ·rw [if_neg c5] at H
       have c5b0 : decide (x17_2 < (l0.length : Int)) = false := decide_eq_false c5
       clear c5
       simp only [Option.some.injEq, Prod.mk.injEq] at H
       obtain ⟨rfl, rfl⟩ := H
       go_wp2
       go_ret2
       exact ⟨by first | rfl | (simp [errW_none, errW_some] <;> rfl) | (simp [*, errW_none, errW_some] <;> rfl), by repeat (first | (with_reducible first | exact HB.out | apply b_a | apply b_n | apply b_d) | exact HB.out)⟩

end Go.Proofs.YtpnoliognpmkmaaDoor.P
