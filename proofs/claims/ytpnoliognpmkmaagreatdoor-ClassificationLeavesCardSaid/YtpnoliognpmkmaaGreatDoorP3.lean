/- Lean functions with the same answers as the program's Go functions, and for each the proof that the call comes to these answers; written by a program of mine out of the translation, the functions marked 'by hand' by me. -/
import Derived.Test.YtpnoliognpmkmaaGreatDoorP0
import Derived.Test.YtpnoliognpmkmaaGreatDoorP2
namespace Go.Proofs.YtpnoliognpmkmaaGreatDoor.P
open Go.RowKit Go.Proofs.YtpnoliognpmkmaaGreatDoorW.PrintWords Go.Proofs.YtpnoliognpmkmaaGreatDoorW.PrintLast Go.Proofs.YtpnoliognpmkmaaGreatDoorW.PrintMore
attribute [local go_sem] max2_int min2_int max_two min_two max_three min_three max_four min_four   -- for this text's walks alone
set_option linter.unusedVariables false
set_option linter.unusedSimpArgs false

/-! ### w6_code: function 6 -/
def w6_code.l0 : Nat → List Int → Int → Int → List Int → Int → Option (ByteArray × Int)
 | 0, _, _, _, _, _ => none
 | k + 1, x3, x16, x17, x1000, x1001 => if x17 < x16 then ((some (([1, 2, 10, 99] : List Int) : List Int)).bind fun y150 => ((m_Tape_Next.f x1000 x1001 4).bind fun bt153 => (if 0 ≤ bt153.1 then (if bt153.1 < (y150.length : Int) then (if x3.length < 17592186044416 then (w6_code.l0 k (x3 ++ [rd y150 bt153.1]) x16 (wrap64 (x17 + 1)) x1000 bt153.2) else (none)) else (none)) else (none)))) else ((r6_Format.f k x3).bind fun bt159 => (some (bt159.1, x1001)))
def w6_code.f (k : Nat) (s0_0 : List Int) (s0_1 : Int) : Option (ByteArray × Int) := (m_Tape_Next.f s0_0 s0_1 8).bind fun bt140 => (if bt140.1 = 0 then ((some (([(⟨#[]⟩ : ByteArray), (⟨#[49]⟩ : ByteArray), (⟨#[48, 49, 46]⟩ : ByteArray), (⟨#[46, 49]⟩ : ByteArray), (⟨#[48, 49, 46, 48]⟩ : ByteArray), (⟨#[48, 49, 46, 48, 49]⟩ : ByteArray), (⟨#[48, 48, 49]⟩ : ByteArray), (⟨#[48, 49, 46, 49, 48, 48]⟩ : ByteArray), (⟨#[48, 48]⟩ : ByteArray), (⟨#[97]⟩ : ByteArray), (⟨#[48, 49, 46, 49, 46, 49, 46, 49, 46, 49, 46, 49]⟩ : ByteArray), (⟨#[48, 49, 32]⟩ : ByteArray)] : List ByteArray) : List ByteArray)).bind fun y142 => ((m_Tape_Next.f s0_0 bt140.2 12).bind fun bt145 => (if 0 ≤ bt145.1 then (if bt145.1 < (y142.length : Int) then (some (rdOf ByteArray.empty y142 bt145.1, bt145.2)) else (none)) else (none)))) else ((m_Tape_Next.f s0_0 bt140.2 4).bind fun bt148 => (w6_code.l0 k ([] : List Int) (wrap64 (1 + bt148.1)) 0 s0_0 bt148.2)))
theorem w6_code.mono_l : ∀ k, (∀ y0 y1 y2 y3 y4, LeO (w6_code.l0 k y0 y1 y2 y3 y4) (w6_code.l0 (k + 1) y0 y1 y2 y3 y4))
 | 0 => fun _ _ _ _ _ r h => by simp [w6_code.l0] at h
 | k + 1 => by
  have ih0 := w6_code.mono_l k
  ·intro y0 y1 y2 y3 y4
   unfold w6_code.l0
   repeat' first
   | (with_reducible exact ih0 _ _ _ _ _)
   | (with_reducible exact r6_Format.mono _ _)
   | (with_reducible exact LeO.refl _)
   | (with_reducible exact LeO.none _)
   | (with_reducible refine LeO.ite ?_ ?_)
   | (with_reducible refine LeO.bind ?_ (fun _ => ?_))
theorem w6_code.mono : ∀ a0 a1 k, LeO (w6_code.f k a0 a1) (w6_code.f (k + 1) a0 a1) := by
 intro a0 a1 k
 have ih0 := w6_code.mono_l k
 unfold w6_code.f
 repeat' first
   | (with_reducible exact ih0 _ _ _ _ _)
   | (with_reducible exact r6_Format.mono _ _)
   | (with_reducible exact LeO.refl _)
   | (with_reducible exact LeO.none _)
   | (with_reducible refine LeO.ite ?_ ?_)
   | (with_reducible refine LeO.bind ?_ (fun _ => ?_))
set_option maxHeartbeats 8000000 in
set_option maxRecDepth 100000 in
theorem w6_code.calls (k : Nat) (g : Nat) (s0_0 : List Int) (s0_1 : Int) (r1 : ByteArray) (r2 : Int) (w0 w : World) (hI : IsS28 w0 w g s0_0 s0_1) (hB : Below w0.heap.size w0 w) (h : w6_code.f k s0_0 s0_1 = some (r1, r2)) :
  Calls Tryz.prog 6 #[.pointer (some ⟨g, 0, none⟩)] w fun e w' => e = .returned (.string r1) ∧ IsS28 w0 w' g s0_0 r2 ∧ Below w0.heap.size w0 w' ∧ KeepBut w w' g none := by
 have HI0 := mk0 hI
 have HK := mk0 (KeepBut.refl w g none)
 have HL := mk0 hB.size
 clear hI
 have HW0 := mk0 hB.size
 have HB := mk0 hB
 clear hB
 have H : ((m_Tape_Next.f s0_0 s0_1 8).bind fun bt140 => (if bt140.1 = 0 then ((some (([(⟨#[]⟩ : ByteArray), (⟨#[49]⟩ : ByteArray), (⟨#[48, 49, 46]⟩ : ByteArray), (⟨#[46, 49]⟩ : ByteArray), (⟨#[48, 49, 46, 48]⟩ : ByteArray), (⟨#[48, 49, 46, 48, 49]⟩ : ByteArray), (⟨#[48, 48, 49]⟩ : ByteArray), (⟨#[48, 49, 46, 49, 48, 48]⟩ : ByteArray), (⟨#[48, 48]⟩ : ByteArray), (⟨#[97]⟩ : ByteArray), (⟨#[48, 49, 46, 49, 46, 49, 46, 49, 46, 49, 46, 49]⟩ : ByteArray), (⟨#[48, 49, 32]⟩ : ByteArray)] : List ByteArray) : List ByteArray)).bind fun y142 => ((m_Tape_Next.f s0_0 bt140.2 12).bind fun bt145 => (if 0 ≤ bt145.1 then (if bt145.1 < (y142.length : Int) then (some (rdOf ByteArray.empty y142 bt145.1, bt145.2)) else (none)) else (none)))) else ((m_Tape_Next.f s0_0 bt140.2 4).bind fun bt148 => (w6_code.l0 k ([] : List Int) (wrap64 (1 + bt148.1)) 0 s0_0 bt148.2)))) = some (r1, r2) := h
 clear h
 replace H := Option.bind_eq_some_iff.mp H
 obtain ⟨⟨t140, t141⟩, A20, H⟩ := H
 replace H : (if t140 = 0 then ((some (([(⟨#[]⟩ : ByteArray), (⟨#[49]⟩ : ByteArray), (⟨#[48, 49, 46]⟩ : ByteArray), (⟨#[46, 49]⟩ : ByteArray), (⟨#[48, 49, 46, 48]⟩ : ByteArray), (⟨#[48, 49, 46, 48, 49]⟩ : ByteArray), (⟨#[48, 48, 49]⟩ : ByteArray), (⟨#[48, 49, 46, 49, 48, 48]⟩ : ByteArray), (⟨#[48, 48]⟩ : ByteArray), (⟨#[97]⟩ : ByteArray), (⟨#[48, 49, 46, 49, 46, 49, 46, 49, 46, 49, 46, 49]⟩ : ByteArray), (⟨#[48, 49, 32]⟩ : ByteArray)] : List ByteArray) : List ByteArray)).bind fun y142 => ((m_Tape_Next.f s0_0 t141 12).bind fun bt145 => (if 0 ≤ bt145.1 then (if bt145.1 < (y142.length : Int) then (some (rdOf ByteArray.empty y142 bt145.1, bt145.2)) else (none)) else (none)))) else ((m_Tape_Next.f s0_0 t141 4).bind fun bt148 => (w6_code.l0 k ([] : List Int) (wrap64 (1 + bt148.1)) 0 s0_0 bt148.2))) = some (r1, r2) := H
 have A2 := mk0 A20
 clear A20
 by_cases c3 : t140 = 0
 ·rw [if_pos c3] at H
  have c3b0 : (t140 == 0) = true := beq_iff_eq.mpr c3
  have c3b1 : (t140 != 0) = false := bne_eq_false_iff_eq.mpr c3
  clear c3
  obtain ⟨y142, hy142⟩ : ∃ y_ : List ByteArray, y_ = (([(⟨#[]⟩ : ByteArray), (⟨#[49]⟩ : ByteArray), (⟨#[48, 49, 46]⟩ : ByteArray), (⟨#[46, 49]⟩ : ByteArray), (⟨#[48, 49, 46, 48]⟩ : ByteArray), (⟨#[48, 49, 46, 48, 49]⟩ : ByteArray), (⟨#[48, 48, 49]⟩ : ByteArray), (⟨#[48, 49, 46, 49, 48, 48]⟩ : ByteArray), (⟨#[48, 48]⟩ : ByteArray), (⟨#[97]⟩ : ByteArray), (⟨#[48, 49, 46, 49, 46, 49, 46, 49, 46, 49, 46, 49]⟩ : ByteArray), (⟨#[48, 49, 32]⟩ : ByteArray)] : List ByteArray)) := ⟨_, rfl⟩
  replace H : ((m_Tape_Next.f s0_0 t141 12).bind fun bt145 => (if 0 ≤ bt145.1 then (if bt145.1 < (y142.length : Int) then (some (rdOf ByteArray.empty y142 bt145.1, bt145.2)) else (none)) else (none))) = some (r1, r2) := by first | (rw [hy142]; with_reducible exact H) | (have H2_ := (Option.bind_some _ _).symm.trans H; rw [hy142]; with_reducible exact H2_) | (have H2_ := (Option.bind_some _ _).symm.trans H; with_reducible exact H2_) | with_reducible exact H | (rw [hy142]; exact H) | exact H
  have Ny142 := mk0 hy142
  clear hy142
  replace H := Option.bind_eq_some_iff.mp H
  obtain ⟨⟨t145, t146⟩, A40, H⟩ := H
  replace H : (if 0 ≤ t145 then (if t145 < (y142.length : Int) then (some (rdOf ByteArray.empty y142 t145, t146)) else (none)) else (none)) = some (r1, r2) := H
  have A4 := mk0 A40
  clear A40
  by_cases c5 : 0 ≤ t145
  ·rw [if_pos c5] at H
   have c5b0 : decide (0 ≤ t145) = true := decide_eq_true c5
   clear c5
   by_cases c6 : t145 < (y142.length : Int)
   ·rw [if_pos c6] at H
    have c6b0 : decide (t145 < (y142.length : Int)) = true := decide_eq_true c6
    clear c6
    simp only [Option.some.injEq, Prod.mk.injEq] at H
    obtain ⟨rfl, rfl⟩ := H
    go_enter Tryz.func6, Tryz.ntmps6
    go_wp2_with (first | ((with_reducible refine gate_callee (f := 14) rfl ?_); refine goesL_ (some 7) rfl rfl Tryz.func14 (by kernel_rfl) rfl #[.pointer (some ⟨g, 0, none⟩), .int .i64 8] rfl (by (try simp only [List.map_toArray, List.map_cons, List.map_nil]); first | done | rfl) ?_; (with_reducible refine (m_Tape_Next.calls g s0_0 s0_1 8 t140 t141 w0 _ ?side1 ?side2 A2.out).mono ?_); (case side1 => repeat (first | (with_reducible first | exact HI0.out | apply IsS28.alloc | apply IsS28.drewN | apply IsS28.drew | apply IsS28.set_1) | exact HI0.out)); (case side2 => repeat (first | (with_reducible first | exact HB.out | apply b_a | apply b_n | apply b_d | refine below_set ?_ (IsS28.ge HI0.out)) | exact HB.out)); rintro e w7 ⟨rfl, hi, hb, hk⟩; refine ⟨_, rfl, ?_⟩; have n0_ := mk0 (KeepBut.trans (by repeat (first | (with_reducible first | exact HK.out | apply KeepBut.set_ | apply keep_drewN | apply keep_drew | apply keep_alloc) | exact HK.out)) hk (.inl rfl)); have n1_ := mk0 (hb); have n2_ := mk0 (hi); clear HK; clear HB; clear HI0; have HK := n0_; have HB := n1_; have HI0 := n2_; clear n0_ n1_ n2_; (try clear hb); (try clear hb2); (try clear hk); (try clear hi)) | ((with_reducible refine gate_dst (N := 9) rfl ?_); refine Kd.R_lit Kd.string _ 9 ?hg (N := 9) ?hd (xs := ([(⟨#[]⟩ : ByteArray), (⟨#[49]⟩ : ByteArray), (⟨#[48, 49, 46]⟩ : ByteArray), (⟨#[46, 49]⟩ : ByteArray), (⟨#[48, 49, 46, 48]⟩ : ByteArray), (⟨#[48, 49, 46, 48, 49]⟩ : ByteArray), (⟨#[48, 48, 49]⟩ : ByteArray), (⟨#[48, 49, 46, 49, 48, 48]⟩ : ByteArray), (⟨#[48, 48]⟩ : ByteArray), (⟨#[97]⟩ : ByteArray), (⟨#[48, 49, 46, 49, 46, 49, 46, 49, 46, 49, 46, 49]⟩ : ByteArray), (⟨#[48, 49, 32]⟩ : ByteArray)] : List ByteArray)) (inner := [.string (⟨#[]⟩ : ByteArray), .string (⟨#[49]⟩ : ByteArray), .string (⟨#[48, 49, 46]⟩ : ByteArray), .string (⟨#[46, 49]⟩ : ByteArray), .string (⟨#[48, 49, 46, 48]⟩ : ByteArray), .string (⟨#[48, 49, 46, 48, 49]⟩ : ByteArray), .string (⟨#[48, 48, 49]⟩ : ByteArray), .string (⟨#[48, 49, 46, 49, 48, 48]⟩ : ByteArray), .string (⟨#[48, 48]⟩ : ByteArray), .string (⟨#[97]⟩ : ByteArray), .string (⟨#[48, 49, 46, 49, 46, 49, 46, 49, 46, 49, 46, 49]⟩ : ByteArray), .string (⟨#[48, 49, 32]⟩ : ByteArray)]) (ok := fun _ => True) (okp := fun _ => True) ?hr ?hp (fun _ hk => hk) trivial (Below.refl _ _) (Nat.le_refl _) (by simp) ?_; (case hd => rfl); (case hg => rfl); (case hr => first | (go_simp; done) | (go_simp; rfl)); (case hp => exact (Reps.one (show Kd.M Kd.string _ _ _ (⟨#[]⟩ : ByteArray) [.string (⟨#[]⟩ : ByteArray)] from rfl) (Reps.one (show Kd.M Kd.string _ _ _ (⟨#[49]⟩ : ByteArray) [.string (⟨#[49]⟩ : ByteArray)] from rfl) (Reps.one (show Kd.M Kd.string _ _ _ (⟨#[48, 49, 46]⟩ : ByteArray) [.string (⟨#[48, 49, 46]⟩ : ByteArray)] from rfl) (Reps.one (show Kd.M Kd.string _ _ _ (⟨#[46, 49]⟩ : ByteArray) [.string (⟨#[46, 49]⟩ : ByteArray)] from rfl) (Reps.one (show Kd.M Kd.string _ _ _ (⟨#[48, 49, 46, 48]⟩ : ByteArray) [.string (⟨#[48, 49, 46, 48]⟩ : ByteArray)] from rfl) (Reps.one (show Kd.M Kd.string _ _ _ (⟨#[48, 49, 46, 48, 49]⟩ : ByteArray) [.string (⟨#[48, 49, 46, 48, 49]⟩ : ByteArray)] from rfl) (Reps.one (show Kd.M Kd.string _ _ _ (⟨#[48, 48, 49]⟩ : ByteArray) [.string (⟨#[48, 48, 49]⟩ : ByteArray)] from rfl) (Reps.one (show Kd.M Kd.string _ _ _ (⟨#[48, 49, 46, 49, 48, 48]⟩ : ByteArray) [.string (⟨#[48, 49, 46, 49, 48, 48]⟩ : ByteArray)] from rfl) (Reps.one (show Kd.M Kd.string _ _ _ (⟨#[48, 48]⟩ : ByteArray) [.string (⟨#[48, 48]⟩ : ByteArray)] from rfl) (Reps.one (show Kd.M Kd.string _ _ _ (⟨#[97]⟩ : ByteArray) [.string (⟨#[97]⟩ : ByteArray)] from rfl) (Reps.one (show Kd.M Kd.string _ _ _ (⟨#[48, 49, 46, 49, 46, 49, 46, 49, 46, 49, 46, 49]⟩ : ByteArray) [.string (⟨#[48, 49, 46, 49, 46, 49, 46, 49, 46, 49, 46, 49]⟩ : ByteArray)] from rfl) (Reps.one (show Kd.M Kd.string _ _ _ (⟨#[48, 49, 32]⟩ : ByteArray) [.string (⟨#[48, 49, 32]⟩ : ByteArray)] from rfl) (Reps.none _ _)))))))))))))); intro v143 w8 ho9 hb hg_ hnew_; clear hg_ hnew_; (first | rw [← Ny142.out] at ho9 | (simp only [Int.reduceToNat] at ho9; rw [← Ny142.out] at ho9)); have n0_ := mk0 (Kd.R_lower ho9 (keep_size (w := w) (g := g) (row := none) (by repeat (first | (with_reducible first | exact HK.out | apply KeepBut.set_ | apply keep_drewN | apply keep_drew | apply keep_alloc) | exact HK.out)))); have n1_ := mk0 (IsS28.below (by repeat (first | (with_reducible first | exact HI0.out | apply IsS28.alloc | apply IsS28.drewN | apply IsS28.drew | apply IsS28.set_1) | exact HI0.out)) hb); have n2_ := mk0 (KeepBut.trans (by repeat (first | (with_reducible first | exact HK.out | apply KeepBut.set_ | apply keep_drewN | apply keep_drew | apply keep_alloc) | exact HK.out)) (KeepBut.of_below hb g none) (.inl rfl)); have n3_ := mk0 (below_step (by repeat (with_reducible first | exact HB.out | apply b_a | apply b_n | apply b_d | refine below_set ?_ (IsS28.ge HI0.out))) hb); clear HI0; clear HK; clear HB; have HO144 := n0_; have HI0 := n1_; have HK := n2_; have HB := n3_; clear n0_ n1_ n2_ n3_; clear hb ho9) | ((with_reducible refine gate_callee (f := 14) rfl ?_); refine goesL_ (some 11) rfl rfl Tryz.func14 (by kernel_rfl) rfl #[.pointer (some ⟨g, 0, none⟩), .int .i64 12] rfl (by (try simp only [List.map_toArray, List.map_cons, List.map_nil]); first | done | rfl) ?_; (with_reducible refine (m_Tape_Next.calls g s0_0 t141 12 t145 t146 w0 _ ?side1 ?side2 A4.out).mono ?_); (case side1 => repeat (first | (with_reducible first | exact HI0.out | apply IsS28.alloc | apply IsS28.drewN | apply IsS28.drew | apply IsS28.set_1) | exact HI0.out)); (case side2 => repeat (first | (with_reducible first | exact HB.out | apply b_a | apply b_n | apply b_d | refine below_set ?_ (IsS28.ge HI0.out)) | exact HB.out)); rintro e w10 ⟨rfl, hi, hb, hk⟩; refine ⟨_, rfl, ?_⟩; have n0_ := mk0 (Kd.R_mono (Kd.R_keep (IsS28.apart (show IsS28 w0 _ g s0_0 t141 from by repeat (first | (with_reducible first | exact HI0.out | apply IsS28.alloc | apply IsS28.drewN | apply IsS28.drew | apply IsS28.set_1) | exact HI0.out)) (by (with_reducible repeat (first | apply r_a | apply r_n | apply r_d)); exact HO144.out) (by decide)) hk (fun _ h => h.2)) (fun _ h => h.1)); have n1_ := mk0 (KeepBut.trans (by repeat (first | (with_reducible first | exact HK.out | apply KeepBut.set_ | apply keep_drewN | apply keep_drew | apply keep_alloc) | exact HK.out)) hk (.inl rfl)); have n2_ := mk0 (hb); have n3_ := mk0 (hi); clear HO144; clear HK; clear HB; clear HI0; have HO144 := n0_; have HK := n1_; have HB := n2_; have HI0 := n3_; clear n0_ n1_ n2_ n3_; (try clear hb); (try clear hb2); (try clear hk); (try clear hi); obtain ⟨Ao11, co11, eo11⟩ := Kd.R_slice HO144.out; subst eo11; have p147 : 0 ≤ (t145 : Int) := of_decide_eq_true (by assumption); have q147 : t145 < (y142.length : Int) := of_decide_eq_true (by assumption); obtain ⟨ad147, e147, hx147_0⟩ := Kd.at_string (Kd.R_reads' HO144.out).2.2 t145 p147 q147; cases e147; replace p147 := eq_true p147; replace q147 := eq_true q147))
    go_ret
    exact ⟨by first | rfl | (simp [errW_none, errW_some] <;> rfl) | (simp [*, errW_none, errW_some] <;> rfl), by repeat (first | (with_reducible first | exact HI0.out | apply IsS28.alloc | apply IsS28.drewN | apply IsS28.drew | apply IsS28.set_1) | exact HI0.out), by repeat (first | (with_reducible first | exact HB.out | apply b_a | apply b_n | apply b_d | refine below_set ?_ (IsS28.ge HI0.out)) | exact HB.out), by repeat (first | (with_reducible first | exact HK.out | apply KeepBut.set_ | apply keep_drewN | apply keep_drew | apply keep_alloc) | exact HK.out)⟩
   ·rw [if_neg c6] at H
    exact absurd H (by simp)
  ·rw [if_neg c5] at H
   exact absurd H (by simp)
 ·rw [if_neg c3] at H
  have c3b0 : (t140 == 0) = false := beq_eq_false_iff_ne.mpr c3
  have c3b1 : (t140 != 0) = true := bne_iff_ne.mpr c3
  replace H := Option.bind_eq_some_iff.mp H
  obtain ⟨⟨t148, t149⟩, A120, H⟩ := H
  replace H : (w6_code.l0 k ([] : List Int) (wrap64 (1 + t148)) 0 s0_0 t149) = some (r1, r2) := H
  have A12 := mk0 A120
  clear A120
  have H' := mk0 H
  clear H
  go_enter Tryz.func6, Tryz.ntmps6
  go_wp2_with (first | ((with_reducible refine gate_callee (f := 14) rfl ?_); refine goesL_ (some 7) rfl rfl Tryz.func14 (by kernel_rfl) rfl #[.pointer (some ⟨g, 0, none⟩), .int .i64 8] rfl (by (try simp only [List.map_toArray, List.map_cons, List.map_nil]); first | done | rfl) ?_; (with_reducible refine (m_Tape_Next.calls g s0_0 s0_1 8 t140 t141 w0 _ ?side1 ?side2 A2.out).mono ?_); (case side1 => repeat (first | (with_reducible first | exact HI0.out | apply IsS28.alloc | apply IsS28.drewN | apply IsS28.drew | apply IsS28.set_1) | exact HI0.out)); (case side2 => repeat (first | (with_reducible first | exact HB.out | apply b_a | apply b_n | apply b_d | refine below_set ?_ (IsS28.ge HI0.out)) | exact HB.out)); rintro e w13 ⟨rfl, hi, hb, hk⟩; refine ⟨_, rfl, ?_⟩; have n0_ := mk0 (KeepBut.trans (by repeat (first | (with_reducible first | exact HK.out | apply KeepBut.set_ | apply keep_drewN | apply keep_drew | apply keep_alloc) | exact HK.out)) hk (.inl rfl)); have n1_ := mk0 (hb); have n2_ := mk0 (hi); clear HK; clear HB; clear HI0; have HK := n0_; have HB := n1_; have HI0 := n2_; clear n0_ n1_ n2_; (try clear hb); (try clear hb2); (try clear hk); (try clear hi)) | ((with_reducible refine gate_callee (f := 14) rfl ?_); refine goesL_ (some 15) rfl rfl Tryz.func14 (by kernel_rfl) rfl #[.pointer (some ⟨g, 0, none⟩), .int .i64 4] rfl (by (try simp only [List.map_toArray, List.map_cons, List.map_nil]); first | done | rfl) ?_; (with_reducible refine (m_Tape_Next.calls g s0_0 t141 4 t148 t149 w0 _ ?side1 ?side2 A12.out).mono ?_); (case side1 => repeat (first | (with_reducible first | exact HI0.out | apply IsS28.alloc | apply IsS28.drewN | apply IsS28.drew | apply IsS28.set_1) | exact HI0.out)); (case side2 => repeat (first | (with_reducible first | exact HB.out | apply b_a | apply b_n | apply b_d | refine below_set ?_ (IsS28.ge HI0.out)) | exact HB.out)); rintro e w14 ⟨rfl, hi, hb, hk⟩; refine ⟨_, rfl, ?_⟩; have n0_ := mk0 (KeepBut.trans (by repeat (first | (with_reducible first | exact HK.out | apply KeepBut.set_ | apply keep_drewN | apply keep_drew | apply keep_alloc) | exact HK.out)) hk (.inl rfl)); have n1_ := mk0 (hb); have n2_ := mk0 (hi); clear HK; clear HB; clear HI0; have HK := n0_; have HB := n1_; have HI0 := n2_; clear n0_ n1_ n2_; (try clear hb); (try clear hb2); (try clear hk); (try clear hi)))
  go_loopg [3, 17] k (fun kq v3 v17 w' => ∃ (x3_1 : List Int) (x17_1 : Int) (x1001_1 : Int), v17 = .int .i64 x17_1 ∧ Aside0 (w6_code.l0 kq x3_1 (wrap64 (1 + t148)) x17_1 s0_0 x1001_1 = some (r1, r2)) ∧ Aside0 (kq ≤ k) ∧ Aside0 (Kd.R (Kd.int .i64) 3 w' w.heap.size (fun _ => True) v3 x3_1) ∧ Aside0 (IsS28 w0 w' g s0_0 x1001_1) ∧ Aside0 (KeepBut w w' g none) ∧ Aside0 (Below w0.heap.size w0 w'))
  case atStart => exact ⟨(([] : List Int)), (0), (t149), (by first | rfl | (simp; done) | (simp [*]; done)), H', ⟨Nat.le_refl _⟩, ⟨by first | exact Kd.R_nil _ _ _ _ _ | exact Kd.N_nil _ _ _ _ _ | exact Kd.V_nil _ _ _ _ _ | exact Kd.Q_nil _ _ _ _ _ | exact Kd.S_nil _ _ _ _ _⟩, ⟨by repeat (first | (with_reducible first | exact HI0.out | apply IsS28.alloc | apply IsS28.drewN | apply IsS28.drew | apply IsS28.set_1) | exact HI0.out)⟩, ⟨by repeat (first | (with_reducible first | exact HK.out | apply KeepBut.set_ | apply keep_drewN | apply keep_drew | apply keep_alloc) | exact HK.out)⟩, ⟨by repeat (first | (with_reducible first | exact HB.out | apply b_a | apply b_n | apply b_d | refine below_set ?_ (IsS28.ge HI0.out)) | exact HB.out)⟩⟩
  case round =>
   clear H'
   try clear c1
   try clear p1
   try clear q1
   try clear hx1
   try clear p2
   try clear c3
   try clear c3b0
   try clear c3b1
   try clear c5
   try clear c5b0
   try clear c6
   try clear c6b0
   try clear p6
   try clear c14
   try clear p14
   try clear q14
   try clear hx14
   try clear hx147_0
   try clear p147
   try clear q147
   obtain ⟨x3_1, x17_1, x1001_1, rfl, HA, HK1, HO_3, HI0, HK, HB⟩ := hrel
   cases gk with
   | zero => exact absurd HA.out (by simp [w6_code.l0])
   | succ k1 =>
    have H := HA.out
    clear HA
    simp only [w6_code.l0] at H
    by_cases c15 : x17_1 < (wrap64 (1 + t148))
    ·rw [if_pos c15] at H
     have c15b0 : decide (x17_1 < (wrap64 (1 + t148))) = true := decide_eq_true c15
     clear c15
     obtain ⟨y150, hy150⟩ : ∃ y_ : List Int, y_ = (([1, 2, 10, 99] : List Int)) := ⟨_, rfl⟩
     replace H : ((m_Tape_Next.f s0_0 x1001_1 4).bind fun bt153 => (if 0 ≤ bt153.1 then (if bt153.1 < (y150.length : Int) then (if x3_1.length < 17592186044416 then (w6_code.l0 k1 (x3_1 ++ [rd y150 bt153.1]) (wrap64 (1 + t148)) (wrap64 (x17_1 + 1)) s0_0 bt153.2) else (none)) else (none)) else (none))) = some (r1, r2) := by first | (rw [hy150]; with_reducible exact H) | (have H2_ := (Option.bind_some _ _).symm.trans H; rw [hy150]; with_reducible exact H2_) | (have H2_ := (Option.bind_some _ _).symm.trans H; with_reducible exact H2_) | with_reducible exact H | (rw [hy150]; exact H) | exact H
     have Ny150 := mk0 hy150
     clear hy150
     replace H := Option.bind_eq_some_iff.mp H
     obtain ⟨⟨t153, t154⟩, A160, H⟩ := H
     replace H : (if 0 ≤ t153 then (if t153 < (y150.length : Int) then (if x3_1.length < 17592186044416 then (w6_code.l0 k1 (x3_1 ++ [rd y150 t153]) (wrap64 (1 + t148)) (wrap64 (x17_1 + 1)) s0_0 t154) else (none)) else (none)) else (none)) = some (r1, r2) := H
     have A16 := mk0 A160
     clear A160
     by_cases c17 : 0 ≤ t153
     ·rw [if_pos c17] at H
      have c17b0 : decide (0 ≤ t153) = true := decide_eq_true c17
      clear c17
      by_cases c18 : t153 < (y150.length : Int)
      ·rw [if_pos c18] at H
       have c18b0 : decide (t153 < (y150.length : Int)) = true := decide_eq_true c18
       clear c18
       by_cases c19 : x3_1.length < 17592186044416
       ·rw [if_pos c19] at H
        have LMc19 := mk0 c19
        clear c19
        obtain ⟨y156, hy156⟩ : ∃ y_ : List Int, y_ = (x3_1 ++ [rd y150 t153]) := ⟨_, rfl⟩
        replace H : (w6_code.l0 k1 y156 (wrap64 (1 + t148)) (wrap64 (x17_1 + 1)) s0_0 t154) = some (r1, r2) := by first | (rw [hy156]; with_reducible exact H) | (have H2_ := (Option.bind_some _ _).symm.trans H; rw [hy156]; with_reducible exact H2_) | (have H2_ := (Option.bind_some _ _).symm.trans H; with_reducible exact H2_) | with_reducible exact H | (rw [hy156]; exact H) | exact H
        have Ny156 := mk0 hy156
        clear hy156
        have H' := mk0 H
        clear H
        go_wp2_with (first | ((with_reducible refine gate_dst (N := 20) rfl ?_); refine Kd.R_lit (Kd.int .i64) _ 3 ?hg (N := 20) ?hd (xs := ([1, 2, 10, 99] : List Int)) (inner := [.int .i64 1, .int .i64 2, .int .i64 10, .int .i64 99]) (ok := fun _ => True) (okp := fun _ => True) ?hr ?hp (fun _ hk => hk) trivial (Below.refl _ _) (Nat.le_refl _) (by simp) ?_; (case hd => rfl); (case hg => rfl); (case hr => first | (go_simp; done) | (go_simp; rfl)); (case hp => exact (Reps.one (show Kd.M (Kd.int .i64) _ _ _ 1 [.int .i64 1] from rfl) (Reps.one (show Kd.M (Kd.int .i64) _ _ _ 2 [.int .i64 2] from rfl) (Reps.one (show Kd.M (Kd.int .i64) _ _ _ 10 [.int .i64 10] from rfl) (Reps.one (show Kd.M (Kd.int .i64) _ _ _ 99 [.int .i64 99] from rfl) (Reps.none _ _)))))); intro v151 w20 ho21 hb hg_ hnew_; clear hg_ hnew_; (first | rw [← Ny150.out] at ho21 | (simp only [Int.reduceToNat] at ho21; rw [← Ny150.out] at ho21)); have n0_ := mk0 (Kd.R_elder' (by (with_reducible repeat (first | apply r_a | apply r_n | apply r_d)); exact HO_3.out) (Kd.R_base ho21) hb); have n1_ := mk0 (Kd.R_lower (Kd.R_new' ho21 (Kd.R_lt (by (with_reducible repeat (first | apply r_a | apply r_n | apply r_d)); exact HO_3.out))) (keep_size (w := w) (g := g) (row := none) (by repeat (first | (with_reducible first | exact HK.out | apply KeepBut.set_ | apply keep_drewN | apply keep_drew | apply keep_alloc) | exact HK.out)))); have n2_ := mk0 (IsS28.below (by repeat (first | (with_reducible first | exact HI0.out | apply IsS28.alloc | apply IsS28.drewN | apply IsS28.drew | apply IsS28.set_1) | exact HI0.out)) hb); have n3_ := mk0 (KeepBut.trans (by repeat (first | (with_reducible first | exact HK.out | apply KeepBut.set_ | apply keep_drewN | apply keep_drew | apply keep_alloc) | exact HK.out)) (KeepBut.of_below hb g none) (.inl rfl)); have n4_ := mk0 (below_step (by repeat (with_reducible first | exact HB.out | apply b_a | apply b_n | apply b_d | refine below_set ?_ (IsS28.ge HI0.out))) hb); clear HO_3; clear HI0; clear HK; clear HB; have HO_3 := n0_; have HO152 := n1_; have HI0 := n2_; have HK := n3_; have HB := n4_; clear n0_ n1_ n2_ n3_ n4_; clear hb ho21) | ((with_reducible refine gate_callee (f := 14) rfl ?_); refine goesL_ (some 22) rfl rfl Tryz.func14 (by kernel_rfl) rfl #[.pointer (some ⟨g, 0, none⟩), .int .i64 4] rfl (by (try simp only [List.map_toArray, List.map_cons, List.map_nil]); first | done | rfl) ?_; (with_reducible refine (m_Tape_Next.calls g s0_0 x1001_1 4 t153 t154 w0 _ ?side1 ?side2 A16.out).mono ?_); (case side1 => repeat (first | (with_reducible first | exact HI0.out | apply IsS28.alloc | apply IsS28.drewN | apply IsS28.drew | apply IsS28.set_1) | exact HI0.out)); (case side2 => repeat (first | (with_reducible first | exact HB.out | apply b_a | apply b_n | apply b_d | refine below_set ?_ (IsS28.ge HI0.out)) | exact HB.out)); rintro e w22 ⟨rfl, hi, hb, hk⟩; refine ⟨_, rfl, ?_⟩; have n0_ := mk0 (Kd.R_mono (Kd.R_keep (IsS28.apart (show IsS28 w0 _ g s0_0 x1001_1 from by repeat (first | (with_reducible first | exact HI0.out | apply IsS28.alloc | apply IsS28.drewN | apply IsS28.drew | apply IsS28.set_1) | exact HI0.out)) (by (with_reducible repeat (first | apply r_a | apply r_n | apply r_d)); exact HO_3.out) (by decide)) hk (fun _ h => h.2)) (fun _ h => h.1)); have n1_ := mk0 (Kd.R_mono (Kd.R_keep (IsS28.apart (show IsS28 w0 _ g s0_0 x1001_1 from by repeat (first | (with_reducible first | exact HI0.out | apply IsS28.alloc | apply IsS28.drewN | apply IsS28.drew | apply IsS28.set_1) | exact HI0.out)) (by (with_reducible repeat (first | apply r_a | apply r_n | apply r_d)); exact HO152.out) (by decide)) hk (fun _ h => h.2)) (fun _ h => h.1)); have n2_ := mk0 (KeepBut.trans (by repeat (first | (with_reducible first | exact HK.out | apply KeepBut.set_ | apply keep_drewN | apply keep_drew | apply keep_alloc) | exact HK.out)) hk (.inl rfl)); have n3_ := mk0 (hb); have n4_ := mk0 (hi); clear HO_3; clear HO152; clear HK; clear HB; clear HI0; have HO_3 := n0_; have HO152 := n1_; have HK := n2_; have HB := n3_; have HI0 := n4_; clear n0_ n1_ n2_ n3_ n4_; (try clear hb); (try clear hb2); (try clear hk); (try clear hi); obtain ⟨Ao23, co23, eo23⟩ := Kd.R_slice HO152.out; subst eo23; have p155 : 0 ≤ (t153 : Int) := of_decide_eq_true (by assumption); have q155 : t153 < (y150.length : Int) := of_decide_eq_true (by assumption); obtain ⟨ad155, e155, hx155_0⟩ := Kd.at_int (Kd.R_reads' HO152.out).2.2 t153 p155 q155; cases e155; replace p155 := eq_true p155; replace q155 := eq_true q155) | ((with_reducible refine gate_builtin (b := .append) (xs := #[.tmp 19, .tmp 25]) rfl ?_); at_builtin; refine Kd.R_append (Kd.int .i64) w.heap.size rfl (.tmp 19) (.tmp 25) 25 3 (.int .i64 0) 8 rfl Tryz.underlying25 info3 rfl (by decide) (by omega) u3 x3_1 (rd y150 t153) [.int .i64 (rd y150 t153)] (fun k_ => some k_ ≠ (.slice (some ad155) y150.length co23 : Value).ownBlock) (fun _ => False) rfl rfl ?aP (fun _ hk => hk.elim) ?aF ?aO (Below.refl _ _) ?aS ?aL ?_; (case aP => exact rfl); (case aF => exact (fun k_ hk => Kd.fresh' (Kd.R_lt (by (with_reducible repeat (first | apply r_a | apply r_n | apply r_d)); exact HO152.out)) k_ hk)); (case aO => exact (by (with_reducible repeat (first | apply r_a | apply r_n | apply r_d)); exact Kd.R_mono HO_3.out (fun _ hk => hk.2))); (case aS => exact (keep_size (w := w) (g := g) (row := none) (by repeat (first | (with_reducible first | exact HK.out | apply KeepBut.set_ | apply keep_drewN | apply keep_drew | apply keep_alloc) | exact HK.out)))); (case aL => have := LMc19.out; omega); intro v157 w24 ho hb hg hat; rw [← Ny156.out] at ho; have n0_ := mk0 (IsS28.grown (by repeat (first | (with_reducible first | exact HI0.out | apply IsS28.alloc | apply IsS28.drewN | apply IsS28.drew | apply IsS28.set_1) | exact HI0.out)) hg (IsS28.own_ne HI0.out HO_3.out (by decide))); have n1_ := mk0 (Kd.R_after (ok := (fun _ => True)) (by (with_reducible repeat (first | apply r_a | apply r_n | apply r_d)); exact HO152.out) hg hat); have n2_ := mk0 (below_weaken (by repeat (with_reducible first | exact HB.out | apply b_a | apply b_n | apply b_d | refine below_set ?_ (IsS28.ge HI0.out))) HL.out hb); have n3_ := mk0 (KeepBut.trans (by repeat (first | (with_reducible first | exact HK.out | apply KeepBut.set_ | apply keep_drewN | apply keep_drew | apply keep_alloc) | exact HK.out)) (KeepBut.of_grown hg g) (Kd.R_base2 HO_3.out)); have n4_ := mk0 (ho); clear HI0; clear HO152; clear HB; clear HK; clear HO_3; have HI0 := n0_; have HO152 := n1_; have HB := n2_; have HK := n3_; have HO158 := n4_; clear n0_ n1_ n2_ n3_ n4_; clear ho hb hg hat))
        go_roundg k1
        case measure => have := HK1.out; omega
        case rel => exact ⟨(y156), (wrap64 (x17_1 + 1)), (t154), (by first | rfl | (simp; done) | (simp [*]; done)), H', ⟨by have := HK1.out; omega⟩, ⟨by (with_reducible repeat (first | apply r_a | apply r_n | apply r_d)); exact Kd.R_mono HO158.out (fun _ hk => trivial)⟩, ⟨by repeat (first | (with_reducible first | exact HI0.out | apply IsS28.alloc | apply IsS28.drewN | apply IsS28.drew | apply IsS28.set_1) | exact HI0.out)⟩, ⟨by repeat (first | (with_reducible first | exact HK.out | apply KeepBut.set_ | apply keep_drewN | apply keep_drew | apply keep_alloc) | exact HK.out)⟩, ⟨by repeat (first | (with_reducible first | exact HB.out | apply b_a | apply b_n | apply b_d | refine below_set ?_ (IsS28.ge HI0.out)) | exact HB.out)⟩⟩
       ·rw [if_neg c19] at H
        exact absurd H (by simp)
      ·rw [if_neg c18] at H
       exact absurd H (by simp)
     ·rw [if_neg c17] at H
      exact absurd H (by simp)
    ·rw [if_neg c15] at H
     have c15b0 : decide (x17_1 < (wrap64 (1 + t148))) = false := decide_eq_false c15
     clear c15
     replace H := Option.bind_eq_some_iff.mp H
     obtain ⟨⟨t159, t160⟩, A250, H⟩ := H
     replace H : (some (t159, x1001_1)) = some (r1, r2) := H
     have A25 := mk0 A250
     clear A250
     simp only [Option.some.injEq, Prod.mk.injEq] at H
     obtain ⟨rfl, rfl⟩ := H
     obtain ⟨Ao26, co26, eo26⟩ := Kd.R_slice HO_3.out
     subst eo26
     go_wp2_with (first | ((with_reducible refine gate_callee (f := 15) rfl ?_); refine goesL_ (some 30) rfl rfl Tryz.func15 (by kernel_rfl) rfl #[.slice Ao26 x3_1.length co26] rfl (by (try simp only [List.map_toArray, List.map_cons, List.map_nil]); first | done | rfl) ?_; (with_reducible refine (r6_Format.calls k1 _ _ x3_1 t159 t160 _ ?side1 ?side2 A25.out).mono ?_); (case side1 => repeat (first | exact (Kd.R_reads' HO_3.out).2.2 | (with_reducible refine Kd.C_alloc ?_ _) | (with_reducible refine Kd.C_drewN ?_ _) | (with_reducible refine Kd.C_drew ?_))); (case side2 => exact (Kd.R_reads' HO_3.out).2.1); rintro e w27 ⟨rfl, hb⟩; refine ⟨_, rfl, ?_⟩; have n0_ := mk0 (Kd.R_below (by (with_reducible repeat (first | apply r_a | apply r_n | apply r_d)); exact HO_3.out) hb); have n1_ := mk0 (IsS28.below (by repeat (first | (with_reducible first | exact HI0.out | apply IsS28.alloc | apply IsS28.drewN | apply IsS28.drew | apply IsS28.set_1) | exact HI0.out)) hb); have n2_ := mk0 (KeepBut.trans (by repeat (first | (with_reducible first | exact HK.out | apply KeepBut.set_ | apply keep_drewN | apply keep_drew | apply keep_alloc) | exact HK.out)) (KeepBut.of_below hb g none) (.inl rfl)); have n3_ := mk0 (below_step (by repeat (with_reducible first | exact HB.out | apply b_a | apply b_n | apply b_d | refine below_set ?_ (IsS28.ge HI0.out))) hb); clear HO_3; clear HI0; clear HK; clear HB; have HO_3 := n0_; have HI0 := n1_; have HK := n2_; have HB := n3_; clear n0_ n1_ n2_ n3_; (try clear hb)))
     go_ret
     exact ⟨by first | rfl | (simp [errW_none, errW_some] <;> rfl) | (simp [*, errW_none, errW_some] <;> rfl), by repeat (first | (with_reducible first | exact HI0.out | apply IsS28.alloc | apply IsS28.drewN | apply IsS28.drew | apply IsS28.set_1) | exact HI0.out), by repeat (first | (with_reducible first | exact HB.out | apply b_a | apply b_n | apply b_d | refine below_set ?_ (IsS28.ge HI0.out)) | exact HB.out), by repeat (first | (with_reducible first | exact HK.out | apply KeepBut.set_ | apply keep_drewN | apply keep_drew | apply keep_alloc) | exact HK.out)⟩

end Go.Proofs.YtpnoliognpmkmaaGreatDoor.P
