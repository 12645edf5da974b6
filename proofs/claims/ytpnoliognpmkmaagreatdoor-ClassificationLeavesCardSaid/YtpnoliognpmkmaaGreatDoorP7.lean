/- Lean functions with the same answers as the program's Go functions, and for each the proof that the call comes to these answers; written by a program of mine out of the translation, the functions marked 'by hand' by me. -/
import Derived.Test.YtpnoliognpmkmaaGreatDoorP0
import Derived.Test.YtpnoliognpmkmaaGreatDoorP2
import Derived.Test.YtpnoliognpmkmaaGreatDoorP3
import Derived.Test.YtpnoliognpmkmaaGreatDoorP6
namespace Go.Proofs.YtpnoliognpmkmaaGreatDoor.P
open Go.RowKit Go.Proofs.YtpnoliognpmkmaaGreatDoorW.PrintWords Go.Proofs.YtpnoliognpmkmaaGreatDoorW.PrintLast Go.Proofs.YtpnoliognpmkmaaGreatDoorW.PrintMore
attribute [local go_sem] max2_int min2_int max_two min_two max_three min_three max_four min_four   -- for this text's walks alone
set_option linter.unusedVariables false
set_option linter.unusedSimpArgs false

/-! ### w6_spoiled: function 5 -/
def w6_spoiled.f (k : Nat) (s0_0 : List Int) (s0_1 : Int) : Option (ByteArray × List ByteArray × Int) := (m_Tape_Tree.f k s0_0 s0_1).bind fun bt239 => ((m_Tape_Next.f s0_0 bt239.2.2 (bt239.2.1.length : Int)).bind fun bt245 => ((m_Tape_Next.f s0_0 bt245.2 5).bind fun bt247 => (if bt247.1 = 0 then ((some (([] : List ByteArray) : List ByteArray)).bind fun y249 => (if 0 ≤ bt245.1 then (if bt245.1 ≤ (bt239.2.1.length : Int) then ((some (bt239.2.1.take (bt245.1 : Int).toNat : List ByteArray)).bind fun y252 => (if y249.length + y252.length < 8796093022208 then ((some (y249 ++ y252 : List ByteArray)).bind fun y256 => (if 0 ≤ (wrap64 (bt245.1 + 1)) then (if (wrap64 (bt245.1 + 1)) ≤ (bt239.2.1.length : Int) then ((some (bt239.2.1.drop ((wrap64 (bt245.1 + 1)) : Int).toNat : List ByteArray)).bind fun y259 => (if y256.length + y259.length < 8796093022208 then (some (bt239.1, (y256 ++ y259), bt247.2)) else (none))) else (none)) else (none))) else (none))) else (none)) else (none))) else (if bt247.1 = 1 then ((w6_code.f k s0_0 bt247.2).bind fun bt266 => (if 0 ≤ bt245.1 then (if bt245.1 < (bt239.2.1.length : Int) then (some (bt239.1, (bt239.2.1.set (bt245.1 : Int).toNat bt266.1), bt266.2)) else (none)) else (none))) else (if bt247.1 = 2 then (if 0 ≤ bt245.1 then (if bt245.1 < (bt239.2.1.length : Int) then (if bt239.2.1.length < 8796093022208 then (some (bt239.1, (bt239.2.1 ++ [rdOf ByteArray.empty bt239.2.1 bt245.1]), bt247.2)) else (none)) else (none)) else (none)) else (some (bt239.1, bt239.2.1, bt247.2)))))))
theorem w6_spoiled.mono : ∀ a0 a1 k, LeO (w6_spoiled.f k a0 a1) (w6_spoiled.f (k + 1) a0 a1) := by
 intro a0 a1 k
 unfold w6_spoiled.f
 repeat' first
   | (with_reducible exact w6_code.mono _ _ _)
   | (with_reducible exact m_Tape_Tree.mono _ _ _)
   | (with_reducible exact LeO.refl _)
   | (with_reducible exact LeO.none _)
   | (with_reducible refine LeO.ite ?_ ?_)
   | (with_reducible refine LeO.bind ?_ (fun _ => ?_))
def w6_spoiled.T5 : Bool × List (List Nat × List Nat) := (true, [([], []), ([], []), ([1], [1]), ([], []), ([2, 3], [2, 3]), ([0, 4], [0, 4]), ([], []), ([6], [6]), ([], []), ([8], [8]), ([7, 9], [7, 9]), ([5, 10, 5], [5, 10]), ([0, 1, 2, 3, 4, 5, 6, 7, 8, 9, 10, 11], []), ([12, 11, 11, 0, 1, 2, 3, 4, 5, 6, 7, 8, 9, 10, 11], [11, 12])])
def w6_spoiled.B5 : List Nat := [0, 0, 2, 0, 14, 31, 0, 64, 0, 256, 960, 2047, 4095, 8191]
theorem w6_spoiled.tab5 : rtab .any (opsOf Tryz.f5 5) = w6_spoiled.T5 := by kernel_rfl
theorem w6_spoiled.bits5 : waitsOk w6_spoiled.T5.2 w6_spoiled.B5 = true := by kernel_rfl
def w6_spoiled.T9 : Bool × List (List Nat × List Nat) := (true, [([], []), ([0], [0]), ([], []), ([2], [2]), ([], []), ([3, 4], [3, 4]), ([5], [5]), ([6], [6]), ([1, 7], [1, 7]), ([0, 1, 2, 3, 4, 5, 6, 7, 8], []), ([9, 8, 8, 0, 1, 2, 3, 4, 5, 6, 7, 8], [8, 9])])
def w6_spoiled.B9 : List Nat := [0, 1, 0, 4, 0, 28, 60, 124, 255, 511, 1023]
theorem w6_spoiled.tab9 : rtab .any (opsOf Tryz.f5 9) = w6_spoiled.T9 := by kernel_rfl
theorem w6_spoiled.bits9 : waitsOk w6_spoiled.T9.2 w6_spoiled.B9 = true := by kernel_rfl
set_option maxHeartbeats 8000000 in
set_option maxRecDepth 100000 in
theorem w6_spoiled.calls (k : Nat) (g : Nat) (s0_0 : List Int) (s0_1 : Int) (r1 : ByteArray) (r2 : List ByteArray) (r3 : Int) (w0 w : World) (hI : IsS28 w0 w g s0_0 s0_1) (hB : Below w0.heap.size w0 w) (h : w6_spoiled.f k s0_0 s0_1 = some (r1, r2, r3)) :
  Calls Tryz.prog 5 #[.pointer (some ⟨g, 0, none⟩)] w fun e w' => ∃ v1_ : Value, e = .returned (.agg #[.string r1, v1_]) ∧ Kd.R Kd.string 9 w' w.heap.size (fun _ => True) v1_ r2 ∧ IsS28 w0 w' g s0_0 r3 ∧ Below w0.heap.size w0 w' ∧ KeepBut w w' g none := by
 have hu24 := Tryz.underlying24
 have HI0 := mk0 hI
 have HK := mk0 (KeepBut.refl w g none)
 have HL := mk0 hB.size
 clear hI
 have HW0 := mk0 hB.size
 have HB := mk0 hB
 clear hB
 have H : ((m_Tape_Tree.f k s0_0 s0_1).bind fun bt239 => ((m_Tape_Next.f s0_0 bt239.2.2 (bt239.2.1.length : Int)).bind fun bt245 => ((m_Tape_Next.f s0_0 bt245.2 5).bind fun bt247 => (if bt247.1 = 0 then ((some (([] : List ByteArray) : List ByteArray)).bind fun y249 => (if 0 ≤ bt245.1 then (if bt245.1 ≤ (bt239.2.1.length : Int) then ((some (bt239.2.1.take (bt245.1 : Int).toNat : List ByteArray)).bind fun y252 => (if y249.length + y252.length < 8796093022208 then ((some (y249 ++ y252 : List ByteArray)).bind fun y256 => (if 0 ≤ (wrap64 (bt245.1 + 1)) then (if (wrap64 (bt245.1 + 1)) ≤ (bt239.2.1.length : Int) then ((some (bt239.2.1.drop ((wrap64 (bt245.1 + 1)) : Int).toNat : List ByteArray)).bind fun y259 => (if y256.length + y259.length < 8796093022208 then (some (bt239.1, (y256 ++ y259), bt247.2)) else (none))) else (none)) else (none))) else (none))) else (none)) else (none))) else (if bt247.1 = 1 then ((w6_code.f k s0_0 bt247.2).bind fun bt266 => (if 0 ≤ bt245.1 then (if bt245.1 < (bt239.2.1.length : Int) then (some (bt239.1, (bt239.2.1.set (bt245.1 : Int).toNat bt266.1), bt266.2)) else (none)) else (none))) else (if bt247.1 = 2 then (if 0 ≤ bt245.1 then (if bt245.1 < (bt239.2.1.length : Int) then (if bt239.2.1.length < 8796093022208 then (some (bt239.1, (bt239.2.1 ++ [rdOf ByteArray.empty bt239.2.1 bt245.1]), bt247.2)) else (none)) else (none)) else (none)) else (some (bt239.1, bt239.2.1, bt247.2)))))))) = some (r1, r2, r3) := h
 clear h
 replace H := Option.bind_eq_some_iff.mp H
 obtain ⟨⟨t239, t240, t243⟩, A20, H⟩ := H
 replace H : ((m_Tape_Next.f s0_0 t243 (t240.length : Int)).bind fun bt245 => ((m_Tape_Next.f s0_0 bt245.2 5).bind fun bt247 => (if bt247.1 = 0 then ((some (([] : List ByteArray) : List ByteArray)).bind fun y249 => (if 0 ≤ bt245.1 then (if bt245.1 ≤ (t240.length : Int) then ((some (t240.take (bt245.1 : Int).toNat : List ByteArray)).bind fun y252 => (if y249.length + y252.length < 8796093022208 then ((some (y249 ++ y252 : List ByteArray)).bind fun y256 => (if 0 ≤ (wrap64 (bt245.1 + 1)) then (if (wrap64 (bt245.1 + 1)) ≤ (t240.length : Int) then ((some (t240.drop ((wrap64 (bt245.1 + 1)) : Int).toNat : List ByteArray)).bind fun y259 => (if y256.length + y259.length < 8796093022208 then (some (t239, (y256 ++ y259), bt247.2)) else (none))) else (none)) else (none))) else (none))) else (none)) else (none))) else (if bt247.1 = 1 then ((w6_code.f k s0_0 bt247.2).bind fun bt266 => (if 0 ≤ bt245.1 then (if bt245.1 < (t240.length : Int) then (some (t239, (t240.set (bt245.1 : Int).toNat bt266.1), bt266.2)) else (none)) else (none))) else (if bt247.1 = 2 then (if 0 ≤ bt245.1 then (if bt245.1 < (t240.length : Int) then (if t240.length < 8796093022208 then (some (t239, (t240 ++ [rdOf ByteArray.empty t240 bt245.1]), bt247.2)) else (none)) else (none)) else (none)) else (some (t239, t240, bt247.2))))))) = some (r1, r2, r3) := H
 have A2 := mk0 A20
 clear A20
 replace H := Option.bind_eq_some_iff.mp H
 obtain ⟨⟨t245, t246⟩, A30, H⟩ := H
 replace H : ((m_Tape_Next.f s0_0 t246 5).bind fun bt247 => (if bt247.1 = 0 then ((some (([] : List ByteArray) : List ByteArray)).bind fun y249 => (if 0 ≤ t245 then (if t245 ≤ (t240.length : Int) then ((some (t240.take (t245 : Int).toNat : List ByteArray)).bind fun y252 => (if y249.length + y252.length < 8796093022208 then ((some (y249 ++ y252 : List ByteArray)).bind fun y256 => (if 0 ≤ (wrap64 (t245 + 1)) then (if (wrap64 (t245 + 1)) ≤ (t240.length : Int) then ((some (t240.drop ((wrap64 (t245 + 1)) : Int).toNat : List ByteArray)).bind fun y259 => (if y256.length + y259.length < 8796093022208 then (some (t239, (y256 ++ y259), bt247.2)) else (none))) else (none)) else (none))) else (none))) else (none)) else (none))) else (if bt247.1 = 1 then ((w6_code.f k s0_0 bt247.2).bind fun bt266 => (if 0 ≤ t245 then (if t245 < (t240.length : Int) then (some (t239, (t240.set (t245 : Int).toNat bt266.1), bt266.2)) else (none)) else (none))) else (if bt247.1 = 2 then (if 0 ≤ t245 then (if t245 < (t240.length : Int) then (if t240.length < 8796093022208 then (some (t239, (t240 ++ [rdOf ByteArray.empty t240 t245]), bt247.2)) else (none)) else (none)) else (none)) else (some (t239, t240, bt247.2)))))) = some (r1, r2, r3) := H
 have A3 := mk0 A30
 clear A30
 replace H := Option.bind_eq_some_iff.mp H
 obtain ⟨⟨t247, t248⟩, A40, H⟩ := H
 replace H : (if t247 = 0 then ((some (([] : List ByteArray) : List ByteArray)).bind fun y249 => (if 0 ≤ t245 then (if t245 ≤ (t240.length : Int) then ((some (t240.take (t245 : Int).toNat : List ByteArray)).bind fun y252 => (if y249.length + y252.length < 8796093022208 then ((some (y249 ++ y252 : List ByteArray)).bind fun y256 => (if 0 ≤ (wrap64 (t245 + 1)) then (if (wrap64 (t245 + 1)) ≤ (t240.length : Int) then ((some (t240.drop ((wrap64 (t245 + 1)) : Int).toNat : List ByteArray)).bind fun y259 => (if y256.length + y259.length < 8796093022208 then (some (t239, (y256 ++ y259), t248)) else (none))) else (none)) else (none))) else (none))) else (none)) else (none))) else (if t247 = 1 then ((w6_code.f k s0_0 t248).bind fun bt266 => (if 0 ≤ t245 then (if t245 < (t240.length : Int) then (some (t239, (t240.set (t245 : Int).toNat bt266.1), bt266.2)) else (none)) else (none))) else (if t247 = 2 then (if 0 ≤ t245 then (if t245 < (t240.length : Int) then (if t240.length < 8796093022208 then (some (t239, (t240 ++ [rdOf ByteArray.empty t240 t245]), t248)) else (none)) else (none)) else (none)) else (some (t239, t240, t248))))) = some (r1, r2, r3) := H
 have A4 := mk0 A40
 clear A40
 by_cases c5 : t247 = 0
 ·rw [if_pos c5] at H
  have c5b0 : (t247 == 0) = true := beq_iff_eq.mpr c5
  have c5b1 : (t247 != 0) = false := bne_eq_false_iff_eq.mpr c5
  clear c5
  obtain ⟨y249, hy249⟩ : ∃ y_ : List ByteArray, y_ = (([] : List ByteArray)) := ⟨_, rfl⟩
  replace H : (if 0 ≤ t245 then (if t245 ≤ (t240.length : Int) then ((some (t240.take (t245 : Int).toNat : List ByteArray)).bind fun y252 => (if y249.length + y252.length < 8796093022208 then ((some (y249 ++ y252 : List ByteArray)).bind fun y256 => (if 0 ≤ (wrap64 (t245 + 1)) then (if (wrap64 (t245 + 1)) ≤ (t240.length : Int) then ((some (t240.drop ((wrap64 (t245 + 1)) : Int).toNat : List ByteArray)).bind fun y259 => (if y256.length + y259.length < 8796093022208 then (some (t239, (y256 ++ y259), t248)) else (none))) else (none)) else (none))) else (none))) else (none)) else (none)) = some (r1, r2, r3) := by first | (rw [hy249]; with_reducible exact H) | (have H2_ := (Option.bind_some _ _).symm.trans H; rw [hy249]; with_reducible exact H2_) | (have H2_ := (Option.bind_some _ _).symm.trans H; with_reducible exact H2_) | with_reducible exact H | (rw [hy249]; exact H) | exact H
  have Ny249 := mk0 hy249
  clear hy249
  by_cases c6 : 0 ≤ t245
  ·rw [if_pos c6] at H
   have c6b0 := eq_true c6
   have c6b1 : decide (0 ≤ t245) = true := decide_eq_true c6
   clear c6
   by_cases c7 : t245 ≤ (t240.length : Int)
   ·rw [if_pos c7] at H
    have c7b0 := eq_true c7
    have c7b1 : decide (t245 ≤ (t240.length : Int)) = true := decide_eq_true c7
    clear c7
    obtain ⟨y252, hy252⟩ : ∃ y_ : List ByteArray, y_ = (t240.take (t245 : Int).toNat) := ⟨_, rfl⟩
    replace H : (if y249.length + y252.length < 8796093022208 then ((some (y249 ++ y252 : List ByteArray)).bind fun y256 => (if 0 ≤ (wrap64 (t245 + 1)) then (if (wrap64 (t245 + 1)) ≤ (t240.length : Int) then ((some (t240.drop ((wrap64 (t245 + 1)) : Int).toNat : List ByteArray)).bind fun y259 => (if y256.length + y259.length < 8796093022208 then (some (t239, (y256 ++ y259), t248)) else (none))) else (none)) else (none))) else (none)) = some (r1, r2, r3) := by first | (rw [hy252]; with_reducible exact H) | (have H2_ := (Option.bind_some _ _).symm.trans H; rw [hy252]; with_reducible exact H2_) | (have H2_ := (Option.bind_some _ _).symm.trans H; with_reducible exact H2_) | with_reducible exact H | (rw [hy252]; exact H) | exact H
    have Ny252 := mk0 hy252
    clear hy252
    by_cases c8 : y249.length + y252.length < 8796093022208
    ·rw [if_pos c8] at H
     have LMc8 := mk0 c8
     clear c8
     obtain ⟨y256, hy256⟩ : ∃ y_ : List ByteArray, y_ = (y249 ++ y252) := ⟨_, rfl⟩
     replace H : (if 0 ≤ (wrap64 (t245 + 1)) then (if (wrap64 (t245 + 1)) ≤ (t240.length : Int) then ((some (t240.drop ((wrap64 (t245 + 1)) : Int).toNat : List ByteArray)).bind fun y259 => (if y256.length + y259.length < 8796093022208 then (some (t239, (y256 ++ y259), t248)) else (none))) else (none)) else (none)) = some (r1, r2, r3) := by first | (rw [hy256]; with_reducible exact H) | (have H2_ := (Option.bind_some _ _).symm.trans H; rw [hy256]; with_reducible exact H2_) | (have H2_ := (Option.bind_some _ _).symm.trans H; with_reducible exact H2_) | with_reducible exact H | (rw [hy256]; exact H) | exact H
     have Ny256 := mk0 hy256
     clear hy256
     obtain ⟨ji9, hji9⟩ : ∃ j_ : Int, (wrap64 (t245 + 1)) = j_ := ⟨_, rfl⟩
     replace H : (if 0 ≤ (ji9) then (if (ji9) ≤ (t240.length : Int) then ((some (t240.drop ((ji9) : Int).toNat : List ByteArray)).bind fun y259 => (if y256.length + y259.length < 8796093022208 then (some (t239, (y256 ++ y259), t248)) else (none))) else (none)) else (none)) = some (r1, r2, r3) := by first | (rw [hji9] at H; exact H) | (simp only [hji9] at H ⊢; exact H)
     (try rw [hji9] at A2)
     (try rw [hji9] at A3)
     (try rw [hji9] at A4)
     have hji9w : (IntKind.i64.wrap (t245 + 1)) = ji9 := (i64_w _).trans hji9
     by_cases c10 : 0 ≤ (ji9)
     ·rw [if_pos c10] at H
      have c10b0 := eq_true c10
      have c10b1 : decide (0 ≤ (ji9)) = true := decide_eq_true c10
      clear c10
      by_cases c11 : (ji9) ≤ (t240.length : Int)
      ·rw [if_pos c11] at H
       have c11b0 := eq_true c11
       have c11b1 : decide ((ji9) ≤ (t240.length : Int)) = true := decide_eq_true c11
       clear c11
       obtain ⟨y259, hy259⟩ : ∃ y_ : List ByteArray, y_ = (t240.drop ((ji9) : Int).toNat) := ⟨_, rfl⟩
       replace H : (if y256.length + y259.length < 8796093022208 then (some (t239, (y256 ++ y259), t248)) else (none)) = some (r1, r2, r3) := by first | (rw [hy259]; with_reducible exact H) | (have H2_ := (Option.bind_some _ _).symm.trans H; rw [hy259]; with_reducible exact H2_) | (have H2_ := (Option.bind_some _ _).symm.trans H; with_reducible exact H2_) | with_reducible exact H | (rw [hy259]; exact H) | exact H
       have Ny259 := mk0 hy259
       clear hy259
       by_cases c12 : y256.length + y259.length < 8796093022208
       ·rw [if_pos c12] at H
        have LMc12 := mk0 c12
        clear c12
        obtain ⟨y263, hy263⟩ : ∃ y_ : List ByteArray, y_ = (y256 ++ y259) := ⟨_, rfl⟩
        replace H : (some (t239, y263, t248)) = some (r1, r2, r3) := by first | (rw [hy263]; with_reducible exact H) | (have H2_ := (Option.bind_some _ _).symm.trans H; rw [hy263]; with_reducible exact H2_) | (have H2_ := (Option.bind_some _ _).symm.trans H; with_reducible exact H2_) | with_reducible exact H | (rw [hy263]; exact H) | exact H
        have Ny263 := mk0 hy263
        clear hy263
        simp only [Option.some.injEq, Prod.mk.injEq] at H
        obtain ⟨rfl, rfl, rfl⟩ := H
        go_enter Tryz.func5, Tryz.ntmps5
        try go_wp2_with (first | ((with_reducible refine gate_dst (N := 2) rfl ?_); refine box_event ?hg (N := 2) ?hd (cs := #[.string (⟨#[]⟩ : ByteArray), .slice none 0 0]) (t := 24) ?hr ?_; (case hd => rfl); (case hg => rfl); (case hr => first | (go_simp; done) | (go_simp; rfl)); intro gb238 hg w13 hbox hb; have n0_ := mk0 (IsS28.below (by repeat (first | (with_reducible first | exact HI0.out | apply IsS28.alloc | apply IsS28.drewN | apply IsS28.drew | apply IsS28.set_1) | exact HI0.out)) hb); have n1_ := mk0 (KeepBut.trans (by repeat (first | (with_reducible first | exact HK.out | apply KeepBut.set_ | apply keep_drewN | apply keep_drew | apply keep_alloc) | exact HK.out)) (KeepBut.of_below hb g none) (.inl rfl)); have n2_ := mk0 (below_step (by repeat (with_reducible first | exact HB.out | apply b_a | apply b_n | apply b_d | refine below_set ?_ (IsS28.ge HI0.out))) hb); have n3_ := mk0 (hbox); have n4_ := mk0 ((by rw [hg]; exact (keep_size (w := w) (g := g) (row := none) (by repeat (first | (with_reducible first | exact HK.out | apply KeepBut.set_ | apply keep_drewN | apply keep_drew | apply keep_alloc) | exact HK.out))) : w.heap.size ≤ gb238)); have n5_ := mk0 ((Nat.le_trans HW0.out (by rw [hg]; exact (keep_size (w := w) (g := g) (row := none) (by repeat (first | (with_reducible first | exact HK.out | apply KeepBut.set_ | apply keep_drewN | apply keep_drew | apply keep_alloc) | exact HK.out))) : w.heap.size ≤ gb238) : w0.heap.size ≤ gb238)); have n6_ := mk0 ((by rw [hg]; exact Nat.ne_of_lt (IsS28.lt (show IsS28 w0 _ g s0_0 s0_1 from by repeat (first | (with_reducible first | exact HI0.out | apply IsS28.alloc | apply IsS28.drewN | apply IsS28.drew | apply IsS28.set_1) | exact HI0.out))) : g ≠ gb238)); have n7_ := mk0 ((by rw [hg]; exact Nat.ne_of_gt (IsS28.lt (show IsS28 w0 _ g s0_0 s0_1 from by repeat (first | (with_reducible first | exact HI0.out | apply IsS28.alloc | apply IsS28.drewN | apply IsS28.drew | apply IsS28.set_1) | exact HI0.out))) : gb238 ≠ g)); clear HI0; clear HK; clear HB; have HI0 := n0_; have HK := n1_; have HB := n2_; have BK238 := n3_; have GW238 := n4_; have GE238 := n5_; have NB0_238 := n6_; have NB238_0 := n7_; clear n0_ n1_ n2_ n3_ n4_ n5_ n6_ n7_; clear hb hbox hg) | ((with_reducible refine gate_callee (f := 13) rfl ?_); refine goesL_ (some 6) rfl rfl Tryz.func13 (by kernel_rfl) rfl #[.pointer (some ⟨g, 0, none⟩)] rfl (by (try simp only [List.map_toArray, List.map_cons, List.map_nil]); first | done | rfl) ?_; (with_reducible refine (m_Tape_Tree.calls k g s0_0 s0_1 t239 t240 t243 w0 _ ?side1 ?side2 A2.out).mono ?_); (case side1 => repeat (first | (with_reducible first | exact HI0.out | apply IsS28.alloc | apply IsS28.drewN | apply IsS28.drew | apply IsS28.set_1 | refine IsS28.far ?_ NB0_238.out _) | exact HI0.out)); (case side2 => repeat (first | (with_reducible first | exact HB.out | apply b_a | apply b_n | apply b_d | refine below_set ?_ (IsS28.ge HI0.out) | refine below_set ?_ GE238.out) | exact HB.out)); rintro e w14 ⟨v241, rfl, ho0, hi, hb, hk⟩; refine ⟨_, rfl, ?_⟩; have n0_ := mk0 (KeepBut.blk hk (g' := gb238) (o := .cells #[.string (⟨#[]⟩ : ByteArray), .slice none 0 0] 24 (0, 0)) (by (with_reducible repeat (first | refine blk_drewN ?_ _ | refine blk_drew ?_ | refine blk_alloc ?_ _)); exact BK238.out) NB238_0.out (by simp)); have n1_ := mk0 (Kd.R_lower ho0 (keep_size (w := w) (g := g) (row := none) (by repeat (first | (with_reducible first | exact HK.out | apply KeepBut.set_ | apply keep_drewN | apply keep_drew | apply keep_alloc | refine keep_far ?_ GW238.out _) | exact HK.out)))); have n2_ := mk0 (KeepBut.trans (by repeat (first | (with_reducible first | exact HK.out | apply KeepBut.set_ | apply keep_drewN | apply keep_drew | apply keep_alloc | refine keep_far ?_ GW238.out _) | exact HK.out)) hk (.inl rfl)); have n3_ := mk0 (hb); have n4_ := mk0 (hi); clear BK238; clear HK; clear HB; clear HI0; have BK238 := n0_; have HO242 := n1_; have HK := n2_; have HB := n3_; have HI0 := n4_; clear n0_ n1_ n2_ n3_ n4_; (try clear hb); (try clear hb2); (try clear hk); (try clear hi); (try clear ho0)) | ((with_reducible refine gate_dst (N := 3) rfl ?_); refine box_event ?hg (N := 3) ?hd (cs := #[.string (⟨#[]⟩ : ByteArray), .slice none 0 0]) (t := 24) ?hr ?_; (case hd => rfl); (case hg => rfl); (case hr => first | (go_simp; done) | (go_simp; rfl)); intro gb244 hg w15 hbox hb; have n0_ := mk0 (Kd.R_below (by (with_reducible repeat (first | apply r_a | apply r_n | apply r_d)); exact HO242.out) hb); have n1_ := mk0 (IsS28.below (by repeat (first | (with_reducible first | exact HI0.out | apply IsS28.alloc | apply IsS28.drewN | apply IsS28.drew | apply IsS28.set_1 | refine IsS28.far ?_ NB0_238.out _) | exact HI0.out)) hb); have n2_ := mk0 (blk_below (g := gb238) (o := .cells #[.string (⟨#[]⟩ : ByteArray), .slice none 0 0] 24 (0, 0)) (by (with_reducible repeat (first | refine blk_drewN ?_ _ | refine blk_drew ?_ | refine blk_alloc ?_ _)); exact BK238.out) hb); have n3_ := mk0 (KeepBut.trans (by repeat (first | (with_reducible first | exact HK.out | apply KeepBut.set_ | apply keep_drewN | apply keep_drew | apply keep_alloc | refine keep_far ?_ GW238.out _) | exact HK.out)) (KeepBut.of_below hb g none) (.inl rfl)); have n4_ := mk0 (below_step (by repeat (with_reducible first | exact HB.out | apply b_a | apply b_n | apply b_d | refine below_set ?_ (IsS28.ge HI0.out) | refine below_set ?_ GE238.out)) hb); have n5_ := mk0 (hbox); have n6_ := mk0 ((by rw [hg]; exact (keep_size (w := w) (g := g) (row := none) (by repeat (first | (with_reducible first | exact HK.out | apply KeepBut.set_ | apply keep_drewN | apply keep_drew | apply keep_alloc | refine keep_far ?_ GW238.out _) | exact HK.out))) : w.heap.size ≤ gb244)); have n7_ := mk0 ((Nat.le_trans HW0.out (by rw [hg]; exact (keep_size (w := w) (g := g) (row := none) (by repeat (first | (with_reducible first | exact HK.out | apply KeepBut.set_ | apply keep_drewN | apply keep_drew | apply keep_alloc | refine keep_far ?_ GW238.out _) | exact HK.out))) : w.heap.size ≤ gb244) : w0.heap.size ≤ gb244)); have n8_ := mk0 ((by rw [hg]; exact Nat.ne_of_lt (blk_lt (g := gb238) (o := .cells #[.string (⟨#[]⟩ : ByteArray), .slice none 0 0] 24 (0, 0)) (by (with_reducible repeat (first | refine blk_drewN ?_ _ | refine blk_drew ?_ | refine blk_alloc ?_ _)); exact BK238.out)) : gb238 ≠ gb244)); have n9_ := mk0 ((by rw [hg]; exact Nat.ne_of_gt (blk_lt (g := gb238) (o := .cells #[.string (⟨#[]⟩ : ByteArray), .slice none 0 0] 24 (0, 0)) (by (with_reducible repeat (first | refine blk_drewN ?_ _ | refine blk_drew ?_ | refine blk_alloc ?_ _)); exact BK238.out)) : gb244 ≠ gb238)); have n10_ := mk0 ((by rw [hg]; exact Nat.ne_of_lt (IsS28.lt (show IsS28 w0 _ g s0_0 t243 from by repeat (first | (with_reducible first | exact HI0.out | apply IsS28.alloc | apply IsS28.drewN | apply IsS28.drew | apply IsS28.set_1 | refine IsS28.far ?_ NB0_238.out _) | exact HI0.out))) : g ≠ gb244)); have n11_ := mk0 ((by rw [hg]; exact Nat.ne_of_gt (IsS28.lt (show IsS28 w0 _ g s0_0 t243 from by repeat (first | (with_reducible first | exact HI0.out | apply IsS28.alloc | apply IsS28.drewN | apply IsS28.drew | apply IsS28.set_1 | refine IsS28.far ?_ NB0_238.out _) | exact HI0.out))) : gb244 ≠ g)); clear HO242; clear HI0; clear BK238; clear HK; clear HB; have HO242 := n0_; have HI0 := n1_; have BK238 := n2_; have HK := n3_; have HB := n4_; have BK244 := n5_; have GW244 := n6_; have GE244 := n7_; have NB238_244 := n8_; have NB244_238 := n9_; have NB0_244 := n10_; have NB244_0 := n11_; clear n0_ n1_ n2_ n3_ n4_ n5_ n6_ n7_ n8_ n9_ n10_ n11_; clear hb hbox hg; have hnb16 := NB244_238.out; have hnc16 := NB238_244.out; have hnb17 := NB244_0.out; have hnc17 := NB0_244.out; have hcz18_0 : w15.cell? ⟨gb244, 0, none⟩ = some (.string (⟨#[]⟩ : ByteArray)) := (blk_cell BK244.out 0).trans rfl; have hcz18_1 : w15.cell? ⟨gb244, 1, none⟩ = some (.slice none 0 0) := (blk_cell BK244.out 1).trans rfl; have hfz18_0 := blk_frozen BK244.out 0; have hfz18_1 := blk_frozen BK244.out 1; obtain ⟨Ao19, co19, eo19⟩ := Kd.R_slice HO242.out; subst eo19) | ((with_reducible refine gate_callee (f := 14) rfl ?_); refine goesL_ (some 11) rfl rfl Tryz.func14 (by kernel_rfl) rfl #[.pointer (some ⟨g, 0, none⟩), .int .i64 (t240.length : Int)] rfl (by (try simp only [List.map_toArray, List.map_cons, List.map_nil]); first | done | rfl) ?_; (with_reducible refine (m_Tape_Next.calls g s0_0 t243 (t240.length : Int) t245 t246 w0 _ ?side1 ?side2 A3.out).mono ?_); (case side1 => repeat (first | (with_reducible first | exact HI0.out | apply IsS28.alloc | apply IsS28.drewN | apply IsS28.drew | apply IsS28.set_1 | refine IsS28.far ?_ NB0_238.out _ | refine IsS28.far ?_ NB0_244.out _) | exact HI0.out)); (case side2 => repeat (first | (with_reducible first | exact HB.out | apply b_a | apply b_n | apply b_d | refine below_set ?_ (IsS28.ge HI0.out) | refine below_set ?_ GE238.out | refine below_set ?_ GE244.out) | exact HB.out)); rintro e w20 ⟨rfl, hi, hb, hk⟩; refine ⟨_, rfl, ?_⟩; have n0_ := mk0 (KeepBut.blk hk (g' := gb238) (o := .cells #[.string (⟨#[]⟩ : ByteArray), .slice none 0 0] 24 (0, 0)) (by (with_reducible repeat (first | refine blk_drewN ?_ _ | refine blk_drew ?_ | refine blk_alloc ?_ _)); refine blk_far ?_ NB238_244.out _; (with_reducible repeat (first | refine blk_drewN ?_ _ | refine blk_drew ?_ | refine blk_alloc ?_ _)); refine blk_far ?_ NB238_244.out _; (with_reducible repeat (first | refine blk_drewN ?_ _ | refine blk_drew ?_ | refine blk_alloc ?_ _)); exact BK238.out) NB238_0.out (by simp)); have n1_ := mk0 (Kd.R_mono (Kd.R_keep (IsS28.apart (show IsS28 w0 _ g s0_0 t243 from by repeat (first | (with_reducible first | exact HI0.out | apply IsS28.alloc | apply IsS28.drewN | apply IsS28.drew | apply IsS28.set_1 | refine IsS28.far ?_ NB0_238.out _ | refine IsS28.far ?_ NB0_244.out _) | exact HI0.out)) (by (with_reducible repeat (first | apply r_a | apply r_n | apply r_d)); exact (Kd.R_mono (Kd.R_far (p := ⟨gb244, 1, none⟩) (Kd.R_far (p := ⟨gb244, 0, none⟩) (Kd.R_types HO242.out BK244.out (by decide)) (fun _ hk => hk.2) (.string t239)) (fun _ hk => hk.2) (.slice Ao19 t240.length co19)) (fun _ h_ => h_.1))) (by decide)) hk (fun _ h => h.2)) (fun _ h => h.1)); have n2_ := mk0 (KeepBut.blk hk (g' := gb244) (o := .cells #[.string t239, .slice Ao19 t240.length co19] 24 (0, 0)) (by (with_reducible repeat (first | refine blk_drewN ?_ _ | refine blk_drew ?_ | refine blk_alloc ?_ _)); refine blk_put (cs := #[.string t239, .slice none 0 0]) ?_ 1 _ rfl; (with_reducible repeat (first | refine blk_drewN ?_ _ | refine blk_drew ?_ | refine blk_alloc ?_ _)); refine blk_put (cs := #[.string (⟨#[]⟩ : ByteArray), .slice none 0 0]) ?_ 0 _ rfl; (with_reducible repeat (first | refine blk_drewN ?_ _ | refine blk_drew ?_ | refine blk_alloc ?_ _)); exact BK244.out) NB244_0.out (by simp)); have n3_ := mk0 (KeepBut.trans (by repeat (first | (with_reducible first | exact HK.out | apply KeepBut.set_ | apply keep_drewN | apply keep_drew | apply keep_alloc | refine keep_far ?_ GW238.out _ | refine keep_far ?_ GW244.out _) | exact HK.out)) hk (.inl rfl)); have n4_ := mk0 (hb); have n5_ := mk0 (hi); clear BK238; clear HO242; clear BK244; clear HK; clear HB; clear HI0; have BK238 := n0_; have HO242 := n1_; have BK244 := n2_; have HK := n3_; have HB := n4_; have HI0 := n5_; clear n0_ n1_ n2_ n3_ n4_ n5_; (try clear hb); (try clear hb2); (try clear hk); (try clear hi)) | ((with_reducible refine gate_callee (f := 14) rfl ?_); refine goesL_ (some 13) rfl rfl Tryz.func14 (by kernel_rfl) rfl #[.pointer (some ⟨g, 0, none⟩), .int .i64 5] rfl (by (try simp only [List.map_toArray, List.map_cons, List.map_nil]); first | done | rfl) ?_; (with_reducible refine (m_Tape_Next.calls g s0_0 t246 5 t247 t248 w0 _ ?side1 ?side2 A4.out).mono ?_); (case side1 => repeat (first | (with_reducible first | exact HI0.out | apply IsS28.alloc | apply IsS28.drewN | apply IsS28.drew | apply IsS28.set_1 | refine IsS28.far ?_ NB0_238.out _ | refine IsS28.far ?_ NB0_244.out _) | exact HI0.out)); (case side2 => repeat (first | (with_reducible first | exact HB.out | apply b_a | apply b_n | apply b_d | refine below_set ?_ (IsS28.ge HI0.out) | refine below_set ?_ GE238.out | refine below_set ?_ GE244.out) | exact HB.out)); rintro e w21 ⟨rfl, hi, hb, hk⟩; refine ⟨_, rfl, ?_⟩; have n0_ := mk0 (KeepBut.blk hk (g' := gb238) (o := .cells #[.string (⟨#[]⟩ : ByteArray), .slice none 0 0] 24 (0, 0)) (by (with_reducible repeat (first | refine blk_drewN ?_ _ | refine blk_drew ?_ | refine blk_alloc ?_ _)); exact BK238.out) NB238_0.out (by simp)); have n1_ := mk0 (Kd.R_mono (Kd.R_keep (IsS28.apart (show IsS28 w0 _ g s0_0 t246 from by repeat (first | (with_reducible first | exact HI0.out | apply IsS28.alloc | apply IsS28.drewN | apply IsS28.drew | apply IsS28.set_1 | refine IsS28.far ?_ NB0_238.out _ | refine IsS28.far ?_ NB0_244.out _) | exact HI0.out)) (by (with_reducible repeat (first | apply r_a | apply r_n | apply r_d)); exact HO242.out) (by decide)) hk (fun _ h => h.2)) (fun _ h => h.1)); have n2_ := mk0 (KeepBut.blk hk (g' := gb244) (o := .cells #[.string t239, .slice Ao19 t240.length co19] 24 (0, 0)) (by (with_reducible repeat (first | refine blk_drewN ?_ _ | refine blk_drew ?_ | refine blk_alloc ?_ _)); exact BK244.out) NB244_0.out (by simp)); have n3_ := mk0 (KeepBut.trans (by repeat (first | (with_reducible first | exact HK.out | apply KeepBut.set_ | apply keep_drewN | apply keep_drew | apply keep_alloc | refine keep_far ?_ GW238.out _ | refine keep_far ?_ GW244.out _) | exact HK.out)) hk (.inl rfl)); have n4_ := mk0 (hb); have n5_ := mk0 (hi); clear BK238; clear HO242; clear BK244; clear HK; clear HB; clear HI0; have BK238 := n0_; have HO242 := n1_; have BK244 := n2_; have HK := n3_; have HB := n4_; have HI0 := n5_; clear n0_ n1_ n2_ n3_ n4_ n5_; (try clear hb); (try clear hb2); (try clear hk); (try clear hi)))
        have n0_ := mk0 (r_d HO242.out)
        have n1_ := mk0 (blk_drew BK238.out)
        have n2_ := mk0 (blk_drew BK244.out)
        have n3_ := mk0 (IsS28.drew HI0.out)
        have n4_ := mk0 (keep_drew HK.out)
        have n5_ := mk0 (b_d HB.out)
        clear HO242
        clear BK238
        clear BK244
        clear HI0
        clear HK
        clear HB
        have HO242 := n0_
        have BK238 := n1_
        have BK244 := n2_
        have HI0 := n3_
        have HK := n4_
        have HB := n5_
        clear n0_ n1_ n2_ n3_ n4_ n5_
        have q23 : (t245 : Int) ≤ ((t240.length : Int) : Int) := of_decide_eq_true (by assumption)
        obtain ⟨i023, hi023, _, hsz23, _⟩ := info_parts info9
        have hroom23 : t240.length ≤ co19 := (Kd.R_reads' HO242.out).2.1
        have hC23 : Kd.C Kd.string _ Ao19 t240.length t240 := (Kd.R_reads' HO242.out).2.2
        have hcut23 := cut_to (P := Tryz.prog) 22 9 .i64 Tryz.underlying22 hi023 Ao19 t240.length co19 t245 (of_decide_eq_true (by assumption)) q23 hroom23
        have hr23 := Kd.C_take (m := (t245 : Int).toNat) hC23 (by omega)
        have hy23 : y252.length = (t245 : Int).toNat := (by rw [Ny252.out, List.length_take]; omega)
        rw [← Ny252.out] at hr23
        rw [← hy23] at hcut23
        have HR255 := mk0 hr23
        have HC255 := mk0 (show y252.length ≤ co19 from by omega)
        clear hr23 hC23 hroom23 hi023 hsz23
        have KY23 := mk0 hy23
        clear hy23
        have KL23 := mk0 (show (t245 : Int).toNat ≤ t240.length from by omega)
        replace q23 := eq_true q23
        have q24 : ((ji9) : Int) ≤ ((t240.length : Int) : Int) := of_decide_eq_true (by assumption)
        obtain ⟨i024, hi024, _, hsz24, _⟩ := info_parts info9
        have hroom24 : t240.length ≤ co19 := (Kd.R_reads' HO242.out).2.1
        have hC24 : Kd.C Kd.string _ Ao19 t240.length t240 := (Kd.R_reads' HO242.out).2.2
        have q024 : (0 : Int) ≤ ((ji9) : Int) := of_decide_eq_true (by assumption)
        have hcut24 := cut_from (P := Tryz.prog) 22 9 .i64 Tryz.underlying22 hi024 1 hsz24 Ao19 t240.length co19 (ji9) q024 q24
        have hr24 := Kd.C_drop (m := ((ji9) : Int).toNat) (c := co19) hC24 (by omega) hroom24
        obtain ⟨A24, hA24⟩ : ∃ A1, A1 = (if co19 = ((ji9) : Int).toNat then Ao19 else (Ao19 : Option Addr).map (·.add (((ji9) : Int).toNat * 1))) := ⟨_, rfl⟩
        obtain ⟨c24, hc24⟩ : ∃ c1, c1 = co19 - ((ji9) : Int).toNat := ⟨_, rfl⟩
        have hy24 : y259.length = t240.length - ((ji9) : Int).toNat := (by rw [Ny259.out, List.length_drop] <;> omega)
        rw [show (t240).drop ((ji9) : Int).toNat = y259 from Ny259.out.symm] at hr24
        replace hr24 : Kd.C Kd.string _ A24 y259.length y259 := (by rw [hA24]; exact hr24)
        rw [← hy24, ← hA24, ← hc24] at hcut24
        have HR262 := mk0 hr24
        have HC262 := mk0 (show y259.length ≤ c24 from by rw [hy24, hc24]; exact Nat.sub_le_sub_right hroom24 _)
        clear hr24 hC24 hroom24 hi024 hsz24 hc24
        have KY24 := mk0 hy24
        have KA24 := mk0 hA24
        clear hy24 hA24
        have KL24 := mk0 (show ((ji9) : Int).toNat ≤ t240.length from by omega)
        replace q24 := eq_true q24
        refine start_ (n := 14) (S := fun w' => w'.cell? ⟨gb244, 0, none⟩ = some (.string t239) ∧ w'.cell? ⟨gb244, 1, none⟩ = some (.slice Ao19 t240.length co19)) (ds := [13]) #[false, false, false, false, false, false, false, false, false, false, false, false, false, false] (by kernel_rfl) rfl rfl ⟨(blk_cell BK244.out 0).trans rfl, (blk_cell BK244.out 1).trans rfl⟩ (fun hHeld => ?_); refine with_tabW w6_spoiled.tab5 w6_spoiled.bits5 (fun HT_ HW_ => ?_)
        generalize w21.drew = w22 at HO242 BK238 BK244 HI0 HK HB HR255 HR262 hHeld ⊢
        refine pure_ (i := 1) (N := some 17) (v := ?_) (a' := ?_) #[false, true, false, false, false, false, false, false, false, false, false, false, false, false] rfl rfl (any_of HT_.out (by kernel_rfl)) (fun _ _ _ h => h) (Or.inl ⟨by rfl, ?_⟩) ?_ ?_
        rotate_left
        ·intro w'
         go_simp
         with_reducible rfl
        rotate_left
        ·simp only [Act.put, List.setIfInBounds_toArray, List.set_cons_zero, List.set_cons_succ, i64_w, i32_w]
         rfl
        refine pure_ (i := 3) (N := some 19) (v := ?_) (a' := ?_) #[false, true, false, true, false, false, false, false, false, false, false, false, false, false] rfl rfl (any_of HT_.out (by kernel_rfl)) (fun _ _ _ h => h) (Or.inl ⟨by rfl, ?_⟩) ?_ ?_
        rotate_left
        ·intro w'
         go_simp
         with_reducible rfl
        rotate_left
        ·simp only [Act.put, List.setIfInBounds_toArray, List.set_cons_zero, List.set_cons_succ, i64_w, i32_w]
         rfl
        refine pure_ (i := 6) (N := some 22) (v := ?_) (a' := ?_) #[false, true, false, true, false, false, true, false, false, false, false, false, false, false] rfl rfl (any_of HT_.out (by kernel_rfl)) (fun _ _ _ h => h) (Or.inl ⟨by rfl, ?_⟩) ?_ ?_
        rotate_left
        ·intro w'
         go_simp
         with_reducible rfl
        rotate_left
        ·simp only [Act.put, List.setIfInBounds_toArray, List.set_cons_zero, List.set_cons_succ, i64_w, i32_w]
         rfl
        refine pure_ (i := 8) (N := some 24) (v := ?_) (a' := ?_) #[false, true, false, true, false, false, true, false, true, false, false, false, false, false] rfl rfl (any_of HT_.out (by kernel_rfl)) (fun _ _ _ h => h) (Or.inl ⟨by rfl, ?_⟩) ?_ ?_
        rotate_left
        ·intro w'
         go_simp
         with_reducible rfl
        rotate_left
        ·simp only [Act.put, List.setIfInBounds_toArray, List.set_cons_zero, List.set_cons_succ, i64_w, i32_w]
         rfl
        refine pure_ (i := 9) (N := some 25) (v := ?_) (a' := ?_) #[false, true, false, true, false, false, true, false, true, true, false, false, false, false] rfl rfl (any_of HT_.out (by kernel_rfl)) (fun _ _ _ h => h) (Or.inl ⟨by rfl, ?_⟩) ?_ ?_
        rotate_left
        ·intro w'
         go_simp
         with_reducible rfl
        rotate_left
        ·simp only [Act.put, List.setIfInBounds_toArray, List.set_cons_zero, List.set_cons_succ, i64_w, i32_w]
         rfl
        refine take_ (i := 2) (N := some 18) (v := ?_) (a' := ?_) #[false, true, true, true, false, false, true, false, true, true, false, false, false, false] rfl rfl (take_ofW HT_.out HW_.out (by kernel_rfl)) (fun _ _ _ h => h) (Or.inl ⟨by rfl, ?_⟩) hHeld ?_ ?_
        rotate_left
        ·rintro w' ⟨s0, s1⟩
         go_simp
         with_reducible rfl
        rotate_left
        ·simp only [Act.put, List.setIfInBounds_toArray, List.set_cons_zero, List.set_cons_succ, i64_w, i32_w]
         rfl
        refine pure_ (i := 4) (N := some 20) (v := ?_) (a' := ?_) #[false, true, true, true, true, false, true, false, true, true, false, false, false, false] rfl rfl (any_of HT_.out (by kernel_rfl)) (fun _ _ _ h => h) (Or.inl ⟨by rfl, ?_⟩) ?_ ?_
        rotate_left
        ·intro w'
         go_simp
         with_reducible rfl
        rotate_left
        ·simp only [Act.put, List.setIfInBounds_toArray, List.set_cons_zero, List.set_cons_succ, i64_w, i32_w]
         rfl
        refine take_ (i := 7) (N := some 23) (v := ?_) (a' := ?_) #[false, true, true, true, true, false, true, true, true, true, false, false, false, false] rfl rfl (take_ofW HT_.out HW_.out (by kernel_rfl)) (fun _ _ _ h => h) (Or.inl ⟨by rfl, ?_⟩) hHeld ?_ ?_
        rotate_left
        ·rintro w' ⟨s0, s1⟩
         go_simp
         with_reducible rfl
        rotate_left
        ·simp only [Act.put, List.setIfInBounds_toArray, List.set_cons_zero, List.set_cons_succ, i64_w, i32_w]
         rfl
        refine pure_ (i := 10) (N := some 26) (v := ?_) (a' := ?_) #[false, true, true, true, true, false, true, true, true, true, true, false, false, false] rfl rfl (any_of HT_.out (by kernel_rfl)) (fun _ _ _ h => h) (Or.inl ⟨by rfl, ?_⟩) ?_ ?_
        rotate_left
        ·intro w'
         go_simp
         with_reducible rfl
        rotate_left
        ·simp only [Act.put, List.setIfInBounds_toArray, List.set_cons_zero, List.set_cons_succ, i64_w, i32_w]
         rfl
        refine one_ (i := 0) (N := some 16) #[true, true, true, true, true, false, true, true, true, true, true, false, false, false] rfl rfl (one_of HT_.out (by kernel_rfl)) (by decide) (fun K hK => ?_)
        refine Kd.R_lit_step Kd.string _ 9 ?hg (N := 16) ?hd (xs := ([] : List ByteArray)) (inner := []) (ok := fun _ => True) (okp := fun _ => True) ?hr ?hp (fun _ hk => hk) trivial (Below.refl _ _) (Nat.le_refl _) (by simp) ?_; (case hd => rfl); (case hg => rfl); (case hr => first | (go_simp; done) | (go_simp; rfl)); (case hp => exact (Reps.none _ _))
        intro v250 w25 ho26 hb hg_ hnew_
        clear hg_ hnew_
        (first | rw [← Ny249.out] at ho26 | (simp only [Int.reduceToNat] at ho26; rw [← Ny249.out] at ho26))
        have n0_ := mk0 (Kd.R_elder' (by (with_reducible repeat (first | apply r_a | apply r_n | apply r_d)); exact HO242.out) (Kd.R_base ho26) hb)
        have n1_ := mk0 (Kd.R_lower (Kd.R_new' ho26 (Kd.R_lt (by (with_reducible repeat (first | apply r_a | apply r_n | apply r_d)); exact HO242.out))) (keep_size (w := w) (g := g) (row := none) (by repeat (first | (with_reducible first | exact HK.out | apply KeepBut.set_ | apply keep_drewN | apply keep_drew | apply keep_alloc | refine keep_far ?_ GW238.out _ | refine keep_far ?_ GW244.out _) | exact HK.out))))
        have n2_ := mk0 (IsS28.below (by repeat (first | (with_reducible first | exact HI0.out | apply IsS28.alloc | apply IsS28.drewN | apply IsS28.drew | apply IsS28.set_1 | refine IsS28.far ?_ NB0_238.out _ | refine IsS28.far ?_ NB0_244.out _) | exact HI0.out)) hb)
        have n3_ := mk0 (blk_below (g := gb238) (o := .cells #[.string (⟨#[]⟩ : ByteArray), .slice none 0 0] 24 (0, 0)) (by (with_reducible repeat (first | refine blk_drewN ?_ _ | refine blk_drew ?_ | refine blk_alloc ?_ _)); exact BK238.out) hb)
        have n4_ := mk0 (blk_below (g := gb244) (o := .cells #[.string t239, .slice Ao19 t240.length co19] 24 (0, 0)) (by (with_reducible repeat (first | refine blk_drewN ?_ _ | refine blk_drew ?_ | refine blk_alloc ?_ _)); exact BK244.out) hb)
        have n5_ := mk0 (Kd.C_below (by repeat (first | (with_reducible exact HR255.out) | (with_reducible refine Kd.C_alloc ?_ _) | (with_reducible refine Kd.C_drewN ?_ _) | (with_reducible refine Kd.C_drew ?_) | exact HR255.out)) hb)
        have n6_ := mk0 (Kd.C_below (by repeat (first | (with_reducible exact HR262.out) | (with_reducible refine Kd.C_alloc ?_ _) | (with_reducible refine Kd.C_drewN ?_ _) | (with_reducible refine Kd.C_drew ?_) | exact HR262.out)) hb)
        have n7_ := mk0 (KeepBut.trans (by repeat (first | (with_reducible first | exact HK.out | apply KeepBut.set_ | apply keep_drewN | apply keep_drew | apply keep_alloc | refine keep_far ?_ GW238.out _ | refine keep_far ?_ GW244.out _) | exact HK.out)) (KeepBut.of_below hb g none) (.inl rfl))
        have n8_ := mk0 (below_step (by repeat (with_reducible first | exact HB.out | apply b_a | apply b_n | apply b_d | refine below_set ?_ (IsS28.ge HI0.out) | refine below_set ?_ GE238.out | refine below_set ?_ GE244.out)) hb)
        clear HO242
        clear HI0
        clear BK238
        clear BK244
        clear HR255
        clear HR262
        clear HK
        clear HB
        have HO242 := n0_
        have HO251 := n1_
        have HI0 := n2_
        have BK238 := n3_
        have BK244 := n4_
        have HR255 := n5_
        have HR262 := n6_
        have HK := n7_
        have HB := n8_
        clear n0_ n1_ n2_ n3_ n4_ n5_ n6_ n7_ n8_
        clear hb ho26
        refine hK.out _ _ ⟨(blk_cell BK244.out 0).trans rfl, (blk_cell BK244.out 1).trans rfl⟩ (fun hHeld => ?_)
        clear hK K
        refine norm_ (a' := ?_) ?_ ?_
        rotate_left
        ·show Act.put _ (some 16) _ = _
         simp only [Act.put, List.setIfInBounds_toArray, List.set_cons_zero, List.set_cons_succ, i64_w, i32_w]
         rfl
        refine one_ (i := 5) (N := some 21) #[true, true, true, true, true, true, true, true, true, true, true, false, false, false] rfl rfl (one_of HT_.out (by kernel_rfl)) (by decide) (fun K hK => ?_)
        refine Kd.R_append_rows_step Kd.string w.heap.size (by rfl) (.tmp 16) (.tmp 20) 22 9 (.string ⟨#[]⟩) 16 rfl Tryz.underlying22 info9 rfl (by decide) (by omega) v250 y249 y252 _ _ _ (fun k_ => some k_ ≠ (.slice Ao19 t240.length co19 : Value).ownBlock) (fun _ => False) rfl rfl ?aO ?aR (fun _ _ h => h) (fun _ h => h.elim) ?aF (Below.refl _ _) ?aS ?aL ?_
        (case aR => repeat (first | exact (by repeat (first | (with_reducible exact HR255.out) | (with_reducible refine Kd.C_alloc ?_ _) | (with_reducible refine Kd.C_drewN ?_ _) | (with_reducible refine Kd.C_drew ?_) | exact HR255.out)) | (with_reducible refine Kd.C_alloc ?_ _) | (with_reducible refine Kd.C_drewN ?_ _) | (with_reducible refine Kd.C_drew ?_)))
        (case aF => exact (fun k_ hk => Kd.fresh' (Kd.R_lt (by (with_reducible repeat (first | apply r_a | apply r_n | apply r_d)); exact HO242.out)) k_ hk))
        (case aO => exact (by (with_reducible repeat (first | apply r_a | apply r_n | apply r_d)); exact Kd.R_mono HO251.out (fun _ hk => hk.2)))
        (case aS => exact (keep_size (w := w) (g := g) (row := none) (by repeat (first | (with_reducible first | exact HK.out | apply KeepBut.set_ | apply keep_drewN | apply keep_drew | apply keep_alloc | refine keep_far ?_ GW238.out _ | refine keep_far ?_ GW244.out _) | exact HK.out))))
        (case aL => have := LMc8.out; omega)
        intro v257 w27 ho hb hg hat
        rw [← Ny256.out] at ho
        have n0_ := mk0 (IsS28.grown (by repeat (first | (with_reducible first | exact HI0.out | apply IsS28.alloc | apply IsS28.drewN | apply IsS28.drew | apply IsS28.set_1 | refine IsS28.far ?_ NB0_238.out _ | refine IsS28.far ?_ NB0_244.out _) | exact HI0.out)) hg (IsS28.own_ne HI0.out HO251.out (by decide)))
        have n1_ := mk0 (blk_grown (g := gb238) (o := .cells #[.string (⟨#[]⟩ : ByteArray), .slice none 0 0] 24 (0, 0)) (by (with_reducible repeat (first | refine blk_drewN ?_ _ | refine blk_drew ?_ | refine blk_alloc ?_ _)); exact BK238.out) hg (Kd.R_ne HO251.out BK238.out (by decide)))
        have n2_ := mk0 (Kd.R_after (ok := (fun _ => True)) (by (with_reducible repeat (first | apply r_a | apply r_n | apply r_d)); exact HO242.out) hg hat)
        have n3_ := mk0 (blk_grown (g := gb244) (o := .cells #[.string t239, .slice Ao19 t240.length co19] 24 (0, 0)) (by (with_reducible repeat (first | refine blk_drewN ?_ _ | refine blk_drew ?_ | refine blk_alloc ?_ _)); exact BK244.out) hg (Kd.R_ne HO251.out BK244.out (by decide)))
        have n4_ := mk0 (below_weaken (by repeat (with_reducible first | exact HB.out | apply b_a | apply b_n | apply b_d | refine below_set ?_ (IsS28.ge HI0.out) | refine below_set ?_ GE238.out | refine below_set ?_ GE244.out)) HL.out hb)
        have n5_ := mk0 (KeepBut.trans (by repeat (first | (with_reducible first | exact HK.out | apply KeepBut.set_ | apply keep_drewN | apply keep_drew | apply keep_alloc | refine keep_far ?_ GW238.out _ | refine keep_far ?_ GW244.out _) | exact HK.out)) (KeepBut.of_grown hg g) (Kd.R_base2 HO251.out))
        have n6_ := mk0 ((show Kd.C Kd.string w27 Ao19 y252.length y252 from by rw [Ny252.out]; exact Kd.C_take (m := (t245 : Int).toNat) ((Kd.R_reads' (Kd.R_after (ok := (fun _ => True)) (by (with_reducible repeat (first | apply r_a | apply r_n | apply r_d)); exact HO242.out) hg hat)).2.2) KL23.out))
        have n7_ := mk0 ((show Kd.C Kd.string w27 A24 y259.length y259 from by rw [Ny259.out, KA24.out]; exact Kd.C_drop (m := ((ji9) : Int).toNat) (c := co19) ((Kd.R_reads' (Kd.R_after (ok := (fun _ => True)) (by (with_reducible repeat (first | apply r_a | apply r_n | apply r_d)); exact HO242.out) hg hat)).2.2) KL24.out ((Kd.R_reads' (Kd.R_after (ok := (fun _ => True)) (by (with_reducible repeat (first | apply r_a | apply r_n | apply r_d)); exact HO242.out) hg hat)).2.1)))
        have n8_ := mk0 (ho)
        clear HI0
        clear BK238
        clear HO242
        clear BK244
        clear HB
        clear HK
        clear HR255
        clear HR262
        clear HO251
        have HI0 := n0_
        have BK238 := n1_
        have HO242 := n2_
        have BK244 := n3_
        have HB := n4_
        have HK := n5_
        have HR255 := n6_
        have HR262 := n7_
        have HO258 := n8_
        clear n0_ n1_ n2_ n3_ n4_ n5_ n6_ n7_ n8_
        clear ho hb hg hat
        refine hK.out _ _ ⟨(blk_cell BK244.out 0).trans rfl, (blk_cell BK244.out 1).trans rfl⟩ (fun hHeld => ?_)
        clear hK K
        refine norm_ (a' := ?_) ?_ ?_
        rotate_left
        ·show Act.put _ (some 21) _ = _
         simp only [Act.put, List.setIfInBounds_toArray, List.set_cons_zero, List.set_cons_succ, i64_w, i32_w]
         rfl
        refine one_ (i := 11) (N := some 27) #[true, true, true, true, true, true, true, true, true, true, true, true, false, false] rfl rfl (one_of HT_.out (by kernel_rfl)) (by decide) (fun K hK => ?_)
        refine Kd.R_append_rows_step Kd.string w.heap.size (by rfl) (.tmp 21) (.tmp 26) 22 9 (.string ⟨#[]⟩) 16 rfl Tryz.underlying22 info9 rfl (by decide) (by omega) v257 y256 y259 _ _ _ (fun k_ => some k_ ≠ (.slice Ao19 t240.length co19 : Value).ownBlock) (fun _ => False) rfl rfl ?aO ?aR (fun _ _ h => h) (fun _ h => h.elim) ?aF (Below.refl _ _) ?aS ?aL ?_
        (case aR => repeat (first | exact (by repeat (first | (with_reducible exact HR262.out) | (with_reducible refine Kd.C_alloc ?_ _) | (with_reducible refine Kd.C_drewN ?_ _) | (with_reducible refine Kd.C_drew ?_) | exact HR262.out)) | (with_reducible refine Kd.C_alloc ?_ _) | (with_reducible refine Kd.C_drewN ?_ _) | (with_reducible refine Kd.C_drew ?_)))
        (case aF => exact (fun k_ hk => Kd.fresh' (Kd.R_lt (by (with_reducible repeat (first | apply r_a | apply r_n | apply r_d)); exact HO242.out)) k_ hk))
        (case aO => exact (by (with_reducible repeat (first | apply r_a | apply r_n | apply r_d)); exact HO258.out))
        (case aS => exact (keep_size (w := w) (g := g) (row := none) (by repeat (first | (with_reducible first | exact HK.out | apply KeepBut.set_ | apply keep_drewN | apply keep_drew | apply keep_alloc | refine keep_far ?_ GW238.out _ | refine keep_far ?_ GW244.out _) | exact HK.out))))
        (case aL => have := LMc12.out; omega)
        intro v264 w28 ho hb hg hat
        rw [← Ny263.out] at ho
        have n0_ := mk0 (IsS28.grown (by repeat (first | (with_reducible first | exact HI0.out | apply IsS28.alloc | apply IsS28.drewN | apply IsS28.drew | apply IsS28.set_1 | refine IsS28.far ?_ NB0_238.out _ | refine IsS28.far ?_ NB0_244.out _) | exact HI0.out)) hg (IsS28.own_ne HI0.out HO258.out (by decide)))
        have n1_ := mk0 (blk_grown (g := gb238) (o := .cells #[.string (⟨#[]⟩ : ByteArray), .slice none 0 0] 24 (0, 0)) (by (with_reducible repeat (first | refine blk_drewN ?_ _ | refine blk_drew ?_ | refine blk_alloc ?_ _)); exact BK238.out) hg (Kd.R_ne HO258.out BK238.out (by decide)))
        have n2_ := mk0 (Kd.R_after (ok := (fun _ => True)) (by (with_reducible repeat (first | apply r_a | apply r_n | apply r_d)); exact HO242.out) hg hat)
        have n3_ := mk0 (blk_grown (g := gb244) (o := .cells #[.string t239, .slice Ao19 t240.length co19] 24 (0, 0)) (by (with_reducible repeat (first | refine blk_drewN ?_ _ | refine blk_drew ?_ | refine blk_alloc ?_ _)); exact BK244.out) hg (Kd.R_ne HO258.out BK244.out (by decide)))
        have n4_ := mk0 (below_weaken (by repeat (with_reducible first | exact HB.out | apply b_a | apply b_n | apply b_d | refine below_set ?_ (IsS28.ge HI0.out) | refine below_set ?_ GE238.out | refine below_set ?_ GE244.out)) HL.out hb)
        have n5_ := mk0 (KeepBut.trans (by repeat (first | (with_reducible first | exact HK.out | apply KeepBut.set_ | apply keep_drewN | apply keep_drew | apply keep_alloc | refine keep_far ?_ GW238.out _ | refine keep_far ?_ GW244.out _) | exact HK.out)) (KeepBut.of_grown hg g) (Kd.R_base2 HO258.out))
        have n6_ := mk0 ((show Kd.C Kd.string w28 Ao19 y252.length y252 from by rw [Ny252.out]; exact Kd.C_take (m := (t245 : Int).toNat) ((Kd.R_reads' (Kd.R_after (ok := (fun _ => True)) (by (with_reducible repeat (first | apply r_a | apply r_n | apply r_d)); exact HO242.out) hg hat)).2.2) KL23.out))
        have n7_ := mk0 ((show Kd.C Kd.string w28 A24 y259.length y259 from by rw [Ny259.out, KA24.out]; exact Kd.C_drop (m := ((ji9) : Int).toNat) (c := co19) ((Kd.R_reads' (Kd.R_after (ok := (fun _ => True)) (by (with_reducible repeat (first | apply r_a | apply r_n | apply r_d)); exact HO242.out) hg hat)).2.2) KL24.out ((Kd.R_reads' (Kd.R_after (ok := (fun _ => True)) (by (with_reducible repeat (first | apply r_a | apply r_n | apply r_d)); exact HO242.out) hg hat)).2.1)))
        have n8_ := mk0 (ho)
        clear HI0
        clear BK238
        clear HO242
        clear BK244
        clear HB
        clear HK
        clear HR255
        clear HR262
        clear HO258
        have HI0 := n0_
        have BK238 := n1_
        have HO242 := n2_
        have BK244 := n3_
        have HB := n4_
        have HK := n5_
        have HR255 := n6_
        have HR262 := n7_
        have HO265 := n8_
        clear n0_ n1_ n2_ n3_ n4_ n5_ n6_ n7_ n8_
        clear ho hb hg hat
        obtain ⟨Ao29, co29, eo29⟩ := Kd.R_slice HO265.out
        (first | subst eo29 | (injection eo29 with f1_ f2_ f3_; have f4_ := f1_.symm; have f5_ := f3_.symm; clear f1_ f2_ f3_; subst f4_; subst f5_))
        refine hK.out _ _ ⟨(blk_cell BK244.out 0).trans rfl, (blk_cell BK244.out 1).trans rfl⟩ (fun hHeld => ?_)
        clear hK K
        refine norm_ (a' := ?_) ?_ ?_
        rotate_left
        ·show Act.put _ (some 27) _ = _
         simp only [Act.put, List.setIfInBounds_toArray, List.set_cons_zero, List.set_cons_succ, i64_w, i32_w]
         rfl
        refine pure_ (i := 12) (N := some 28) (v := ?_) (a' := ?_) #[true, true, true, true, true, true, true, true, true, true, true, true, true, false] rfl rfl (any_of HT_.out (by kernel_rfl)) (fun _ _ _ h => h) (Or.inl ⟨by rfl, ?_⟩) ?_ ?_
        rotate_left
        ·intro w'
         go_simp
         with_reducible rfl
        rotate_left
        ·simp only [Act.put, List.setIfInBounds_toArray, List.set_cons_zero, List.set_cons_succ, i64_w, i32_w]
         rfl
        refine last_ (i := 13) (N := none) #[true, true, true, true, true, true, true, true, true, true, true, true, true, true] rfl rfl (one_of HT_.out (by kernel_rfl)) (by decide) (fun K hK => ?_)
        have hs30 : w28.cell? ⟨gb244, 1, none⟩ = some (.slice Ao19 t240.length co19) := (blk_cell BK244.out 1).trans rfl
        have hfs30 := blk_frozen BK244.out 1
        have hns30_0 := NB238_244.out
        have hms30_0 := NB244_238.out
        refine skip_ (w1 := ?_) (by rfl) rfl ?_ ?_
        rotate_left
        ·go_simp
         rfl
        refine hK.out _ _ ?_
        clear hK K
        refine done_ (done_of HT_.out (by kernel_rfl)) ?_
        have hcz31_0 : w28.cell? ⟨gb244, 0, none⟩ = some (.string t239) := (blk_cell BK244.out 0).trans rfl
        have hcz31_1 : w28.cell? ⟨gb244, 1, none⟩ = some (.slice Ao19 t240.length co19) := (blk_cell BK244.out 1).trans rfl
        have hfz31_0 := blk_frozen BK244.out 0
        have hfz31_1 := blk_frozen BK244.out 1
        have hnb32 := NB238_0.out
        have hnc32 := NB0_238.out
        have hcz33_0 : w28.cell? ⟨gb238, 0, none⟩ = some (.string (⟨#[]⟩ : ByteArray)) := (blk_cell BK238.out 0).trans rfl
        have hcz33_1 : w28.cell? ⟨gb238, 1, none⟩ = some (.slice none 0 0) := (blk_cell BK238.out 1).trans rfl
        have hfz33_0 := blk_frozen BK238.out 0
        have hfz33_1 := blk_frozen BK238.out 1
        try go_wp2
        refine bodyPost_ret (results_cell_row rfl _ _ gb238 24 #[.string t239, .slice Ao29 y263.length co29] (0, 0) _ rfl (by (with_reducible repeat (first | refine blk_drewN ?_ _ | refine blk_drew ?_ | refine blk_alloc ?_ _)); refine blk_put (cs := #[.string t239, .slice none 0 0]) ?_ 1 _ rfl; (with_reducible repeat (first | refine blk_drewN ?_ _ | refine blk_drew ?_ | refine blk_alloc ?_ _)); refine blk_put (cs := #[.string (⟨#[]⟩ : ByteArray), .slice none 0 0]) ?_ 0 _ rfl; (with_reducible repeat (first | refine blk_drewN ?_ _ | refine blk_drew ?_ | refine blk_alloc ?_ _)); refine blk_far ?_ NB238_244.out _; (with_reducible repeat (first | refine blk_drewN ?_ _ | refine blk_drew ?_ | refine blk_alloc ?_ _)); exact BK238.out) Tryz.underlying24 rfl (by kernel_rfl)) rfl ?_
        exact ⟨_, by first | rfl | (simp [errW_none, errW_some] <;> rfl) | (simp only [← hji9]; first | rfl | (simp [errW_none, errW_some] <;> rfl)) | (simp [*, errW_none, errW_some] <;> rfl), by (with_reducible repeat (first | apply r_a | apply r_n | apply r_d)); exact Kd.R_mono (Kd.R_far (p := ⟨gb238, 1, none⟩) (Kd.R_far (p := ⟨gb238, 0, none⟩) (Kd.R_far (p := ⟨gb244, 1, none⟩) (Kd.R_types (Kd.R_types HO265.out BK244.out (by decide)) BK238.out (by decide)) (fun _ hk => hk.1.2) (.slice Ao29 y263.length co29)) (fun _ hk => hk.2) (.string t239)) (fun _ hk => hk.2) (.slice Ao29 y263.length co29)) (fun _ hk => trivial), by repeat (first | (with_reducible first | exact HI0.out | apply IsS28.alloc | apply IsS28.drewN | apply IsS28.drew | apply IsS28.set_1 | refine IsS28.far ?_ NB0_238.out _ | refine IsS28.far ?_ NB0_244.out _) | exact HI0.out), by repeat (first | (with_reducible first | exact HB.out | apply b_a | apply b_n | apply b_d | refine below_set ?_ (IsS28.ge HI0.out) | refine below_set ?_ GE238.out | refine below_set ?_ GE244.out) | exact HB.out), by repeat (first | (with_reducible first | exact HK.out | apply KeepBut.set_ | apply keep_drewN | apply keep_drew | apply keep_alloc | refine keep_far ?_ GW238.out _ | refine keep_far ?_ GW244.out _) | exact HK.out)⟩
       ·rw [if_neg c12] at H
        exact absurd H (by simp)
      ·rw [if_neg c11] at H
       exact absurd H (by simp)
     ·rw [if_neg c10] at H
      exact absurd H (by simp)
    ·rw [if_neg c8] at H
     exact absurd H (by simp)
   ·rw [if_neg c7] at H
    exact absurd H (by simp)
  ·rw [if_neg c6] at H
   exact absurd H (by simp)
 ·rw [if_neg c5] at H
  have c5b0 : (t247 == 0) = false := beq_eq_false_iff_ne.mpr c5
  have c5b1 : (t247 != 0) = true := bne_iff_ne.mpr c5
  by_cases c34 : t247 = 1
  ·rw [if_pos c34] at H
   have c34b0 : (t247 == 1) = true := beq_iff_eq.mpr c34
   have c34b1 : (t247 != 1) = false := bne_eq_false_iff_eq.mpr c34
   clear c34
   replace H := Option.bind_eq_some_iff.mp H
   obtain ⟨⟨t266, t267⟩, A350, H⟩ := H
   replace H : (if 0 ≤ t245 then (if t245 < (t240.length : Int) then (some (t239, (t240.set (t245 : Int).toNat t266), t267)) else (none)) else (none)) = some (r1, r2, r3) := H
   have A35 := mk0 A350
   clear A350
   by_cases c36 : 0 ≤ t245
   ·rw [if_pos c36] at H
    have c36b0 : decide (0 ≤ t245) = true := decide_eq_true c36
    clear c36
    by_cases c37 : t245 < (t240.length : Int)
    ·rw [if_pos c37] at H
     have c37b0 : decide (t245 < (t240.length : Int)) = true := decide_eq_true c37
     clear c37
     obtain ⟨y268, hy268⟩ : ∃ y_ : List ByteArray, y_ = (t240.set (t245 : Int).toNat t266) := ⟨_, rfl⟩
     replace H : (some (t239, y268, t267)) = some (r1, r2, r3) := by first | (rw [hy268]; with_reducible exact H) | (have H2_ := (Option.bind_some _ _).symm.trans H; rw [hy268]; with_reducible exact H2_) | (have H2_ := (Option.bind_some _ _).symm.trans H; with_reducible exact H2_) | with_reducible exact H | (rw [hy268]; exact H) | exact H
     have Ny268 := mk0 hy268
     clear hy268
     simp only [Option.some.injEq, Prod.mk.injEq] at H
     obtain ⟨rfl, rfl, rfl⟩ := H
     go_enter Tryz.func5, Tryz.ntmps5
     try go_wp2_with (first | ((with_reducible refine gate_dst (N := 2) rfl ?_); refine box_event ?hg (N := 2) ?hd (cs := #[.string (⟨#[]⟩ : ByteArray), .slice none 0 0]) (t := 24) ?hr ?_; (case hd => rfl); (case hg => rfl); (case hr => first | (go_simp; done) | (go_simp; rfl)); intro gb238 hg w39 hbox hb; have n0_ := mk0 (IsS28.below (by repeat (first | (with_reducible first | exact HI0.out | apply IsS28.alloc | apply IsS28.drewN | apply IsS28.drew | apply IsS28.set_1) | exact HI0.out)) hb); have n1_ := mk0 (KeepBut.trans (by repeat (first | (with_reducible first | exact HK.out | apply KeepBut.set_ | apply keep_drewN | apply keep_drew | apply keep_alloc) | exact HK.out)) (KeepBut.of_below hb g none) (.inl rfl)); have n2_ := mk0 (below_step (by repeat (with_reducible first | exact HB.out | apply b_a | apply b_n | apply b_d | refine below_set ?_ (IsS28.ge HI0.out))) hb); have n3_ := mk0 (hbox); have n4_ := mk0 ((by rw [hg]; exact (keep_size (w := w) (g := g) (row := none) (by repeat (first | (with_reducible first | exact HK.out | apply KeepBut.set_ | apply keep_drewN | apply keep_drew | apply keep_alloc) | exact HK.out))) : w.heap.size ≤ gb238)); have n5_ := mk0 ((Nat.le_trans HW0.out (by rw [hg]; exact (keep_size (w := w) (g := g) (row := none) (by repeat (first | (with_reducible first | exact HK.out | apply KeepBut.set_ | apply keep_drewN | apply keep_drew | apply keep_alloc) | exact HK.out))) : w.heap.size ≤ gb238) : w0.heap.size ≤ gb238)); have n6_ := mk0 ((by rw [hg]; exact Nat.ne_of_lt (IsS28.lt (show IsS28 w0 _ g s0_0 s0_1 from by repeat (first | (with_reducible first | exact HI0.out | apply IsS28.alloc | apply IsS28.drewN | apply IsS28.drew | apply IsS28.set_1) | exact HI0.out))) : g ≠ gb238)); have n7_ := mk0 ((by rw [hg]; exact Nat.ne_of_gt (IsS28.lt (show IsS28 w0 _ g s0_0 s0_1 from by repeat (first | (with_reducible first | exact HI0.out | apply IsS28.alloc | apply IsS28.drewN | apply IsS28.drew | apply IsS28.set_1) | exact HI0.out))) : gb238 ≠ g)); clear HI0; clear HK; clear HB; have HI0 := n0_; have HK := n1_; have HB := n2_; have BK238 := n3_; have GW238 := n4_; have GE238 := n5_; have NB0_238 := n6_; have NB238_0 := n7_; clear n0_ n1_ n2_ n3_ n4_ n5_ n6_ n7_; clear hb hbox hg) | ((with_reducible refine gate_callee (f := 13) rfl ?_); refine goesL_ (some 6) rfl rfl Tryz.func13 (by kernel_rfl) rfl #[.pointer (some ⟨g, 0, none⟩)] rfl (by (try simp only [List.map_toArray, List.map_cons, List.map_nil]); first | done | rfl) ?_; (with_reducible refine (m_Tape_Tree.calls k g s0_0 s0_1 t239 t240 t243 w0 _ ?side1 ?side2 A2.out).mono ?_); (case side1 => repeat (first | (with_reducible first | exact HI0.out | apply IsS28.alloc | apply IsS28.drewN | apply IsS28.drew | apply IsS28.set_1 | refine IsS28.far ?_ NB0_238.out _) | exact HI0.out)); (case side2 => repeat (first | (with_reducible first | exact HB.out | apply b_a | apply b_n | apply b_d | refine below_set ?_ (IsS28.ge HI0.out) | refine below_set ?_ GE238.out) | exact HB.out)); rintro e w40 ⟨v241, rfl, ho0, hi, hb, hk⟩; refine ⟨_, rfl, ?_⟩; have n0_ := mk0 (KeepBut.blk hk (g' := gb238) (o := .cells #[.string (⟨#[]⟩ : ByteArray), .slice none 0 0] 24 (0, 0)) (by (with_reducible repeat (first | refine blk_drewN ?_ _ | refine blk_drew ?_ | refine blk_alloc ?_ _)); exact BK238.out) NB238_0.out (by simp)); have n1_ := mk0 (Kd.R_lower ho0 (keep_size (w := w) (g := g) (row := none) (by repeat (first | (with_reducible first | exact HK.out | apply KeepBut.set_ | apply keep_drewN | apply keep_drew | apply keep_alloc | refine keep_far ?_ GW238.out _) | exact HK.out)))); have n2_ := mk0 (KeepBut.trans (by repeat (first | (with_reducible first | exact HK.out | apply KeepBut.set_ | apply keep_drewN | apply keep_drew | apply keep_alloc | refine keep_far ?_ GW238.out _) | exact HK.out)) hk (.inl rfl)); have n3_ := mk0 (hb); have n4_ := mk0 (hi); clear BK238; clear HK; clear HB; clear HI0; have BK238 := n0_; have HO242 := n1_; have HK := n2_; have HB := n3_; have HI0 := n4_; clear n0_ n1_ n2_ n3_ n4_; (try clear hb); (try clear hb2); (try clear hk); (try clear hi); (try clear ho0)) | ((with_reducible refine gate_dst (N := 3) rfl ?_); refine box_event ?hg (N := 3) ?hd (cs := #[.string (⟨#[]⟩ : ByteArray), .slice none 0 0]) (t := 24) ?hr ?_; (case hd => rfl); (case hg => rfl); (case hr => first | (go_simp; done) | (go_simp; rfl)); intro gb244 hg w41 hbox hb; have n0_ := mk0 (Kd.R_below (by (with_reducible repeat (first | apply r_a | apply r_n | apply r_d)); exact HO242.out) hb); have n1_ := mk0 (IsS28.below (by repeat (first | (with_reducible first | exact HI0.out | apply IsS28.alloc | apply IsS28.drewN | apply IsS28.drew | apply IsS28.set_1 | refine IsS28.far ?_ NB0_238.out _) | exact HI0.out)) hb); have n2_ := mk0 (blk_below (g := gb238) (o := .cells #[.string (⟨#[]⟩ : ByteArray), .slice none 0 0] 24 (0, 0)) (by (with_reducible repeat (first | refine blk_drewN ?_ _ | refine blk_drew ?_ | refine blk_alloc ?_ _)); exact BK238.out) hb); have n3_ := mk0 (KeepBut.trans (by repeat (first | (with_reducible first | exact HK.out | apply KeepBut.set_ | apply keep_drewN | apply keep_drew | apply keep_alloc | refine keep_far ?_ GW238.out _) | exact HK.out)) (KeepBut.of_below hb g none) (.inl rfl)); have n4_ := mk0 (below_step (by repeat (with_reducible first | exact HB.out | apply b_a | apply b_n | apply b_d | refine below_set ?_ (IsS28.ge HI0.out) | refine below_set ?_ GE238.out)) hb); have n5_ := mk0 (hbox); have n6_ := mk0 ((by rw [hg]; exact (keep_size (w := w) (g := g) (row := none) (by repeat (first | (with_reducible first | exact HK.out | apply KeepBut.set_ | apply keep_drewN | apply keep_drew | apply keep_alloc | refine keep_far ?_ GW238.out _) | exact HK.out))) : w.heap.size ≤ gb244)); have n7_ := mk0 ((Nat.le_trans HW0.out (by rw [hg]; exact (keep_size (w := w) (g := g) (row := none) (by repeat (first | (with_reducible first | exact HK.out | apply KeepBut.set_ | apply keep_drewN | apply keep_drew | apply keep_alloc | refine keep_far ?_ GW238.out _) | exact HK.out))) : w.heap.size ≤ gb244) : w0.heap.size ≤ gb244)); have n8_ := mk0 ((by rw [hg]; exact Nat.ne_of_lt (blk_lt (g := gb238) (o := .cells #[.string (⟨#[]⟩ : ByteArray), .slice none 0 0] 24 (0, 0)) (by (with_reducible repeat (first | refine blk_drewN ?_ _ | refine blk_drew ?_ | refine blk_alloc ?_ _)); exact BK238.out)) : gb238 ≠ gb244)); have n9_ := mk0 ((by rw [hg]; exact Nat.ne_of_gt (blk_lt (g := gb238) (o := .cells #[.string (⟨#[]⟩ : ByteArray), .slice none 0 0] 24 (0, 0)) (by (with_reducible repeat (first | refine blk_drewN ?_ _ | refine blk_drew ?_ | refine blk_alloc ?_ _)); exact BK238.out)) : gb244 ≠ gb238)); have n10_ := mk0 ((by rw [hg]; exact Nat.ne_of_lt (IsS28.lt (show IsS28 w0 _ g s0_0 t243 from by repeat (first | (with_reducible first | exact HI0.out | apply IsS28.alloc | apply IsS28.drewN | apply IsS28.drew | apply IsS28.set_1 | refine IsS28.far ?_ NB0_238.out _) | exact HI0.out))) : g ≠ gb244)); have n11_ := mk0 ((by rw [hg]; exact Nat.ne_of_gt (IsS28.lt (show IsS28 w0 _ g s0_0 t243 from by repeat (first | (with_reducible first | exact HI0.out | apply IsS28.alloc | apply IsS28.drewN | apply IsS28.drew | apply IsS28.set_1 | refine IsS28.far ?_ NB0_238.out _) | exact HI0.out))) : gb244 ≠ g)); clear HO242; clear HI0; clear BK238; clear HK; clear HB; have HO242 := n0_; have HI0 := n1_; have BK238 := n2_; have HK := n3_; have HB := n4_; have BK244 := n5_; have GW244 := n6_; have GE244 := n7_; have NB238_244 := n8_; have NB244_238 := n9_; have NB0_244 := n10_; have NB244_0 := n11_; clear n0_ n1_ n2_ n3_ n4_ n5_ n6_ n7_ n8_ n9_ n10_ n11_; clear hb hbox hg; have hnb42 := NB244_238.out; have hnc42 := NB238_244.out; have hnb43 := NB244_0.out; have hnc43 := NB0_244.out; have hcz44_0 : w41.cell? ⟨gb244, 0, none⟩ = some (.string (⟨#[]⟩ : ByteArray)) := (blk_cell BK244.out 0).trans rfl; have hcz44_1 : w41.cell? ⟨gb244, 1, none⟩ = some (.slice none 0 0) := (blk_cell BK244.out 1).trans rfl; have hfz44_0 := blk_frozen BK244.out 0; have hfz44_1 := blk_frozen BK244.out 1; obtain ⟨Ao45, co45, eo45⟩ := Kd.R_slice HO242.out; subst eo45) | ((with_reducible refine gate_callee (f := 14) rfl ?_); refine goesL_ (some 11) rfl rfl Tryz.func14 (by kernel_rfl) rfl #[.pointer (some ⟨g, 0, none⟩), .int .i64 (t240.length : Int)] rfl (by (try simp only [List.map_toArray, List.map_cons, List.map_nil]); first | done | rfl) ?_; (with_reducible refine (m_Tape_Next.calls g s0_0 t243 (t240.length : Int) t245 t246 w0 _ ?side1 ?side2 A3.out).mono ?_); (case side1 => repeat (first | (with_reducible first | exact HI0.out | apply IsS28.alloc | apply IsS28.drewN | apply IsS28.drew | apply IsS28.set_1 | refine IsS28.far ?_ NB0_238.out _ | refine IsS28.far ?_ NB0_244.out _) | exact HI0.out)); (case side2 => repeat (first | (with_reducible first | exact HB.out | apply b_a | apply b_n | apply b_d | refine below_set ?_ (IsS28.ge HI0.out) | refine below_set ?_ GE238.out | refine below_set ?_ GE244.out) | exact HB.out)); rintro e w46 ⟨rfl, hi, hb, hk⟩; refine ⟨_, rfl, ?_⟩; have n0_ := mk0 (KeepBut.blk hk (g' := gb238) (o := .cells #[.string (⟨#[]⟩ : ByteArray), .slice none 0 0] 24 (0, 0)) (by (with_reducible repeat (first | refine blk_drewN ?_ _ | refine blk_drew ?_ | refine blk_alloc ?_ _)); refine blk_far ?_ NB238_244.out _; (with_reducible repeat (first | refine blk_drewN ?_ _ | refine blk_drew ?_ | refine blk_alloc ?_ _)); refine blk_far ?_ NB238_244.out _; (with_reducible repeat (first | refine blk_drewN ?_ _ | refine blk_drew ?_ | refine blk_alloc ?_ _)); exact BK238.out) NB238_0.out (by simp)); have n1_ := mk0 (Kd.R_mono (Kd.R_keep (IsS28.apart (show IsS28 w0 _ g s0_0 t243 from by repeat (first | (with_reducible first | exact HI0.out | apply IsS28.alloc | apply IsS28.drewN | apply IsS28.drew | apply IsS28.set_1 | refine IsS28.far ?_ NB0_238.out _ | refine IsS28.far ?_ NB0_244.out _) | exact HI0.out)) (by (with_reducible repeat (first | apply r_a | apply r_n | apply r_d)); exact (Kd.R_mono (Kd.R_far (p := ⟨gb244, 1, none⟩) (Kd.R_far (p := ⟨gb244, 0, none⟩) (Kd.R_types HO242.out BK244.out (by decide)) (fun _ hk => hk.2) (.string t239)) (fun _ hk => hk.2) (.slice Ao45 t240.length co45)) (fun _ h_ => h_.1))) (by decide)) hk (fun _ h => h.2)) (fun _ h => h.1)); have n2_ := mk0 (KeepBut.blk hk (g' := gb244) (o := .cells #[.string t239, .slice Ao45 t240.length co45] 24 (0, 0)) (by (with_reducible repeat (first | refine blk_drewN ?_ _ | refine blk_drew ?_ | refine blk_alloc ?_ _)); refine blk_put (cs := #[.string t239, .slice none 0 0]) ?_ 1 _ rfl; (with_reducible repeat (first | refine blk_drewN ?_ _ | refine blk_drew ?_ | refine blk_alloc ?_ _)); refine blk_put (cs := #[.string (⟨#[]⟩ : ByteArray), .slice none 0 0]) ?_ 0 _ rfl; (with_reducible repeat (first | refine blk_drewN ?_ _ | refine blk_drew ?_ | refine blk_alloc ?_ _)); exact BK244.out) NB244_0.out (by simp)); have n3_ := mk0 (KeepBut.trans (by repeat (first | (with_reducible first | exact HK.out | apply KeepBut.set_ | apply keep_drewN | apply keep_drew | apply keep_alloc | refine keep_far ?_ GW238.out _ | refine keep_far ?_ GW244.out _) | exact HK.out)) hk (.inl rfl)); have n4_ := mk0 (hb); have n5_ := mk0 (hi); clear BK238; clear HO242; clear BK244; clear HK; clear HB; clear HI0; have BK238 := n0_; have HO242 := n1_; have BK244 := n2_; have HK := n3_; have HB := n4_; have HI0 := n5_; clear n0_ n1_ n2_ n3_ n4_ n5_; (try clear hb); (try clear hb2); (try clear hk); (try clear hi)) | ((with_reducible refine gate_callee (f := 14) rfl ?_); refine goesL_ (some 13) rfl rfl Tryz.func14 (by kernel_rfl) rfl #[.pointer (some ⟨g, 0, none⟩), .int .i64 5] rfl (by (try simp only [List.map_toArray, List.map_cons, List.map_nil]); first | done | rfl) ?_; (with_reducible refine (m_Tape_Next.calls g s0_0 t246 5 t247 t248 w0 _ ?side1 ?side2 A4.out).mono ?_); (case side1 => repeat (first | (with_reducible first | exact HI0.out | apply IsS28.alloc | apply IsS28.drewN | apply IsS28.drew | apply IsS28.set_1 | refine IsS28.far ?_ NB0_238.out _ | refine IsS28.far ?_ NB0_244.out _) | exact HI0.out)); (case side2 => repeat (first | (with_reducible first | exact HB.out | apply b_a | apply b_n | apply b_d | refine below_set ?_ (IsS28.ge HI0.out) | refine below_set ?_ GE238.out | refine below_set ?_ GE244.out) | exact HB.out)); rintro e w47 ⟨rfl, hi, hb, hk⟩; refine ⟨_, rfl, ?_⟩; have n0_ := mk0 (KeepBut.blk hk (g' := gb238) (o := .cells #[.string (⟨#[]⟩ : ByteArray), .slice none 0 0] 24 (0, 0)) (by (with_reducible repeat (first | refine blk_drewN ?_ _ | refine blk_drew ?_ | refine blk_alloc ?_ _)); exact BK238.out) NB238_0.out (by simp)); have n1_ := mk0 (Kd.R_mono (Kd.R_keep (IsS28.apart (show IsS28 w0 _ g s0_0 t246 from by repeat (first | (with_reducible first | exact HI0.out | apply IsS28.alloc | apply IsS28.drewN | apply IsS28.drew | apply IsS28.set_1 | refine IsS28.far ?_ NB0_238.out _ | refine IsS28.far ?_ NB0_244.out _) | exact HI0.out)) (by (with_reducible repeat (first | apply r_a | apply r_n | apply r_d)); exact HO242.out) (by decide)) hk (fun _ h => h.2)) (fun _ h => h.1)); have n2_ := mk0 (KeepBut.blk hk (g' := gb244) (o := .cells #[.string t239, .slice Ao45 t240.length co45] 24 (0, 0)) (by (with_reducible repeat (first | refine blk_drewN ?_ _ | refine blk_drew ?_ | refine blk_alloc ?_ _)); exact BK244.out) NB244_0.out (by simp)); have n3_ := mk0 (KeepBut.trans (by repeat (first | (with_reducible first | exact HK.out | apply KeepBut.set_ | apply keep_drewN | apply keep_drew | apply keep_alloc | refine keep_far ?_ GW238.out _ | refine keep_far ?_ GW244.out _) | exact HK.out)) hk (.inl rfl)); have n4_ := mk0 (hb); have n5_ := mk0 (hi); clear BK238; clear HO242; clear BK244; clear HK; clear HB; clear HI0; have BK238 := n0_; have HO242 := n1_; have BK244 := n2_; have HK := n3_; have HB := n4_; have HI0 := n5_; clear n0_ n1_ n2_ n3_ n4_ n5_; (try clear hb); (try clear hb2); (try clear hk); (try clear hi)))
     have n0_ := mk0 (r_d HO242.out)
     have n1_ := mk0 (blk_drew BK238.out)
     have n2_ := mk0 (blk_drew BK244.out)
     have n3_ := mk0 (IsS28.drew HI0.out)
     have n4_ := mk0 (keep_drew HK.out)
     have n5_ := mk0 (b_d HB.out)
     clear HO242
     clear BK238
     clear BK244
     clear HI0
     clear HK
     clear HB
     have HO242 := n0_
     have BK238 := n1_
     have BK244 := n2_
     have HI0 := n3_
     have HK := n4_
     have HB := n5_
     clear n0_ n1_ n2_ n3_ n4_ n5_
     refine start_ (n := 7) (S := fun w' => w'.cell? ⟨gb244, 0, none⟩ = some (.string t239) ∧ w'.cell? ⟨gb244, 1, none⟩ = some (.slice Ao45 t240.length co45)) (ds := [6]) #[false, false, false, false, false, false, false] (by kernel_rfl) rfl rfl ⟨(blk_cell BK244.out 0).trans rfl, (blk_cell BK244.out 1).trans rfl⟩ (fun hHeld => ?_)
     generalize w47.drew = w48 at HO242 BK238 BK244 HI0 HK HB hHeld ⊢
     refine pure_ (i := 0) (N := some 31) (v := ?_) (a' := ?_) #[true, false, false, false, false, false, false] rfl rfl (by kernel_rfl) (fun _ _ _ h => h) (Or.inl ⟨by rfl, ?_⟩) ?_ ?_
     rotate_left
     ·intro w'
      go_simp
      with_reducible rfl
     rotate_left
     ·simp only [Act.put, List.setIfInBounds_toArray, List.set_cons_zero, List.set_cons_succ, i64_w, i32_w]
      rfl
     refine pure_ (i := 2) (N := some 33) (v := ?_) (a' := ?_) #[true, false, true, false, false, false, false] rfl rfl (by kernel_rfl) (fun _ _ _ h => h) (Or.inl ⟨by rfl, ?_⟩) ?_ ?_
     rotate_left
     ·intro w'
      go_simp
      with_reducible rfl
     rotate_left
     ·simp only [Act.put, List.setIfInBounds_toArray, List.set_cons_zero, List.set_cons_succ, i64_w, i32_w]
      rfl
     refine pure_ (i := 3) (N := some 34) (v := ?_) (a' := ?_) #[true, false, true, true, false, false, false] rfl rfl (by kernel_rfl) (fun _ _ _ h => h) (Or.inl ⟨by rfl, ?_⟩) ?_ ?_
     rotate_left
     ·intro w'
      go_simp
      with_reducible rfl
     rotate_left
     ·simp only [Act.put, List.setIfInBounds_toArray, List.set_cons_zero, List.set_cons_succ, i64_w, i32_w]
      rfl
     refine take_ (i := 1) (N := some 32) (v := ?_) (a' := ?_) #[true, true, true, true, false, false, false] rfl rfl (by kernel_rfl) (fun _ _ _ h => h) (Or.inl ⟨by rfl, ?_⟩) hHeld ?_ ?_
     rotate_left
     ·rintro w' ⟨s0, s1⟩
      go_simp
      with_reducible rfl
     rotate_left
     ·simp only [Act.put, List.setIfInBounds_toArray, List.set_cons_zero, List.set_cons_succ, i64_w, i32_w]
      rfl
     refine one_ (i := 4) (N := some 35) #[true, true, true, true, true, false, false] rfl rfl (by kernel_rfl) (by decide) (fun K hK => ?_)
     refine goes_ Tryz.func6 (by kernel_rfl) rfl #[.pointer (some ⟨g, 0, none⟩)] (by rfl) rfl rfl (by (try simp only [List.map_toArray, List.map_cons, List.map_nil]); first | done | rfl | (simp only [List.length_drop, List.length_take]; rfl)) ?_
     with_reducible refine (w6_code.calls k g s0_0 t248 t266 t267 w0 _ ?side1 ?side2 A35.out).mono ?_
     (case side1 => repeat (first | (with_reducible first | exact HI0.out | apply IsS28.alloc | apply IsS28.drewN | apply IsS28.drew | apply IsS28.set_1 | refine IsS28.far ?_ NB0_238.out _ | refine IsS28.far ?_ NB0_244.out _) | exact HI0.out))
     (case side2 => repeat (first | (with_reducible first | exact HB.out | apply b_a | apply b_n | apply b_d | refine below_set ?_ (IsS28.ge HI0.out) | refine below_set ?_ GE238.out | refine below_set ?_ GE244.out) | exact HB.out))
     rintro e w49 ⟨rfl, hi, hb, hk⟩
     refine ⟨_, rfl, ?_⟩
     have n0_ := mk0 (KeepBut.blk hk (g' := gb238) (o := .cells #[.string (⟨#[]⟩ : ByteArray), .slice none 0 0] 24 (0, 0)) (by (with_reducible repeat (first | refine blk_drewN ?_ _ | refine blk_drew ?_ | refine blk_alloc ?_ _)); exact BK238.out) NB238_0.out (by simp))
     have n1_ := mk0 (Kd.R_mono (Kd.R_keep (IsS28.apart (show IsS28 w0 _ g s0_0 t248 from by repeat (first | (with_reducible first | exact HI0.out | apply IsS28.alloc | apply IsS28.drewN | apply IsS28.drew | apply IsS28.set_1 | refine IsS28.far ?_ NB0_238.out _ | refine IsS28.far ?_ NB0_244.out _) | exact HI0.out)) (by (with_reducible repeat (first | apply r_a | apply r_n | apply r_d)); exact HO242.out) (by decide)) hk (fun _ h => h.2)) (fun _ h => h.1))
     have n2_ := mk0 (KeepBut.blk hk (g' := gb244) (o := .cells #[.string t239, .slice Ao45 t240.length co45] 24 (0, 0)) (by (with_reducible repeat (first | refine blk_drewN ?_ _ | refine blk_drew ?_ | refine blk_alloc ?_ _)); exact BK244.out) NB244_0.out (by simp))
     have n3_ := mk0 (KeepBut.trans (by repeat (first | (with_reducible first | exact HK.out | apply KeepBut.set_ | apply keep_drewN | apply keep_drew | apply keep_alloc | refine keep_far ?_ GW238.out _ | refine keep_far ?_ GW244.out _) | exact HK.out)) hk (.inl rfl))
     have n4_ := mk0 (hb)
     have n5_ := mk0 (hi)
     clear BK238
     clear HO242
     clear BK244
     clear HK
     clear HB
     clear HI0
     have BK238 := n0_
     have HO242 := n1_
     have BK244 := n2_
     have HK := n3_
     have HB := n4_
     have HI0 := n5_
     clear n0_ n1_ n2_ n3_ n4_ n5_
     (try clear hb)
     (try clear hb2)
     (try clear hk)
     (try clear hi)
     have p38 : 0 ≤ (t245 : Int) := of_decide_eq_true (by assumption)
     have q38 : (t245 : Int) < ((t240.length : Int) : Int) := of_decide_eq_true (by assumption)
     obtain ⟨go38, co38, eo38, gb38, gl38, cl38, HG38⟩ := Kd.R_form HO242.out (by omega)
     (first | cases eo38 | (injection eo38 with ea_ en_ ec_; (first | subst ea_ | (injection ea_ with ea_; subst ea_)); subst ec_; clear en_))
     have GB38 := mk0 gb38
     have GG38 := mk0 HG38
     clear gb38 gl38 HG38
     obtain ⟨hx38_0, hf38_0⟩ := Kd.R_celln (⟨#[]⟩ : ByteArray) HO242.out (t245 : Int) p38 q38
     replace p38 := eq_true p38
     replace q38 := eq_true q38
     have HN0_go38 := mk0 (show g ≠ go38 from by have h_ := IsS28.own_ne HI0.out HO242.out (by decide); intro e_; exact h_ (by rw [e_]; rfl))
     have HP50 := Kd.R_putn HO242.out (t245 : Int) t266
     rw [← Ny268.out] at HP50
     have HQ50 := mk0 HP50
     clear HP50
     refine hK.out _ _ ⟨(blk_cell BK244.out 0).trans rfl, (blk_cell BK244.out 1).trans rfl⟩ (fun hHeld => ?_)
     clear hK K
     refine norm_ (a' := ?_) ?_ ?_
     rotate_left
     ·show Act.put _ (some 35) _ = _
      simp only [Act.put, List.setIfInBounds_toArray, List.set_cons_zero, List.set_cons_succ, i64_w, i32_w]
      rfl
     refine pure_ (i := 5) (N := some 36) (v := ?_) (a' := ?_) #[true, true, true, true, true, true, false] rfl rfl (by kernel_rfl) (fun _ _ _ h => h) (Or.inl ⟨by rfl, ?_⟩) ?_ ?_
     rotate_left
     ·intro w'
      go_simp
      with_reducible rfl
     rotate_left
     ·simp only [Act.put, List.setIfInBounds_toArray, List.set_cons_zero, List.set_cons_succ, i64_w, i32_w]
      rfl
     refine last_ (i := 6) (N := none) #[true, true, true, true, true, true, true] rfl rfl (by kernel_rfl) (by decide) (fun K hK => ?_)
     refine skip_ (w1 := ?_) (by rfl) rfl ?_ ?_
     rotate_left
     ·go_simp
      rfl
     refine hK.out _ _ ?_
     clear hK K
     refine done_ (by kernel_rfl) ?_
     have n0_ : Aside0 (Kd.R Kd.string 9 (w49.setCell ⟨go38, (t245 : Int).toNat, none⟩ (.string t266)) w.heap.size (fun _ => True) (.slice (some ⟨go38, 0, none⟩) t240.length co45) y268) := ⟨by (with_reducible repeat (first | apply r_a | apply r_n | apply r_d)); exact HQ50.out⟩
     have n1_ : Aside0 ((w49.setCell ⟨go38, (t245 : Int).toNat, none⟩ (.string t266)).heap[gb238]? = some (.cells #[.string (⟨#[]⟩ : ByteArray), .slice none 0 0] 24 (0, 0))) := ⟨by (with_reducible repeat (first | refine blk_drewN ?_ _ | refine blk_drew ?_ | refine blk_alloc ?_ _)); refine blk_far ?_ (by have h_ := Kd.R_ne HO242.out BK238.out (by decide); intro e_; exact h_ (by rw [e_]; rfl)) _; (with_reducible repeat (first | refine blk_drewN ?_ _ | refine blk_drew ?_ | refine blk_alloc ?_ _)); exact BK238.out⟩
     have n2_ : Aside0 ((w49.setCell ⟨go38, (t245 : Int).toNat, none⟩ (.string t266)).heap[gb244]? = some (.cells #[.string t239, .slice (some ⟨go38, 0, none⟩) t240.length co45] 24 (0, 0))) := ⟨by (with_reducible repeat (first | refine blk_drewN ?_ _ | refine blk_drew ?_ | refine blk_alloc ?_ _)); refine blk_far ?_ (by have h_ := Kd.R_ne HO242.out BK244.out (by decide); intro e_; exact h_ (by rw [e_]; rfl)) _; (with_reducible repeat (first | refine blk_drewN ?_ _ | refine blk_drew ?_ | refine blk_alloc ?_ _)); exact BK244.out⟩
     have n3_ : Aside0 (IsS28 w0 (w49.setCell ⟨go38, (t245 : Int).toNat, none⟩ (.string t266)) g s0_0 t267) := ⟨by repeat (first | (with_reducible first | exact HI0.out | apply IsS28.alloc | apply IsS28.drewN | apply IsS28.drew | apply IsS28.set_1 | refine IsS28.far ?_ HN0_go38.out _ | refine IsS28.far ?_ NB0_238.out _ | refine IsS28.far ?_ NB0_244.out _) | exact HI0.out)⟩
     have n4_ : Aside0 (KeepBut w (w49.setCell ⟨go38, (t245 : Int).toNat, none⟩ (.string t266)) g none) := ⟨by repeat (first | (with_reducible first | exact HK.out | apply KeepBut.set_ | apply keep_drewN | apply keep_drew | apply keep_alloc | refine keep_far ?_ GB38.out _ | refine keep_far ?_ GW238.out _ | refine keep_far ?_ GW244.out _) | exact HK.out)⟩
     have n5_ : Aside0 (Below w0.heap.size w0 (w49.setCell ⟨go38, (t245 : Int).toNat, none⟩ (.string t266))) := ⟨by repeat (first | (with_reducible first | exact HB.out | apply b_a | apply b_n | apply b_d | refine below_set ?_ (Nat.le_trans HL.out GB38.out) | refine below_set ?_ (IsS28.ge HI0.out) | refine below_set ?_ GE238.out | refine below_set ?_ GE244.out) | exact HB.out)⟩
     (try clear HO242)
     (try clear BK238)
     (try clear BK244)
     (try clear HI0)
     (try clear HK)
     (try clear HB)
     generalize (w49.setCell ⟨go38, (t245 : Int).toNat, none⟩ (.string t266)) = w51 at n0_ n1_ n2_ n3_ n4_ n5_ ⊢
     have HO242 := n0_
     have BK238 := n1_
     have BK244 := n2_
     have HI0 := n3_
     have HK := n4_
     have HB := n5_
     clear n0_ n1_ n2_ n3_ n4_ n5_
     have hcz52_0 : w51.cell? ⟨gb244, 0, none⟩ = some (.string t239) := (blk_cell BK244.out 0).trans rfl
     have hcz52_1 : w51.cell? ⟨gb244, 1, none⟩ = some (.slice (some ⟨go38, 0, none⟩) t240.length co45) := (blk_cell BK244.out 1).trans rfl
     have hfz52_0 := blk_frozen BK244.out 0
     have hfz52_1 := blk_frozen BK244.out 1
     have hnb53 := NB238_0.out
     have hnc53 := NB0_238.out
     have hcz54_0 : w51.cell? ⟨gb238, 0, none⟩ = some (.string (⟨#[]⟩ : ByteArray)) := (blk_cell BK238.out 0).trans rfl
     have hcz54_1 : w51.cell? ⟨gb238, 1, none⟩ = some (.slice none 0 0) := (blk_cell BK238.out 1).trans rfl
     have hfz54_0 := blk_frozen BK238.out 0
     have hfz54_1 := blk_frozen BK238.out 1
     try go_wp2
     refine bodyPost_ret (results_cell_row rfl _ _ gb238 24 #[.string t239, .slice (some ⟨go38, 0, none⟩) t240.length co45] (0, 0) _ rfl (by (with_reducible repeat (first | refine blk_drewN ?_ _ | refine blk_drew ?_ | refine blk_alloc ?_ _)); refine blk_put (cs := #[.string t239, .slice none 0 0]) ?_ 1 _ rfl; (with_reducible repeat (first | refine blk_drewN ?_ _ | refine blk_drew ?_ | refine blk_alloc ?_ _)); refine blk_put (cs := #[.string (⟨#[]⟩ : ByteArray), .slice none 0 0]) ?_ 0 _ rfl; (with_reducible repeat (first | refine blk_drewN ?_ _ | refine blk_drew ?_ | refine blk_alloc ?_ _)); exact BK238.out) Tryz.underlying24 rfl (by kernel_rfl)) rfl ?_
     exact ⟨_, by first | rfl | (simp [errW_none, errW_some] <;> rfl) | (simp [*, errW_none, errW_some] <;> rfl), by (with_reducible repeat (first | apply r_a | apply r_n | apply r_d)); exact Kd.R_mono (Kd.R_far (p := ⟨gb238, 1, none⟩) (Kd.R_far (p := ⟨gb238, 0, none⟩) (Kd.R_types HO242.out BK238.out (by decide)) (fun _ hk => hk.2) (.string t239)) (fun _ hk => hk.2) (.slice (some ⟨go38, 0, none⟩) t240.length co45)) (fun _ hk => trivial), by repeat (first | (with_reducible first | exact HI0.out | apply IsS28.alloc | apply IsS28.drewN | apply IsS28.drew | apply IsS28.set_1 | refine IsS28.far ?_ NB0_238.out _ | refine IsS28.far ?_ NB0_244.out _) | exact HI0.out), by repeat (first | (with_reducible first | exact HB.out | apply b_a | apply b_n | apply b_d | refine below_set ?_ (IsS28.ge HI0.out) | refine below_set ?_ GE238.out | refine below_set ?_ GE244.out) | exact HB.out), by repeat (first | (with_reducible first | exact HK.out | apply KeepBut.set_ | apply keep_drewN | apply keep_drew | apply keep_alloc | refine keep_far ?_ GW238.out _ | refine keep_far ?_ GW244.out _) | exact HK.out)⟩
    ·rw [if_neg c37] at H
     exact absurd H (by simp)
   ·rw [if_neg c36] at H
    exact absurd H (by simp)
  ·rw [if_neg c34] at H
   have c34b0 : (t247 == 1) = false := beq_eq_false_iff_ne.mpr c34
   have c34b1 : (t247 != 1) = true := bne_iff_ne.mpr c34
   by_cases c55 : t247 = 2
   ·rw [if_pos c55] at H
    have c55b0 : (t247 == 2) = true := beq_iff_eq.mpr c55
    have c55b1 : (t247 != 2) = false := bne_eq_false_iff_eq.mpr c55
    clear c55
    by_cases c56 : 0 ≤ t245
    ·rw [if_pos c56] at H
     have c56b0 : decide (0 ≤ t245) = true := decide_eq_true c56
     clear c56
     by_cases c57 : t245 < (t240.length : Int)
     ·rw [if_pos c57] at H
      have c57b0 : decide (t245 < (t240.length : Int)) = true := decide_eq_true c57
      clear c57
      by_cases c58 : t240.length < 8796093022208
      ·rw [if_pos c58] at H
       have LMc58 := mk0 c58
       clear c58
       obtain ⟨y270, hy270⟩ : ∃ y_ : List ByteArray, y_ = (t240 ++ [rdOf ByteArray.empty t240 t245]) := ⟨_, rfl⟩
       replace H : (some (t239, y270, t248)) = some (r1, r2, r3) := by first | (rw [hy270]; with_reducible exact H) | (have H2_ := (Option.bind_some _ _).symm.trans H; rw [hy270]; with_reducible exact H2_) | (have H2_ := (Option.bind_some _ _).symm.trans H; with_reducible exact H2_) | with_reducible exact H | (rw [hy270]; exact H) | exact H
       have Ny270 := mk0 hy270
       clear hy270
       simp only [Option.some.injEq, Prod.mk.injEq] at H
       obtain ⟨rfl, rfl, rfl⟩ := H
       go_enter Tryz.func5, Tryz.ntmps5
       try go_wp2_with (first | ((with_reducible refine gate_dst (N := 2) rfl ?_); refine box_event ?hg (N := 2) ?hd (cs := #[.string (⟨#[]⟩ : ByteArray), .slice none 0 0]) (t := 24) ?hr ?_; (case hd => rfl); (case hg => rfl); (case hr => first | (go_simp; done) | (go_simp; rfl)); intro gb238 hg w59 hbox hb; have n0_ := mk0 (IsS28.below (by repeat (first | (with_reducible first | exact HI0.out | apply IsS28.alloc | apply IsS28.drewN | apply IsS28.drew | apply IsS28.set_1) | exact HI0.out)) hb); have n1_ := mk0 (KeepBut.trans (by repeat (first | (with_reducible first | exact HK.out | apply KeepBut.set_ | apply keep_drewN | apply keep_drew | apply keep_alloc) | exact HK.out)) (KeepBut.of_below hb g none) (.inl rfl)); have n2_ := mk0 (below_step (by repeat (with_reducible first | exact HB.out | apply b_a | apply b_n | apply b_d | refine below_set ?_ (IsS28.ge HI0.out))) hb); have n3_ := mk0 (hbox); have n4_ := mk0 ((by rw [hg]; exact (keep_size (w := w) (g := g) (row := none) (by repeat (first | (with_reducible first | exact HK.out | apply KeepBut.set_ | apply keep_drewN | apply keep_drew | apply keep_alloc) | exact HK.out))) : w.heap.size ≤ gb238)); have n5_ := mk0 ((Nat.le_trans HW0.out (by rw [hg]; exact (keep_size (w := w) (g := g) (row := none) (by repeat (first | (with_reducible first | exact HK.out | apply KeepBut.set_ | apply keep_drewN | apply keep_drew | apply keep_alloc) | exact HK.out))) : w.heap.size ≤ gb238) : w0.heap.size ≤ gb238)); have n6_ := mk0 ((by rw [hg]; exact Nat.ne_of_lt (IsS28.lt (show IsS28 w0 _ g s0_0 s0_1 from by repeat (first | (with_reducible first | exact HI0.out | apply IsS28.alloc | apply IsS28.drewN | apply IsS28.drew | apply IsS28.set_1) | exact HI0.out))) : g ≠ gb238)); have n7_ := mk0 ((by rw [hg]; exact Nat.ne_of_gt (IsS28.lt (show IsS28 w0 _ g s0_0 s0_1 from by repeat (first | (with_reducible first | exact HI0.out | apply IsS28.alloc | apply IsS28.drewN | apply IsS28.drew | apply IsS28.set_1) | exact HI0.out))) : gb238 ≠ g)); clear HI0; clear HK; clear HB; have HI0 := n0_; have HK := n1_; have HB := n2_; have BK238 := n3_; have GW238 := n4_; have GE238 := n5_; have NB0_238 := n6_; have NB238_0 := n7_; clear n0_ n1_ n2_ n3_ n4_ n5_ n6_ n7_; clear hb hbox hg) | ((with_reducible refine gate_callee (f := 13) rfl ?_); refine goesL_ (some 6) rfl rfl Tryz.func13 (by kernel_rfl) rfl #[.pointer (some ⟨g, 0, none⟩)] rfl (by (try simp only [List.map_toArray, List.map_cons, List.map_nil]); first | done | rfl) ?_; (with_reducible refine (m_Tape_Tree.calls k g s0_0 s0_1 t239 t240 t243 w0 _ ?side1 ?side2 A2.out).mono ?_); (case side1 => repeat (first | (with_reducible first | exact HI0.out | apply IsS28.alloc | apply IsS28.drewN | apply IsS28.drew | apply IsS28.set_1 | refine IsS28.far ?_ NB0_238.out _) | exact HI0.out)); (case side2 => repeat (first | (with_reducible first | exact HB.out | apply b_a | apply b_n | apply b_d | refine below_set ?_ (IsS28.ge HI0.out) | refine below_set ?_ GE238.out) | exact HB.out)); rintro e w60 ⟨v241, rfl, ho0, hi, hb, hk⟩; refine ⟨_, rfl, ?_⟩; have n0_ := mk0 (KeepBut.blk hk (g' := gb238) (o := .cells #[.string (⟨#[]⟩ : ByteArray), .slice none 0 0] 24 (0, 0)) (by (with_reducible repeat (first | refine blk_drewN ?_ _ | refine blk_drew ?_ | refine blk_alloc ?_ _)); exact BK238.out) NB238_0.out (by simp)); have n1_ := mk0 (Kd.R_lower ho0 (keep_size (w := w) (g := g) (row := none) (by repeat (first | (with_reducible first | exact HK.out | apply KeepBut.set_ | apply keep_drewN | apply keep_drew | apply keep_alloc | refine keep_far ?_ GW238.out _) | exact HK.out)))); have n2_ := mk0 (KeepBut.trans (by repeat (first | (with_reducible first | exact HK.out | apply KeepBut.set_ | apply keep_drewN | apply keep_drew | apply keep_alloc | refine keep_far ?_ GW238.out _) | exact HK.out)) hk (.inl rfl)); have n3_ := mk0 (hb); have n4_ := mk0 (hi); clear BK238; clear HK; clear HB; clear HI0; have BK238 := n0_; have HO242 := n1_; have HK := n2_; have HB := n3_; have HI0 := n4_; clear n0_ n1_ n2_ n3_ n4_; (try clear hb); (try clear hb2); (try clear hk); (try clear hi); (try clear ho0)) | ((with_reducible refine gate_dst (N := 3) rfl ?_); refine box_event ?hg (N := 3) ?hd (cs := #[.string (⟨#[]⟩ : ByteArray), .slice none 0 0]) (t := 24) ?hr ?_; (case hd => rfl); (case hg => rfl); (case hr => first | (go_simp; done) | (go_simp; rfl)); intro gb244 hg w61 hbox hb; have n0_ := mk0 (Kd.R_below (by (with_reducible repeat (first | apply r_a | apply r_n | apply r_d)); exact HO242.out) hb); have n1_ := mk0 (IsS28.below (by repeat (first | (with_reducible first | exact HI0.out | apply IsS28.alloc | apply IsS28.drewN | apply IsS28.drew | apply IsS28.set_1 | refine IsS28.far ?_ NB0_238.out _) | exact HI0.out)) hb); have n2_ := mk0 (blk_below (g := gb238) (o := .cells #[.string (⟨#[]⟩ : ByteArray), .slice none 0 0] 24 (0, 0)) (by (with_reducible repeat (first | refine blk_drewN ?_ _ | refine blk_drew ?_ | refine blk_alloc ?_ _)); exact BK238.out) hb); have n3_ := mk0 (KeepBut.trans (by repeat (first | (with_reducible first | exact HK.out | apply KeepBut.set_ | apply keep_drewN | apply keep_drew | apply keep_alloc | refine keep_far ?_ GW238.out _) | exact HK.out)) (KeepBut.of_below hb g none) (.inl rfl)); have n4_ := mk0 (below_step (by repeat (with_reducible first | exact HB.out | apply b_a | apply b_n | apply b_d | refine below_set ?_ (IsS28.ge HI0.out) | refine below_set ?_ GE238.out)) hb); have n5_ := mk0 (hbox); have n6_ := mk0 ((by rw [hg]; exact (keep_size (w := w) (g := g) (row := none) (by repeat (first | (with_reducible first | exact HK.out | apply KeepBut.set_ | apply keep_drewN | apply keep_drew | apply keep_alloc | refine keep_far ?_ GW238.out _) | exact HK.out))) : w.heap.size ≤ gb244)); have n7_ := mk0 ((Nat.le_trans HW0.out (by rw [hg]; exact (keep_size (w := w) (g := g) (row := none) (by repeat (first | (with_reducible first | exact HK.out | apply KeepBut.set_ | apply keep_drewN | apply keep_drew | apply keep_alloc | refine keep_far ?_ GW238.out _) | exact HK.out))) : w.heap.size ≤ gb244) : w0.heap.size ≤ gb244)); have n8_ := mk0 ((by rw [hg]; exact Nat.ne_of_lt (blk_lt (g := gb238) (o := .cells #[.string (⟨#[]⟩ : ByteArray), .slice none 0 0] 24 (0, 0)) (by (with_reducible repeat (first | refine blk_drewN ?_ _ | refine blk_drew ?_ | refine blk_alloc ?_ _)); exact BK238.out)) : gb238 ≠ gb244)); have n9_ := mk0 ((by rw [hg]; exact Nat.ne_of_gt (blk_lt (g := gb238) (o := .cells #[.string (⟨#[]⟩ : ByteArray), .slice none 0 0] 24 (0, 0)) (by (with_reducible repeat (first | refine blk_drewN ?_ _ | refine blk_drew ?_ | refine blk_alloc ?_ _)); exact BK238.out)) : gb244 ≠ gb238)); have n10_ := mk0 ((by rw [hg]; exact Nat.ne_of_lt (IsS28.lt (show IsS28 w0 _ g s0_0 t243 from by repeat (first | (with_reducible first | exact HI0.out | apply IsS28.alloc | apply IsS28.drewN | apply IsS28.drew | apply IsS28.set_1 | refine IsS28.far ?_ NB0_238.out _) | exact HI0.out))) : g ≠ gb244)); have n11_ := mk0 ((by rw [hg]; exact Nat.ne_of_gt (IsS28.lt (show IsS28 w0 _ g s0_0 t243 from by repeat (first | (with_reducible first | exact HI0.out | apply IsS28.alloc | apply IsS28.drewN | apply IsS28.drew | apply IsS28.set_1 | refine IsS28.far ?_ NB0_238.out _) | exact HI0.out))) : gb244 ≠ g)); clear HO242; clear HI0; clear BK238; clear HK; clear HB; have HO242 := n0_; have HI0 := n1_; have BK238 := n2_; have HK := n3_; have HB := n4_; have BK244 := n5_; have GW244 := n6_; have GE244 := n7_; have NB238_244 := n8_; have NB244_238 := n9_; have NB0_244 := n10_; have NB244_0 := n11_; clear n0_ n1_ n2_ n3_ n4_ n5_ n6_ n7_ n8_ n9_ n10_ n11_; clear hb hbox hg; have hnb62 := NB244_238.out; have hnc62 := NB238_244.out; have hnb63 := NB244_0.out; have hnc63 := NB0_244.out; have hcz64_0 : w61.cell? ⟨gb244, 0, none⟩ = some (.string (⟨#[]⟩ : ByteArray)) := (blk_cell BK244.out 0).trans rfl; have hcz64_1 : w61.cell? ⟨gb244, 1, none⟩ = some (.slice none 0 0) := (blk_cell BK244.out 1).trans rfl; have hfz64_0 := blk_frozen BK244.out 0; have hfz64_1 := blk_frozen BK244.out 1; obtain ⟨Ao65, co65, eo65⟩ := Kd.R_slice HO242.out; subst eo65) | ((with_reducible refine gate_callee (f := 14) rfl ?_); refine goesL_ (some 11) rfl rfl Tryz.func14 (by kernel_rfl) rfl #[.pointer (some ⟨g, 0, none⟩), .int .i64 (t240.length : Int)] rfl (by (try simp only [List.map_toArray, List.map_cons, List.map_nil]); first | done | rfl) ?_; (with_reducible refine (m_Tape_Next.calls g s0_0 t243 (t240.length : Int) t245 t246 w0 _ ?side1 ?side2 A3.out).mono ?_); (case side1 => repeat (first | (with_reducible first | exact HI0.out | apply IsS28.alloc | apply IsS28.drewN | apply IsS28.drew | apply IsS28.set_1 | refine IsS28.far ?_ NB0_238.out _ | refine IsS28.far ?_ NB0_244.out _) | exact HI0.out)); (case side2 => repeat (first | (with_reducible first | exact HB.out | apply b_a | apply b_n | apply b_d | refine below_set ?_ (IsS28.ge HI0.out) | refine below_set ?_ GE238.out | refine below_set ?_ GE244.out) | exact HB.out)); rintro e w66 ⟨rfl, hi, hb, hk⟩; refine ⟨_, rfl, ?_⟩; have n0_ := mk0 (KeepBut.blk hk (g' := gb238) (o := .cells #[.string (⟨#[]⟩ : ByteArray), .slice none 0 0] 24 (0, 0)) (by (with_reducible repeat (first | refine blk_drewN ?_ _ | refine blk_drew ?_ | refine blk_alloc ?_ _)); refine blk_far ?_ NB238_244.out _; (with_reducible repeat (first | refine blk_drewN ?_ _ | refine blk_drew ?_ | refine blk_alloc ?_ _)); refine blk_far ?_ NB238_244.out _; (with_reducible repeat (first | refine blk_drewN ?_ _ | refine blk_drew ?_ | refine blk_alloc ?_ _)); exact BK238.out) NB238_0.out (by simp)); have n1_ := mk0 (Kd.R_mono (Kd.R_keep (IsS28.apart (show IsS28 w0 _ g s0_0 t243 from by repeat (first | (with_reducible first | exact HI0.out | apply IsS28.alloc | apply IsS28.drewN | apply IsS28.drew | apply IsS28.set_1 | refine IsS28.far ?_ NB0_238.out _ | refine IsS28.far ?_ NB0_244.out _) | exact HI0.out)) (by (with_reducible repeat (first | apply r_a | apply r_n | apply r_d)); exact (Kd.R_mono (Kd.R_far (p := ⟨gb244, 1, none⟩) (Kd.R_far (p := ⟨gb244, 0, none⟩) (Kd.R_types HO242.out BK244.out (by decide)) (fun _ hk => hk.2) (.string t239)) (fun _ hk => hk.2) (.slice Ao65 t240.length co65)) (fun _ h_ => h_.1))) (by decide)) hk (fun _ h => h.2)) (fun _ h => h.1)); have n2_ := mk0 (KeepBut.blk hk (g' := gb244) (o := .cells #[.string t239, .slice Ao65 t240.length co65] 24 (0, 0)) (by (with_reducible repeat (first | refine blk_drewN ?_ _ | refine blk_drew ?_ | refine blk_alloc ?_ _)); refine blk_put (cs := #[.string t239, .slice none 0 0]) ?_ 1 _ rfl; (with_reducible repeat (first | refine blk_drewN ?_ _ | refine blk_drew ?_ | refine blk_alloc ?_ _)); refine blk_put (cs := #[.string (⟨#[]⟩ : ByteArray), .slice none 0 0]) ?_ 0 _ rfl; (with_reducible repeat (first | refine blk_drewN ?_ _ | refine blk_drew ?_ | refine blk_alloc ?_ _)); exact BK244.out) NB244_0.out (by simp)); have n3_ := mk0 (KeepBut.trans (by repeat (first | (with_reducible first | exact HK.out | apply KeepBut.set_ | apply keep_drewN | apply keep_drew | apply keep_alloc | refine keep_far ?_ GW238.out _ | refine keep_far ?_ GW244.out _) | exact HK.out)) hk (.inl rfl)); have n4_ := mk0 (hb); have n5_ := mk0 (hi); clear BK238; clear HO242; clear BK244; clear HK; clear HB; clear HI0; have BK238 := n0_; have HO242 := n1_; have BK244 := n2_; have HK := n3_; have HB := n4_; have HI0 := n5_; clear n0_ n1_ n2_ n3_ n4_ n5_; (try clear hb); (try clear hb2); (try clear hk); (try clear hi)) | ((with_reducible refine gate_callee (f := 14) rfl ?_); refine goesL_ (some 13) rfl rfl Tryz.func14 (by kernel_rfl) rfl #[.pointer (some ⟨g, 0, none⟩), .int .i64 5] rfl (by (try simp only [List.map_toArray, List.map_cons, List.map_nil]); first | done | rfl) ?_; (with_reducible refine (m_Tape_Next.calls g s0_0 t246 5 t247 t248 w0 _ ?side1 ?side2 A4.out).mono ?_); (case side1 => repeat (first | (with_reducible first | exact HI0.out | apply IsS28.alloc | apply IsS28.drewN | apply IsS28.drew | apply IsS28.set_1 | refine IsS28.far ?_ NB0_238.out _ | refine IsS28.far ?_ NB0_244.out _) | exact HI0.out)); (case side2 => repeat (first | (with_reducible first | exact HB.out | apply b_a | apply b_n | apply b_d | refine below_set ?_ (IsS28.ge HI0.out) | refine below_set ?_ GE238.out | refine below_set ?_ GE244.out) | exact HB.out)); rintro e w67 ⟨rfl, hi, hb, hk⟩; refine ⟨_, rfl, ?_⟩; have n0_ := mk0 (KeepBut.blk hk (g' := gb238) (o := .cells #[.string (⟨#[]⟩ : ByteArray), .slice none 0 0] 24 (0, 0)) (by (with_reducible repeat (first | refine blk_drewN ?_ _ | refine blk_drew ?_ | refine blk_alloc ?_ _)); exact BK238.out) NB238_0.out (by simp)); have n1_ := mk0 (Kd.R_mono (Kd.R_keep (IsS28.apart (show IsS28 w0 _ g s0_0 t246 from by repeat (first | (with_reducible first | exact HI0.out | apply IsS28.alloc | apply IsS28.drewN | apply IsS28.drew | apply IsS28.set_1 | refine IsS28.far ?_ NB0_238.out _ | refine IsS28.far ?_ NB0_244.out _) | exact HI0.out)) (by (with_reducible repeat (first | apply r_a | apply r_n | apply r_d)); exact HO242.out) (by decide)) hk (fun _ h => h.2)) (fun _ h => h.1)); have n2_ := mk0 (KeepBut.blk hk (g' := gb244) (o := .cells #[.string t239, .slice Ao65 t240.length co65] 24 (0, 0)) (by (with_reducible repeat (first | refine blk_drewN ?_ _ | refine blk_drew ?_ | refine blk_alloc ?_ _)); exact BK244.out) NB244_0.out (by simp)); have n3_ := mk0 (KeepBut.trans (by repeat (first | (with_reducible first | exact HK.out | apply KeepBut.set_ | apply keep_drewN | apply keep_drew | apply keep_alloc | refine keep_far ?_ GW238.out _ | refine keep_far ?_ GW244.out _) | exact HK.out)) hk (.inl rfl)); have n4_ := mk0 (hb); have n5_ := mk0 (hi); clear BK238; clear HO242; clear BK244; clear HK; clear HB; clear HI0; have BK238 := n0_; have HO242 := n1_; have BK244 := n2_; have HK := n3_; have HB := n4_; have HI0 := n5_; clear n0_ n1_ n2_ n3_ n4_ n5_; (try clear hb); (try clear hb2); (try clear hk); (try clear hi)))
       have n0_ := mk0 (r_d HO242.out)
       have n1_ := mk0 (blk_drew BK238.out)
       have n2_ := mk0 (blk_drew BK244.out)
       have n3_ := mk0 (IsS28.drew HI0.out)
       have n4_ := mk0 (keep_drew HK.out)
       have n5_ := mk0 (b_d HB.out)
       clear HO242
       clear BK238
       clear BK244
       clear HI0
       clear HK
       clear HB
       have HO242 := n0_
       have BK238 := n1_
       have BK244 := n2_
       have HI0 := n3_
       have HK := n4_
       have HB := n5_
       clear n0_ n1_ n2_ n3_ n4_ n5_
       have p269 : 0 ≤ (t245 : Int) := of_decide_eq_true (by assumption)
       have q269 : t245 < (t240.length : Int) := of_decide_eq_true (by assumption)
       obtain ⟨ad269, e269, hx269_0⟩ := Kd.at_string (Kd.R_reads' HO242.out).2.2 t245 p269 q269
       cases e269
       replace p269 := eq_true p269
       replace q269 := eq_true q269
       refine start_ (n := 11) (S := fun w' => w'.cell? ⟨gb244, 0, none⟩ = some (.string t239) ∧ w'.cell? ⟨gb244, 1, none⟩ = some (.slice (some ad269) t240.length co65) ∧ w'.cell? (ad269.add (t245).toNat) = some (.string (rdOf ByteArray.empty t240 t245))) (ds := [8, 10]) #[false, false, false, false, false, false, false, false, false, false, false] (by kernel_rfl) rfl rfl ⟨(blk_cell BK244.out 0).trans rfl, (blk_cell BK244.out 1).trans rfl, hx269_0⟩ (fun hHeld => ?_); refine with_tabW w6_spoiled.tab9 w6_spoiled.bits9 (fun HT_ HW_ => ?_)
       generalize w67.drew = w68 at HO242 BK238 BK244 HI0 HK HB hx269_0 hHeld ⊢
       refine pure_ (i := 0) (N := some 39) (v := ?_) (a' := ?_) #[true, false, false, false, false, false, false, false, false, false, false] rfl rfl (any_of HT_.out (by kernel_rfl)) (fun _ _ _ h => h) (Or.inl ⟨by rfl, ?_⟩) ?_ ?_
       rotate_left
       ·intro w'
        go_simp
        with_reducible rfl
       rotate_left
       ·simp only [Act.put, List.setIfInBounds_toArray, List.set_cons_zero, List.set_cons_succ, i64_w, i32_w]
        rfl
       refine pure_ (i := 2) (N := some 41) (v := ?_) (a' := ?_) #[true, false, true, false, false, false, false, false, false, false, false] rfl rfl (any_of HT_.out (by kernel_rfl)) (fun _ _ _ h => h) (Or.inl ⟨by rfl, ?_⟩) ?_ ?_
       rotate_left
       ·intro w'
        go_simp
        with_reducible rfl
       rotate_left
       ·simp only [Act.put, List.setIfInBounds_toArray, List.set_cons_zero, List.set_cons_succ, i64_w, i32_w]
        rfl
       refine pure_ (i := 4) (N := some 43) (v := ?_) (a' := ?_) #[true, false, true, false, true, false, false, false, false, false, false] rfl rfl (any_of HT_.out (by kernel_rfl)) (fun _ _ _ h => h) (Or.inl ⟨by rfl, ?_⟩) ?_ ?_
       rotate_left
       ·intro w'
        go_simp
        with_reducible rfl
       rotate_left
       ·simp only [Act.put, List.setIfInBounds_toArray, List.set_cons_zero, List.set_cons_succ, i64_w, i32_w]
        rfl
       refine take_ (i := 1) (N := some 40) (v := ?_) (a' := ?_) #[true, true, true, false, true, false, false, false, false, false, false] rfl rfl (take_ofW HT_.out HW_.out (by kernel_rfl)) (fun _ _ _ h => h) (Or.inl ⟨by rfl, ?_⟩) hHeld ?_ ?_
       rotate_left
       ·rintro w' ⟨s0, s1, s2⟩
        go_simp
        with_reducible rfl
       rotate_left
       ·simp only [Act.put, List.setIfInBounds_toArray, List.set_cons_zero, List.set_cons_succ, i64_w, i32_w]
        rfl
       refine take_ (i := 3) (N := some 42) (v := ?_) (a' := ?_) #[true, true, true, true, true, false, false, false, false, false, false] rfl rfl (take_ofW HT_.out HW_.out (by kernel_rfl)) (fun _ _ _ h => h) (Or.inl ⟨by rfl, ?_⟩) hHeld ?_ ?_
       rotate_left
       ·rintro w' ⟨s0, s1, s2⟩
        go_simp
        with_reducible rfl
       rotate_left
       ·simp only [Act.put, List.setIfInBounds_toArray, List.set_cons_zero, List.set_cons_succ, i64_w, i32_w]
        rfl
       refine pure_ (i := 5) (N := some 44) (v := ?_) (a' := ?_) #[true, true, true, true, true, true, false, false, false, false, false] rfl rfl (any_of HT_.out (by kernel_rfl)) (fun _ _ _ h => h) (Or.inl ⟨by rfl, ?_⟩) ?_ ?_
       rotate_left
       ·intro w'
        go_simp
        with_reducible rfl
       rotate_left
       ·simp only [Act.put, List.setIfInBounds_toArray, List.set_cons_zero, List.set_cons_succ, i64_w, i32_w]
        rfl
       refine take_ (i := 6) (N := some 45) (v := ?_) (a' := ?_) #[true, true, true, true, true, true, true, false, false, false, false] rfl rfl (take_ofW HT_.out HW_.out (by kernel_rfl)) (fun _ _ _ h => h) (Or.inl ⟨by rfl, ?_⟩) hHeld ?_ ?_
       rotate_left
       ·rintro w' ⟨s0, s1, s2⟩
        go_simp
        with_reducible rfl
       rotate_left
       ·simp only [Act.put, List.setIfInBounds_toArray, List.set_cons_zero, List.set_cons_succ, i64_w, i32_w]
        rfl
       refine one_ (i := 7) (N := some 46) #[true, true, true, true, true, true, true, true, false, false, false] rfl rfl (one_of HT_.out (by kernel_rfl)) (by decide) (fun K hK => ?_)
       refine value_ (w1 := ?_) (v := ?_) (by rfl) rfl ?_ ?_
       rotate_left 2
       ·go_simp
        constructor
        ·rfl
        ·rfl
       refine hK.out _ _ ⟨(blk_cell (blk_alloc BK244.out _) 0).trans rfl, (blk_cell (blk_alloc BK244.out _) 1).trans rfl, (World.cell?_alloc_lt _ _ _ (World.block_lt_of_cell? _ _ (hHeld.2.2))).trans (hHeld.2.2)⟩ (fun hHeld => ?_)
       clear hK K
       refine norm_ (a' := ?_) ?_ ?_
       rotate_left
       ·show Act.put _ (some 46) _ = _
        simp only [Act.put, List.setIfInBounds_toArray, List.set_cons_zero, List.set_cons_succ, i64_w, i32_w]
        rfl
       refine last_ (i := 8) (N := some 47) #[true, true, true, true, true, true, true, true, true, false, false] rfl rfl (one_of HT_.out (by kernel_rfl)) (by decide) (fun K hK => ?_)
       refine Kd.R_append_step Kd.string w.heap.size (by rfl) (.tmp 40) (.tmp 46) 22 9 (.string ⟨#[]⟩) 16 rfl Tryz.underlying22 info9 rfl (by decide) (by omega) (.slice (some ad269) t240.length co65) t240 (rdOf ByteArray.empty t240 t245) [.string (rdOf ByteArray.empty t240 t245)] (fun _ => True) (fun _ => False) rfl rfl ?aP (fun _ hk => hk.elim) ?aF ?aO (Below.refl _ _) ?aS ?aL ?_
       (case aP => exact rfl)
       (case aF => exact (fun _ _ => trivial))
       (case aO => exact (by (with_reducible repeat (first | apply r_a | apply r_n | apply r_d)); exact HO242.out))
       (case aS => exact (keep_size (w := w) (g := g) (row := none) (by repeat (first | (with_reducible first | exact HK.out | apply KeepBut.set_ | apply keep_drewN | apply keep_drew | apply keep_alloc | refine keep_far ?_ GW238.out _ | refine keep_far ?_ GW244.out _) | exact HK.out))))
       (case aL => have := LMc58.out; omega)
       intro v271 w69 ho hb hg hat
       rw [← Ny270.out] at ho
       have n0_ := mk0 (IsS28.grown (by repeat (first | (with_reducible first | exact HI0.out | apply IsS28.alloc | apply IsS28.drewN | apply IsS28.drew | apply IsS28.set_1 | refine IsS28.far ?_ NB0_238.out _ | refine IsS28.far ?_ NB0_244.out _) | exact HI0.out)) hg (IsS28.own_ne HI0.out HO242.out (by decide)))
       have n1_ := mk0 (blk_grown (g := gb238) (o := .cells #[.string (⟨#[]⟩ : ByteArray), .slice none 0 0] 24 (0, 0)) (by (with_reducible repeat (first | refine blk_drewN ?_ _ | refine blk_drew ?_ | refine blk_alloc ?_ _)); exact BK238.out) hg (Kd.R_ne HO242.out BK238.out (by decide)))
       have n2_ := mk0 (blk_grown (g := gb244) (o := .cells #[.string t239, .slice (some ad269) t240.length co65] 24 (0, 0)) (by (with_reducible repeat (first | refine blk_drewN ?_ _ | refine blk_drew ?_ | refine blk_alloc ?_ _)); exact BK244.out) hg (Kd.R_ne HO242.out BK244.out (by decide)))
       have n3_ := mk0 (below_weaken (by repeat (with_reducible first | exact HB.out | apply b_a | apply b_n | apply b_d | refine below_set ?_ (IsS28.ge HI0.out) | refine below_set ?_ GE238.out | refine below_set ?_ GE244.out)) HL.out hb)
       have n4_ := mk0 (KeepBut.trans (by repeat (first | (with_reducible first | exact HK.out | apply KeepBut.set_ | apply keep_drewN | apply keep_drew | apply keep_alloc | refine keep_far ?_ GW238.out _ | refine keep_far ?_ GW244.out _) | exact HK.out)) (KeepBut.of_grown hg g) (Kd.R_base2 HO242.out))
       have n5_ := mk0 (ho)
       clear HI0
       clear BK238
       clear BK244
       clear HB
       clear HK
       clear HO242
       have HI0 := n0_
       have BK238 := n1_
       have BK244 := n2_
       have HB := n3_
       have HK := n4_
       have HO272 := n5_
       clear n0_ n1_ n2_ n3_ n4_ n5_
       clear ho hb hg hat
       obtain ⟨Ao70, co70, eo70⟩ := Kd.R_slice HO272.out
       (first | subst eo70 | (injection eo70 with f1_ f2_ f3_; have f4_ := f1_.symm; have f5_ := f3_.symm; clear f1_ f2_ f3_; subst f4_; subst f5_))
       refine hK.out _ _ ?_
       clear hK K
       refine norm_ (a' := ?_) ?_ ?_
       rotate_left
       ·show Act.put _ (some 47) _ = _
        simp only [Act.put, List.setIfInBounds_toArray, List.set_cons_zero, List.set_cons_succ, i64_w, i32_w]
        rfl
       refine pure_ (i := 9) (N := some 48) (v := ?_) (a' := ?_) #[true, true, true, true, true, true, true, true, true, true, false] rfl rfl (any_of HT_.out (by kernel_rfl)) (fun _ _ _ h => h) (Or.inl ⟨by rfl, ?_⟩) ?_ ?_
       rotate_left
       ·intro w'
        go_simp
        with_reducible rfl
       rotate_left
       ·simp only [Act.put, List.setIfInBounds_toArray, List.set_cons_zero, List.set_cons_succ, i64_w, i32_w]
        rfl
       refine last_ (i := 10) (N := none) #[true, true, true, true, true, true, true, true, true, true, true] rfl rfl (one_of HT_.out (by kernel_rfl)) (by decide) (fun K hK => ?_)
       have hs71 : w69.cell? ⟨gb244, 1, none⟩ = some (.slice (some ad269) t240.length co65) := (blk_cell BK244.out 1).trans rfl
       have hfs71 := blk_frozen BK244.out 1
       have hns71_0 := NB238_244.out
       have hms71_0 := NB244_238.out
       refine skip_ (w1 := ?_) (by rfl) rfl ?_ ?_
       rotate_left
       ·go_simp
        rfl
       refine hK.out _ _ ?_
       clear hK K
       refine done_ (done_of HT_.out (by kernel_rfl)) ?_
       have hcz72_0 : w69.cell? ⟨gb244, 0, none⟩ = some (.string t239) := (blk_cell BK244.out 0).trans rfl
       have hcz72_1 : w69.cell? ⟨gb244, 1, none⟩ = some (.slice (some ad269) t240.length co65) := (blk_cell BK244.out 1).trans rfl
       have hfz72_0 := blk_frozen BK244.out 0
       have hfz72_1 := blk_frozen BK244.out 1
       have hnb73 := NB238_0.out
       have hnc73 := NB0_238.out
       have hcz74_0 : w69.cell? ⟨gb238, 0, none⟩ = some (.string (⟨#[]⟩ : ByteArray)) := (blk_cell BK238.out 0).trans rfl
       have hcz74_1 : w69.cell? ⟨gb238, 1, none⟩ = some (.slice none 0 0) := (blk_cell BK238.out 1).trans rfl
       have hfz74_0 := blk_frozen BK238.out 0
       have hfz74_1 := blk_frozen BK238.out 1
       try go_wp2
       refine bodyPost_ret (results_cell_row rfl _ _ gb238 24 #[.string t239, .slice Ao70 y270.length co70] (0, 0) _ rfl (by (with_reducible repeat (first | refine blk_drewN ?_ _ | refine blk_drew ?_ | refine blk_alloc ?_ _)); refine blk_put (cs := #[.string t239, .slice none 0 0]) ?_ 1 _ rfl; (with_reducible repeat (first | refine blk_drewN ?_ _ | refine blk_drew ?_ | refine blk_alloc ?_ _)); refine blk_put (cs := #[.string (⟨#[]⟩ : ByteArray), .slice none 0 0]) ?_ 0 _ rfl; (with_reducible repeat (first | refine blk_drewN ?_ _ | refine blk_drew ?_ | refine blk_alloc ?_ _)); refine blk_far ?_ NB238_244.out _; (with_reducible repeat (first | refine blk_drewN ?_ _ | refine blk_drew ?_ | refine blk_alloc ?_ _)); exact BK238.out) Tryz.underlying24 rfl (by kernel_rfl)) rfl ?_
       exact ⟨_, by first | rfl | (simp [errW_none, errW_some] <;> rfl) | (simp [*, errW_none, errW_some] <;> rfl), by (with_reducible repeat (first | apply r_a | apply r_n | apply r_d)); exact Kd.R_mono (Kd.R_far (p := ⟨gb238, 1, none⟩) (Kd.R_far (p := ⟨gb238, 0, none⟩) (Kd.R_far (p := ⟨gb244, 1, none⟩) (Kd.R_types (Kd.R_types HO272.out BK244.out (by decide)) BK238.out (by decide)) (fun _ hk => hk.1.2) (.slice Ao70 y270.length co70)) (fun _ hk => hk.2) (.string t239)) (fun _ hk => hk.2) (.slice Ao70 y270.length co70)) (fun _ hk => trivial), by repeat (first | (with_reducible first | exact HI0.out | apply IsS28.alloc | apply IsS28.drewN | apply IsS28.drew | apply IsS28.set_1 | refine IsS28.far ?_ NB0_238.out _ | refine IsS28.far ?_ NB0_244.out _) | exact HI0.out), by repeat (first | (with_reducible first | exact HB.out | apply b_a | apply b_n | apply b_d | refine below_set ?_ (IsS28.ge HI0.out) | refine below_set ?_ GE238.out | refine below_set ?_ GE244.out) | exact HB.out), by repeat (first | (with_reducible first | exact HK.out | apply KeepBut.set_ | apply keep_drewN | apply keep_drew | apply keep_alloc | refine keep_far ?_ GW238.out _ | refine keep_far ?_ GW244.out _) | exact HK.out)⟩
      ·rw [if_neg c58] at H
       exact absurd H (by simp)
     ·rw [if_neg c57] at H
      exact absurd H (by simp)
    ·rw [if_neg c56] at H
     exact absurd H (by simp)
   ·rw [if_neg c55] at H
    have c55b0 : (t247 == 2) = false := beq_eq_false_iff_ne.mpr c55
    have c55b1 : (t247 != 2) = true := bne_iff_ne.mpr c55
    simp only [Option.some.injEq, Prod.mk.injEq] at H
    obtain ⟨rfl, rfl, rfl⟩ := H
    go_enter Tryz.func5, Tryz.ntmps5
    go_wp2_with (first | ((with_reducible refine gate_dst (N := 2) rfl ?_); refine box_event ?hg (N := 2) ?hd (cs := #[.string (⟨#[]⟩ : ByteArray), .slice none 0 0]) (t := 24) ?hr ?_; (case hd => rfl); (case hg => rfl); (case hr => first | (go_simp; done) | (go_simp; rfl)); intro gb238 hg w75 hbox hb; have n0_ := mk0 (IsS28.below (by repeat (first | (with_reducible first | exact HI0.out | apply IsS28.alloc | apply IsS28.drewN | apply IsS28.drew | apply IsS28.set_1) | exact HI0.out)) hb); have n1_ := mk0 (KeepBut.trans (by repeat (first | (with_reducible first | exact HK.out | apply KeepBut.set_ | apply keep_drewN | apply keep_drew | apply keep_alloc) | exact HK.out)) (KeepBut.of_below hb g none) (.inl rfl)); have n2_ := mk0 (below_step (by repeat (with_reducible first | exact HB.out | apply b_a | apply b_n | apply b_d | refine below_set ?_ (IsS28.ge HI0.out))) hb); have n3_ := mk0 (hbox); have n4_ := mk0 ((by rw [hg]; exact (keep_size (w := w) (g := g) (row := none) (by repeat (first | (with_reducible first | exact HK.out | apply KeepBut.set_ | apply keep_drewN | apply keep_drew | apply keep_alloc) | exact HK.out))) : w.heap.size ≤ gb238)); have n5_ := mk0 ((Nat.le_trans HW0.out (by rw [hg]; exact (keep_size (w := w) (g := g) (row := none) (by repeat (first | (with_reducible first | exact HK.out | apply KeepBut.set_ | apply keep_drewN | apply keep_drew | apply keep_alloc) | exact HK.out))) : w.heap.size ≤ gb238) : w0.heap.size ≤ gb238)); have n6_ := mk0 ((by rw [hg]; exact Nat.ne_of_lt (IsS28.lt (show IsS28 w0 _ g s0_0 s0_1 from by repeat (first | (with_reducible first | exact HI0.out | apply IsS28.alloc | apply IsS28.drewN | apply IsS28.drew | apply IsS28.set_1) | exact HI0.out))) : g ≠ gb238)); have n7_ := mk0 ((by rw [hg]; exact Nat.ne_of_gt (IsS28.lt (show IsS28 w0 _ g s0_0 s0_1 from by repeat (first | (with_reducible first | exact HI0.out | apply IsS28.alloc | apply IsS28.drewN | apply IsS28.drew | apply IsS28.set_1) | exact HI0.out))) : gb238 ≠ g)); clear HI0; clear HK; clear HB; have HI0 := n0_; have HK := n1_; have HB := n2_; have BK238 := n3_; have GW238 := n4_; have GE238 := n5_; have NB0_238 := n6_; have NB238_0 := n7_; clear n0_ n1_ n2_ n3_ n4_ n5_ n6_ n7_; clear hb hbox hg) | ((with_reducible refine gate_callee (f := 13) rfl ?_); refine goesL_ (some 6) rfl rfl Tryz.func13 (by kernel_rfl) rfl #[.pointer (some ⟨g, 0, none⟩)] rfl (by (try simp only [List.map_toArray, List.map_cons, List.map_nil]); first | done | rfl) ?_; (with_reducible refine (m_Tape_Tree.calls k g s0_0 s0_1 t239 t240 t243 w0 _ ?side1 ?side2 A2.out).mono ?_); (case side1 => repeat (first | (with_reducible first | exact HI0.out | apply IsS28.alloc | apply IsS28.drewN | apply IsS28.drew | apply IsS28.set_1 | refine IsS28.far ?_ NB0_238.out _) | exact HI0.out)); (case side2 => repeat (first | (with_reducible first | exact HB.out | apply b_a | apply b_n | apply b_d | refine below_set ?_ (IsS28.ge HI0.out) | refine below_set ?_ GE238.out) | exact HB.out)); rintro e w76 ⟨v241, rfl, ho0, hi, hb, hk⟩; refine ⟨_, rfl, ?_⟩; have n0_ := mk0 (KeepBut.blk hk (g' := gb238) (o := .cells #[.string (⟨#[]⟩ : ByteArray), .slice none 0 0] 24 (0, 0)) (by (with_reducible repeat (first | refine blk_drewN ?_ _ | refine blk_drew ?_ | refine blk_alloc ?_ _)); exact BK238.out) NB238_0.out (by simp)); have n1_ := mk0 (Kd.R_lower ho0 (keep_size (w := w) (g := g) (row := none) (by repeat (first | (with_reducible first | exact HK.out | apply KeepBut.set_ | apply keep_drewN | apply keep_drew | apply keep_alloc | refine keep_far ?_ GW238.out _) | exact HK.out)))); have n2_ := mk0 (KeepBut.trans (by repeat (first | (with_reducible first | exact HK.out | apply KeepBut.set_ | apply keep_drewN | apply keep_drew | apply keep_alloc | refine keep_far ?_ GW238.out _) | exact HK.out)) hk (.inl rfl)); have n3_ := mk0 (hb); have n4_ := mk0 (hi); clear BK238; clear HK; clear HB; clear HI0; have BK238 := n0_; have HO242 := n1_; have HK := n2_; have HB := n3_; have HI0 := n4_; clear n0_ n1_ n2_ n3_ n4_; (try clear hb); (try clear hb2); (try clear hk); (try clear hi); (try clear ho0)) | ((with_reducible refine gate_dst (N := 3) rfl ?_); refine box_event ?hg (N := 3) ?hd (cs := #[.string (⟨#[]⟩ : ByteArray), .slice none 0 0]) (t := 24) ?hr ?_; (case hd => rfl); (case hg => rfl); (case hr => first | (go_simp; done) | (go_simp; rfl)); intro gb244 hg w77 hbox hb; have n0_ := mk0 (Kd.R_below (by (with_reducible repeat (first | apply r_a | apply r_n | apply r_d)); exact HO242.out) hb); have n1_ := mk0 (IsS28.below (by repeat (first | (with_reducible first | exact HI0.out | apply IsS28.alloc | apply IsS28.drewN | apply IsS28.drew | apply IsS28.set_1 | refine IsS28.far ?_ NB0_238.out _) | exact HI0.out)) hb); have n2_ := mk0 (blk_below (g := gb238) (o := .cells #[.string (⟨#[]⟩ : ByteArray), .slice none 0 0] 24 (0, 0)) (by (with_reducible repeat (first | refine blk_drewN ?_ _ | refine blk_drew ?_ | refine blk_alloc ?_ _)); exact BK238.out) hb); have n3_ := mk0 (KeepBut.trans (by repeat (first | (with_reducible first | exact HK.out | apply KeepBut.set_ | apply keep_drewN | apply keep_drew | apply keep_alloc | refine keep_far ?_ GW238.out _) | exact HK.out)) (KeepBut.of_below hb g none) (.inl rfl)); have n4_ := mk0 (below_step (by repeat (with_reducible first | exact HB.out | apply b_a | apply b_n | apply b_d | refine below_set ?_ (IsS28.ge HI0.out) | refine below_set ?_ GE238.out)) hb); have n5_ := mk0 (hbox); have n6_ := mk0 ((by rw [hg]; exact (keep_size (w := w) (g := g) (row := none) (by repeat (first | (with_reducible first | exact HK.out | apply KeepBut.set_ | apply keep_drewN | apply keep_drew | apply keep_alloc | refine keep_far ?_ GW238.out _) | exact HK.out))) : w.heap.size ≤ gb244)); have n7_ := mk0 ((Nat.le_trans HW0.out (by rw [hg]; exact (keep_size (w := w) (g := g) (row := none) (by repeat (first | (with_reducible first | exact HK.out | apply KeepBut.set_ | apply keep_drewN | apply keep_drew | apply keep_alloc | refine keep_far ?_ GW238.out _) | exact HK.out))) : w.heap.size ≤ gb244) : w0.heap.size ≤ gb244)); have n8_ := mk0 ((by rw [hg]; exact Nat.ne_of_lt (blk_lt (g := gb238) (o := .cells #[.string (⟨#[]⟩ : ByteArray), .slice none 0 0] 24 (0, 0)) (by (with_reducible repeat (first | refine blk_drewN ?_ _ | refine blk_drew ?_ | refine blk_alloc ?_ _)); exact BK238.out)) : gb238 ≠ gb244)); have n9_ := mk0 ((by rw [hg]; exact Nat.ne_of_gt (blk_lt (g := gb238) (o := .cells #[.string (⟨#[]⟩ : ByteArray), .slice none 0 0] 24 (0, 0)) (by (with_reducible repeat (first | refine blk_drewN ?_ _ | refine blk_drew ?_ | refine blk_alloc ?_ _)); exact BK238.out)) : gb244 ≠ gb238)); have n10_ := mk0 ((by rw [hg]; exact Nat.ne_of_lt (IsS28.lt (show IsS28 w0 _ g s0_0 t243 from by repeat (first | (with_reducible first | exact HI0.out | apply IsS28.alloc | apply IsS28.drewN | apply IsS28.drew | apply IsS28.set_1 | refine IsS28.far ?_ NB0_238.out _) | exact HI0.out))) : g ≠ gb244)); have n11_ := mk0 ((by rw [hg]; exact Nat.ne_of_gt (IsS28.lt (show IsS28 w0 _ g s0_0 t243 from by repeat (first | (with_reducible first | exact HI0.out | apply IsS28.alloc | apply IsS28.drewN | apply IsS28.drew | apply IsS28.set_1 | refine IsS28.far ?_ NB0_238.out _) | exact HI0.out))) : gb244 ≠ g)); clear HO242; clear HI0; clear BK238; clear HK; clear HB; have HO242 := n0_; have HI0 := n1_; have BK238 := n2_; have HK := n3_; have HB := n4_; have BK244 := n5_; have GW244 := n6_; have GE244 := n7_; have NB238_244 := n8_; have NB244_238 := n9_; have NB0_244 := n10_; have NB244_0 := n11_; clear n0_ n1_ n2_ n3_ n4_ n5_ n6_ n7_ n8_ n9_ n10_ n11_; clear hb hbox hg; have hnb78 := NB244_238.out; have hnc78 := NB238_244.out; have hnb79 := NB244_0.out; have hnc79 := NB0_244.out; have hcz80_0 : w77.cell? ⟨gb244, 0, none⟩ = some (.string (⟨#[]⟩ : ByteArray)) := (blk_cell BK244.out 0).trans rfl; have hcz80_1 : w77.cell? ⟨gb244, 1, none⟩ = some (.slice none 0 0) := (blk_cell BK244.out 1).trans rfl; have hfz80_0 := blk_frozen BK244.out 0; have hfz80_1 := blk_frozen BK244.out 1; obtain ⟨Ao81, co81, eo81⟩ := Kd.R_slice HO242.out; subst eo81) | ((with_reducible refine gate_callee (f := 14) rfl ?_); refine goesL_ (some 11) rfl rfl Tryz.func14 (by kernel_rfl) rfl #[.pointer (some ⟨g, 0, none⟩), .int .i64 (t240.length : Int)] rfl (by (try simp only [List.map_toArray, List.map_cons, List.map_nil]); first | done | rfl) ?_; (with_reducible refine (m_Tape_Next.calls g s0_0 t243 (t240.length : Int) t245 t246 w0 _ ?side1 ?side2 A3.out).mono ?_); (case side1 => repeat (first | (with_reducible first | exact HI0.out | apply IsS28.alloc | apply IsS28.drewN | apply IsS28.drew | apply IsS28.set_1 | refine IsS28.far ?_ NB0_238.out _ | refine IsS28.far ?_ NB0_244.out _) | exact HI0.out)); (case side2 => repeat (first | (with_reducible first | exact HB.out | apply b_a | apply b_n | apply b_d | refine below_set ?_ (IsS28.ge HI0.out) | refine below_set ?_ GE238.out | refine below_set ?_ GE244.out) | exact HB.out)); rintro e w82 ⟨rfl, hi, hb, hk⟩; refine ⟨_, rfl, ?_⟩; have n0_ := mk0 (KeepBut.blk hk (g' := gb238) (o := .cells #[.string (⟨#[]⟩ : ByteArray), .slice none 0 0] 24 (0, 0)) (by (with_reducible repeat (first | refine blk_drewN ?_ _ | refine blk_drew ?_ | refine blk_alloc ?_ _)); refine blk_far ?_ NB238_244.out _; (with_reducible repeat (first | refine blk_drewN ?_ _ | refine blk_drew ?_ | refine blk_alloc ?_ _)); refine blk_far ?_ NB238_244.out _; (with_reducible repeat (first | refine blk_drewN ?_ _ | refine blk_drew ?_ | refine blk_alloc ?_ _)); exact BK238.out) NB238_0.out (by simp)); have n1_ := mk0 (Kd.R_mono (Kd.R_keep (IsS28.apart (show IsS28 w0 _ g s0_0 t243 from by repeat (first | (with_reducible first | exact HI0.out | apply IsS28.alloc | apply IsS28.drewN | apply IsS28.drew | apply IsS28.set_1 | refine IsS28.far ?_ NB0_238.out _ | refine IsS28.far ?_ NB0_244.out _) | exact HI0.out)) (by (with_reducible repeat (first | apply r_a | apply r_n | apply r_d)); exact (Kd.R_mono (Kd.R_far (p := ⟨gb244, 1, none⟩) (Kd.R_far (p := ⟨gb244, 0, none⟩) (Kd.R_types HO242.out BK244.out (by decide)) (fun _ hk => hk.2) (.string t239)) (fun _ hk => hk.2) (.slice Ao81 t240.length co81)) (fun _ h_ => h_.1))) (by decide)) hk (fun _ h => h.2)) (fun _ h => h.1)); have n2_ := mk0 (KeepBut.blk hk (g' := gb244) (o := .cells #[.string t239, .slice Ao81 t240.length co81] 24 (0, 0)) (by (with_reducible repeat (first | refine blk_drewN ?_ _ | refine blk_drew ?_ | refine blk_alloc ?_ _)); refine blk_put (cs := #[.string t239, .slice none 0 0]) ?_ 1 _ rfl; (with_reducible repeat (first | refine blk_drewN ?_ _ | refine blk_drew ?_ | refine blk_alloc ?_ _)); refine blk_put (cs := #[.string (⟨#[]⟩ : ByteArray), .slice none 0 0]) ?_ 0 _ rfl; (with_reducible repeat (first | refine blk_drewN ?_ _ | refine blk_drew ?_ | refine blk_alloc ?_ _)); exact BK244.out) NB244_0.out (by simp)); have n3_ := mk0 (KeepBut.trans (by repeat (first | (with_reducible first | exact HK.out | apply KeepBut.set_ | apply keep_drewN | apply keep_drew | apply keep_alloc | refine keep_far ?_ GW238.out _ | refine keep_far ?_ GW244.out _) | exact HK.out)) hk (.inl rfl)); have n4_ := mk0 (hb); have n5_ := mk0 (hi); clear BK238; clear HO242; clear BK244; clear HK; clear HB; clear HI0; have BK238 := n0_; have HO242 := n1_; have BK244 := n2_; have HK := n3_; have HB := n4_; have HI0 := n5_; clear n0_ n1_ n2_ n3_ n4_ n5_; (try clear hb); (try clear hb2); (try clear hk); (try clear hi)) | ((with_reducible refine gate_callee (f := 14) rfl ?_); refine goesL_ (some 13) rfl rfl Tryz.func14 (by kernel_rfl) rfl #[.pointer (some ⟨g, 0, none⟩), .int .i64 5] rfl (by (try simp only [List.map_toArray, List.map_cons, List.map_nil]); first | done | rfl) ?_; (with_reducible refine (m_Tape_Next.calls g s0_0 t246 5 t247 t248 w0 _ ?side1 ?side2 A4.out).mono ?_); (case side1 => repeat (first | (with_reducible first | exact HI0.out | apply IsS28.alloc | apply IsS28.drewN | apply IsS28.drew | apply IsS28.set_1 | refine IsS28.far ?_ NB0_238.out _ | refine IsS28.far ?_ NB0_244.out _) | exact HI0.out)); (case side2 => repeat (first | (with_reducible first | exact HB.out | apply b_a | apply b_n | apply b_d | refine below_set ?_ (IsS28.ge HI0.out) | refine below_set ?_ GE238.out | refine below_set ?_ GE244.out) | exact HB.out)); rintro e w83 ⟨rfl, hi, hb, hk⟩; refine ⟨_, rfl, ?_⟩; have n0_ := mk0 (KeepBut.blk hk (g' := gb238) (o := .cells #[.string (⟨#[]⟩ : ByteArray), .slice none 0 0] 24 (0, 0)) (by (with_reducible repeat (first | refine blk_drewN ?_ _ | refine blk_drew ?_ | refine blk_alloc ?_ _)); exact BK238.out) NB238_0.out (by simp)); have n1_ := mk0 (Kd.R_mono (Kd.R_keep (IsS28.apart (show IsS28 w0 _ g s0_0 t246 from by repeat (first | (with_reducible first | exact HI0.out | apply IsS28.alloc | apply IsS28.drewN | apply IsS28.drew | apply IsS28.set_1 | refine IsS28.far ?_ NB0_238.out _ | refine IsS28.far ?_ NB0_244.out _) | exact HI0.out)) (by (with_reducible repeat (first | apply r_a | apply r_n | apply r_d)); exact HO242.out) (by decide)) hk (fun _ h => h.2)) (fun _ h => h.1)); have n2_ := mk0 (KeepBut.blk hk (g' := gb244) (o := .cells #[.string t239, .slice Ao81 t240.length co81] 24 (0, 0)) (by (with_reducible repeat (first | refine blk_drewN ?_ _ | refine blk_drew ?_ | refine blk_alloc ?_ _)); exact BK244.out) NB244_0.out (by simp)); have n3_ := mk0 (KeepBut.trans (by repeat (first | (with_reducible first | exact HK.out | apply KeepBut.set_ | apply keep_drewN | apply keep_drew | apply keep_alloc | refine keep_far ?_ GW238.out _ | refine keep_far ?_ GW244.out _) | exact HK.out)) hk (.inl rfl)); have n4_ := mk0 (hb); have n5_ := mk0 (hi); clear BK238; clear HO242; clear BK244; clear HK; clear HB; clear HI0; have BK238 := n0_; have HO242 := n1_; have BK244 := n2_; have HK := n3_; have HB := n4_; have HI0 := n5_; clear n0_ n1_ n2_ n3_ n4_ n5_; (try clear hb); (try clear hb2); (try clear hk); (try clear hi); have hcz84_0 : w83.cell? ⟨gb244, 0, none⟩ = some (.string t239) := (blk_cell BK244.out 0).trans rfl; have hcz84_1 : w83.cell? ⟨gb244, 1, none⟩ = some (.slice Ao81 t240.length co81) := (blk_cell BK244.out 1).trans rfl; have hfz84_0 := blk_frozen BK244.out 0; have hfz84_1 := blk_frozen BK244.out 1; have hnb85 := NB238_0.out; have hnc85 := NB0_238.out; have hcz86_0 : w83.cell? ⟨gb238, 0, none⟩ = some (.string (⟨#[]⟩ : ByteArray)) := (blk_cell BK238.out 0).trans rfl; have hcz86_1 : w83.cell? ⟨gb238, 1, none⟩ = some (.slice none 0 0) := (blk_cell BK238.out 1).trans rfl; have hfz86_0 := blk_frozen BK238.out 0; have hfz86_1 := blk_frozen BK238.out 1))
    refine bodyPost_ret (results_cell_row rfl _ _ gb238 24 #[.string t239, .slice Ao81 t240.length co81] (0, 0) _ rfl (by (with_reducible repeat (first | refine blk_drewN ?_ _ | refine blk_drew ?_ | refine blk_alloc ?_ _)); refine blk_put (cs := #[.string t239, .slice none 0 0]) ?_ 1 _ rfl; (with_reducible repeat (first | refine blk_drewN ?_ _ | refine blk_drew ?_ | refine blk_alloc ?_ _)); refine blk_put (cs := #[.string (⟨#[]⟩ : ByteArray), .slice none 0 0]) ?_ 0 _ rfl; (with_reducible repeat (first | refine blk_drewN ?_ _ | refine blk_drew ?_ | refine blk_alloc ?_ _)); exact BK238.out) Tryz.underlying24 rfl (by kernel_rfl)) rfl ?_
    exact ⟨_, by first | rfl | (simp [errW_none, errW_some] <;> rfl) | (simp [*, errW_none, errW_some] <;> rfl), by (with_reducible repeat (first | apply r_a | apply r_n | apply r_d)); exact Kd.R_mono (Kd.R_far (p := ⟨gb238, 1, none⟩) (Kd.R_far (p := ⟨gb238, 0, none⟩) (Kd.R_types HO242.out BK238.out (by decide)) (fun _ hk => hk.2) (.string t239)) (fun _ hk => hk.2) (.slice Ao81 t240.length co81)) (fun _ hk => trivial), by repeat (first | (with_reducible first | exact HI0.out | apply IsS28.alloc | apply IsS28.drewN | apply IsS28.drew | apply IsS28.set_1 | refine IsS28.far ?_ NB0_238.out _ | refine IsS28.far ?_ NB0_244.out _) | exact HI0.out), by repeat (first | (with_reducible first | exact HB.out | apply b_a | apply b_n | apply b_d | refine below_set ?_ (IsS28.ge HI0.out) | refine below_set ?_ GE238.out | refine below_set ?_ GE244.out) | exact HB.out), by repeat (first | (with_reducible first | exact HK.out | apply KeepBut.set_ | apply keep_drewN | apply keep_drew | apply keep_alloc | refine keep_far ?_ GW238.out _ | refine keep_far ?_ GW244.out _) | exact HK.out)⟩

end Go.Proofs.YtpnoliognpmkmaaGreatDoor.P
