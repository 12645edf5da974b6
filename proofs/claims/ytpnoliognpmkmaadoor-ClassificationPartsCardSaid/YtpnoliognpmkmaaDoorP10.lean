/- Lean functions with the same answers as the program's Go functions, and for each the proof that the call comes to these answers; written by a program of mine out of the translation, the functions marked 'by hand' by me. -/
import Derived.Test.YtpnoliognpmkmaaDoorP0
import Derived.Test.YtpnoliognpmkmaaDoorP1
import Derived.Test.YtpnoliognpmkmaaDoorP2
import Derived.Test.YtpnoliognpmkmaaDoorP3
import Derived.Test.YtpnoliognpmkmaaDoorP4
import Derived.Test.YtpnoliognpmkmaaDoorP7
import Derived.Test.YtpnoliognpmkmaaDoorP9
namespace Go.Proofs.YtpnoliognpmkmaaDoor.P
open Go.RowKit Go.Proofs.YtpnoliognpmkmaaDoorW.PrintWords Go.Proofs.YtpnoliognpmkmaaDoorW.PrintLast Go.Proofs.YtpnoliognpmkmaaDoorW.PrintMore
attribute [local go_sem] max2_int min2_int max_two min_two max_three min_three max_four min_four   -- for this text's walks alone
set_option linter.unusedVariables false
set_option linter.unusedSimpArgs false

/-! ### priceofficelaw06_ClassificationParts: function 7 -/
mutual
def priceofficelaw06_ClassificationParts.l0 : Nat → List Int → Int → Int → List Int → Int → Option (Bool)
  | 0, _, _, _, _, _ => none
  | k + 1, x4, x17, x18, x265000, x265001 => if x18 < x17 then ((priceofficemake_Tape_Next.f x265000 x265001 99).bind fun bt267 => (if x4.length < 17592186044416 then (priceofficelaw06_ClassificationParts.l0 k (x4 ++ [wrap64 (1 + bt267.1)]) x17 (wrap64 (x18 + 1)) x265000 bt267.2) else (none))) else ((classification_Format.f k x4).bind fun bt272 => ((classification_Parse.f k bt272.1).bind fun bt274 => ((classification_Path.f k bt272.1).bind fun t278 => (if bt272.2 = 0 then (if bt274.2 = 0 then ((priceofficeref06_SameInts.f k bt274.1 x4).bind fun t281 => (if t281 = true then ((classification_Level.f k bt272.1).bind fun t282 => (if t282 = (x4.length : Int) then (if (t278.length : Int) = (x4.length : Int) then (if 0 ≤ (wrap64 ((t278.length : Int) - 1)) then (if (wrap64 ((t278.length : Int) - 1)) < (t278.length : Int) then (priceofficelaw06_ClassificationParts.j1 k x4 bt272.1 t278 ((rdOf ByteArray.empty t278 (wrap64 ((t278.length : Int) - 1))).toList != bt272.1.toList)) else (none)) else (none)) else (priceofficelaw06_ClassificationParts.j1 k x4 bt272.1 t278 true)) else (priceofficelaw06_ClassificationParts.j1 k x4 bt272.1 t278 true))) else (priceofficelaw06_ClassificationParts.j1 k x4 bt272.1 t278 true))) else (priceofficelaw06_ClassificationParts.j1 k x4 bt272.1 t278 true)) else (priceofficelaw06_ClassificationParts.j1 k x4 bt272.1 t278 true)))))
def priceofficelaw06_ClassificationParts.j1 : Nat → List Int → ByteArray → List ByteArray → Bool → Option (Bool)
  | 0, _, _, _, _ => none
  | k + 1, x4, x5, x9, x74 => if x74 = true then (some false) else ((classification_Parent.f k x5).bind fun bt284 => (if (x4.length : Int) = 1 then (if bt284.2 = true then (if bt284.1.toList = ([] : List UInt8) then ((priceofficelaw06_awake.f k).bind fun t286 => (some t286)) else (some false)) else (some false)) else (if bt284.2 = true then (if 0 ≤ (wrap64 ((x9.length : Int) - 2)) then (if (wrap64 ((x9.length : Int) - 2)) < (x9.length : Int) then (if bt284.1.toList = (rdOf ByteArray.empty x9 (wrap64 ((x9.length : Int) - 2))).toList then ((priceofficelaw06_awake.f k).bind fun t288 => (some t288)) else (some false)) else (none)) else (none)) else (some false))))
end
def priceofficelaw06_ClassificationParts.f (k : Nat) (l0 : List Int) : Option (Bool) := (priceofficemake_Tape_Next.f l0 0 5).bind fun bt265 => (priceofficelaw06_ClassificationParts.l0 k ([] : List Int) (wrap64 (1 + bt265.1)) 0 l0 bt265.2)
theorem priceofficelaw06_ClassificationParts.mono_l : ∀ k, (∀ y0 y1 y2 y3 y4, LeO (priceofficelaw06_ClassificationParts.l0 k y0 y1 y2 y3 y4) (priceofficelaw06_ClassificationParts.l0 (k + 1) y0 y1 y2 y3 y4)) ∧ (∀ y0 y1 y2 y3, LeO (priceofficelaw06_ClassificationParts.j1 k y0 y1 y2 y3) (priceofficelaw06_ClassificationParts.j1 (k + 1) y0 y1 y2 y3))
  | 0 => ⟨fun _ _ _ _ _ r h => by simp [priceofficelaw06_ClassificationParts.l0] at h, fun _ _ _ _ r h => by simp [priceofficelaw06_ClassificationParts.j1] at h⟩
  | k + 1 => by
    obtain ⟨ih0, ih1⟩ := priceofficelaw06_ClassificationParts.mono_l k
    refine ⟨?_, ?_⟩
    · intro y0 y1 y2 y3 y4
      unfold priceofficelaw06_ClassificationParts.l0
      repeat' first
      | (with_reducible exact ih0 _ _ _ _ _)
      | (with_reducible exact ih1 _ _ _ _)
      | (with_reducible exact classification_Format.mono _ _)
      | (with_reducible exact classification_Level.mono _ _)
      | (with_reducible exact classification_Parent.mono _ _)
      | (with_reducible exact classification_Parse.mono _ _)
      | (with_reducible exact classification_Path.mono _ _)
      | (with_reducible exact priceofficelaw06_awake.mono _)
      | (with_reducible exact priceofficeref06_SameInts.mono _ _ _)
      | (with_reducible exact LeO.refl _)
      | (with_reducible exact LeO.none _)
      | (with_reducible refine LeO.ite ?_ ?_)
      | (with_reducible refine LeO.bind ?_ (fun _ => ?_))
      | exact ih0 _ _ _ _ _
      | exact ih1 _ _ _ _
      | exact classification_Format.mono _ _
      | exact classification_Level.mono _ _
      | exact classification_Parent.mono _ _
      | exact classification_Parse.mono _ _
      | exact classification_Path.mono _ _
      | exact priceofficelaw06_awake.mono _
      | exact priceofficeref06_SameInts.mono _ _ _
      | exact LeO.none _
      | refine LeO.ite ?_ ?_
      | refine LeO.bind ?_ (fun _ => ?_)
    · intro y0 y1 y2 y3
      unfold priceofficelaw06_ClassificationParts.j1
      repeat' first
      | (with_reducible exact ih0 _ _ _ _ _)
      | (with_reducible exact ih1 _ _ _ _)
      | (with_reducible exact classification_Format.mono _ _)
      | (with_reducible exact classification_Level.mono _ _)
      | (with_reducible exact classification_Parent.mono _ _)
      | (with_reducible exact classification_Parse.mono _ _)
      | (with_reducible exact classification_Path.mono _ _)
      | (with_reducible exact priceofficelaw06_awake.mono _)
      | (with_reducible exact priceofficeref06_SameInts.mono _ _ _)
      | (with_reducible exact LeO.refl _)
      | (with_reducible exact LeO.none _)
      | (with_reducible refine LeO.ite ?_ ?_)
      | (with_reducible refine LeO.bind ?_ (fun _ => ?_))
      | exact ih0 _ _ _ _ _
      | exact ih1 _ _ _ _
      | exact classification_Format.mono _ _
      | exact classification_Level.mono _ _
      | exact classification_Parent.mono _ _
      | exact classification_Parse.mono _ _
      | exact classification_Path.mono _ _
      | exact priceofficelaw06_awake.mono _
      | exact priceofficeref06_SameInts.mono _ _ _
      | exact LeO.none _
      | refine LeO.ite ?_ ?_
      | refine LeO.bind ?_ (fun _ => ?_)
theorem priceofficelaw06_ClassificationParts.mono : ∀ a0 k, LeO (priceofficelaw06_ClassificationParts.f k a0) (priceofficelaw06_ClassificationParts.f (k + 1) a0) := by
  intro a0 k
  obtain ⟨ih0, ih1⟩ := priceofficelaw06_ClassificationParts.mono_l k
  unfold priceofficelaw06_ClassificationParts.f
  repeat' first
      | (with_reducible exact ih0 _ _ _ _ _)
      | (with_reducible exact ih1 _ _ _ _)
      | (with_reducible exact classification_Format.mono _ _)
      | (with_reducible exact classification_Level.mono _ _)
      | (with_reducible exact classification_Parent.mono _ _)
      | (with_reducible exact classification_Parse.mono _ _)
      | (with_reducible exact classification_Path.mono _ _)
      | (with_reducible exact priceofficelaw06_awake.mono _)
      | (with_reducible exact priceofficeref06_SameInts.mono _ _ _)
      | (with_reducible exact LeO.refl _)
      | (with_reducible exact LeO.none _)
      | (with_reducible refine LeO.ite ?_ ?_)
      | (with_reducible refine LeO.bind ?_ (fun _ => ?_))
      | exact ih0 _ _ _ _ _
      | exact ih1 _ _ _ _
      | exact classification_Format.mono _ _
      | exact classification_Level.mono _ _
      | exact classification_Parent.mono _ _
      | exact classification_Parse.mono _ _
      | exact classification_Path.mono _ _
      | exact priceofficelaw06_awake.mono _
      | exact priceofficeref06_SameInts.mono _ _ _
      | exact LeO.none _
      | refine LeO.ite ?_ ?_
      | refine LeO.bind ?_ (fun _ => ?_)
set_option maxHeartbeats 8000000 in
set_option maxRecDepth 100000 in
theorem priceofficelaw06_ClassificationParts.calls (k : Nat) (A0 : Option Addr) (c0 : Nat) (l0 : List Int) (r : Bool) (w : World) (hr0 : Kd.C (Kd.int .i64) w A0 l0.length l0) (hc0 : l0.length ≤ c0) (hG : GL w) (h : priceofficelaw06_ClassificationParts.f k l0 = some r) :
    Calls Tryd.prog 7 #[.slice A0 l0.length c0] w fun e w' => e = .returned (.bool r) ∧ Below w.heap.size w w' := by
  have HG := Aside0.mk hG
  clear hG
  have hu25 := Tryd.underlying25
  have HR0 := Aside0.mk hr0
  have HC0 := Aside0.mk hc0
  clear hr0 hc0
  have HB := Aside0.mk (Below.refl w.heap.size w)
  have H : ((priceofficemake_Tape_Next.f l0 0 5).bind fun bt265 => (priceofficelaw06_ClassificationParts.l0 k ([] : List Int) (wrap64 (1 + bt265.1)) 0 l0 bt265.2)) = some r := h
  clear h
  replace H := Option.bind_eq_some_iff.mp H
  obtain ⟨⟨t265, t266⟩, A20, H⟩ := H
  replace H : (priceofficelaw06_ClassificationParts.l0 k ([] : List Int) (wrap64 (1 + t265)) 0 l0 t266) = some r := H
  have A2 := Aside0.mk A20
  clear A20
  have H' := Aside0.mk H
  clear H
  go_enter Tryd.func7, Tryd.ntmps7
  go_wp2_with (first | ((with_reducible refine gate_dst (N := 14) rfl ?_); (try (refine gate_guard (by rfl) ?_; dsimp only)); refine box_event ?hg (N := 14) ?hd (cs := #[.slice A0 l0.length c0, .int .i64 0]) (t := 25) ?hr ?_; (case hd => rfl); (case hg => rfl); (case hr => first | (go_simp; done) | (go_simp; rfl)); intro gb264 hg w3 hbox hb; have n0_ := Aside0.mk (below_step (by repeat (first | (with_reducible first | exact HB.out | apply below_alloc | apply pw_below_drewN | apply below_drew1) | exact HB.out)) hb); have n1_ := Aside0.mk (hbox); have n2_ := Aside0.mk ((by rw [hg]; exact (below_size (by repeat (first | (with_reducible first | exact HB.out | apply below_alloc | apply pw_below_drewN | apply below_drew1) | exact HB.out))) : w.heap.size ≤ gb264)); have n3_ := Aside0.mk ((by rw [hg]; exact (below_size (by repeat (first | (with_reducible first | exact HB.out | apply below_alloc | apply pw_below_drewN | apply below_drew1) | exact HB.out))) : w.heap.size ≤ gb264)); have n4_ := Aside0.mk ((show IsS25 w w3 gb264 l0 0 from ⟨_, _, hbox, (by rw [hg]; exact (below_size (by repeat (first | (with_reducible first | exact HB.out | apply below_alloc | apply pw_below_drewN | apply below_drew1) | exact HB.out))) : w.heap.size ≤ gb264), HR0.out⟩)); clear HB; have HB := n0_; have BK264 := n1_; have GW264 := n2_; have GE264 := n3_; have HI264 := n4_; clear n0_ n1_ n2_ n3_ n4_; clear hb hbox hg) | ((with_reducible refine gate_callee (f := 18) rfl ?_); refine goesL_ (some 16) rfl rfl Tryd.func18 (by kernel_rfl) rfl #[.pointer (some ⟨gb264, 0, none⟩), .int .i64 5] rfl (by (try simp only [List.map_toArray, List.map_cons, List.map_nil]); first | done | rfl | (simp only [List.length_drop, List.length_take]; rfl)) ?_; (with_reducible refine (priceofficemake_Tape_Next.calls gb264 l0 0 5 t265 t266 w _ ?side1 ?side2 A2.out).mono ?_); (case side1 => repeat (first | (with_reducible first | exact HI264.out | apply IsS25.alloc | apply IsS25.drewN | apply IsS25.drew | apply IsS25.set_1) | exact HI264.out)); (case side2 => repeat (first | (with_reducible first | exact HB.out | apply below_alloc | apply pw_below_drewN | apply below_drew1 | refine below_set ?_ (IsS25.ge HI264.out)) | exact HB.out)); rintro e w4 ⟨rfl, hi, hb, hk⟩; refine ⟨_, rfl, ?_⟩; have n0_ := Aside0.mk (hb); have n1_ := Aside0.mk (hi); clear HB; clear HI264; have HB := n0_; have HI264 := n1_; clear n0_ n1_; (try clear hb); (try clear hb2); (try clear hk); (try clear hi)))
  go_loopg [4, 18] k (fun kq v4 v18 w' => ∃ (x4_1 : List Int) (x18_1 : Int) (x265001_1 : Int), v18 = .int .i64 x18_1 ∧ Aside0 (priceofficelaw06_ClassificationParts.l0 kq x4_1 (wrap64 (1 + t265)) x18_1 l0 x265001_1 = some r) ∧ Aside0 (kq ≤ k) ∧ Aside0 (Kd.R (Kd.int .i64) 3 w' w.heap.size (fun _ => True) v4 x4_1) ∧ Aside0 (IsS25 w w' gb264 l0 x265001_1) ∧ Aside0 (Below w.heap.size w w'))
  case atStart => exact ⟨(([] : List Int)), (0), (t266), (by first | rfl | (simp; done) | (simp [*]; done)), H', ⟨Nat.le_refl _⟩, ⟨by first | exact Kd.R_nil _ _ _ _ _ | exact Kd.N_nil _ _ _ _ _ | exact Kd.V_nil _ _ _ _ _ | exact Kd.Q_nil _ _ _ _ _ | exact Kd.S_nil _ _ _ _ _⟩, ⟨by repeat (first | (with_reducible first | exact HI264.out | apply IsS25.alloc | apply IsS25.drewN | apply IsS25.drew | apply IsS25.set_1) | exact HI264.out)⟩, ⟨by repeat (first | (with_reducible first | exact HB.out | apply below_alloc | apply pw_below_drewN | apply below_drew1 | refine below_set ?_ (IsS25.ge HI264.out)) | exact HB.out)⟩⟩
  case round =>
    clear H'
    try clear c1
    try clear p2
    obtain ⟨x4_1, x18_1, x265001_1, rfl, HA, HK1, HO_4, HI264, HB⟩ := hrel
    cases gk with
    | zero => exact absurd HA.out (by simp [priceofficelaw06_ClassificationParts.l0])
    | succ k1 =>
      have H := HA.out
      clear HA
      simp only [priceofficelaw06_ClassificationParts.l0] at H
      by_cases c5 : x18_1 < (wrap64 (1 + t265))
      · rw [if_pos c5] at H
        have c5b0 : decide (x18_1 < (wrap64 (1 + t265))) = true := decide_eq_true c5
        clear c5
        replace H := Option.bind_eq_some_iff.mp H
        obtain ⟨⟨t267, t268⟩, A60, H⟩ := H
        replace H : (if x4_1.length < 17592186044416 then (priceofficelaw06_ClassificationParts.l0 k1 (x4_1 ++ [wrap64 (1 + t267)]) (wrap64 (1 + t265)) (wrap64 (x18_1 + 1)) l0 t268) else (none)) = some r := H
        have A6 := Aside0.mk A60
        clear A60
        by_cases c7 : x4_1.length < 17592186044416
        · rw [if_pos c7] at H
          have LMc7 := Aside0.mk c7
          clear c7
          obtain ⟨y269, hy269⟩ : ∃ y_ : List Int, y_ = (x4_1 ++ [wrap64 (1 + t267)]) := ⟨_, rfl⟩
          replace H : (priceofficelaw06_ClassificationParts.l0 k1 y269 (wrap64 (1 + t265)) (wrap64 (x18_1 + 1)) l0 t268) = some r := by first | (rw [hy269]; with_reducible exact H) | (have H2_ := (Option.bind_some _ _).symm.trans H; rw [hy269]; with_reducible exact H2_) | (have H2_ := (Option.bind_some _ _).symm.trans H; with_reducible exact H2_) | with_reducible exact H | (rw [hy269]; exact H) | exact H
          have Ny269 := Aside0.mk hy269
          clear hy269
          have H' := Aside0.mk H
          clear H
          go_wp2_with (first | ((with_reducible refine gate_callee (f := 18) rfl ?_); refine goesL_ (some 22) rfl rfl Tryd.func18 (by kernel_rfl) rfl #[.pointer (some ⟨gb264, 0, none⟩), .int .i64 99] rfl (by (try simp only [List.map_toArray, List.map_cons, List.map_nil]); first | done | rfl | (simp only [List.length_drop, List.length_take]; rfl)) ?_; (with_reducible refine (priceofficemake_Tape_Next.calls gb264 l0 x265001_1 99 t267 t268 w _ ?side1 ?side2 A6.out).mono ?_); (case side1 => repeat (first | (with_reducible first | exact HI264.out | apply IsS25.alloc | apply IsS25.drewN | apply IsS25.drew | apply IsS25.set_1) | exact HI264.out)); (case side2 => repeat (first | (with_reducible first | exact HB.out | apply below_alloc | apply pw_below_drewN | apply below_drew1 | refine below_set ?_ (IsS25.ge HI264.out)) | exact HB.out)); rintro e w8 ⟨rfl, hi, hb, hk⟩; refine ⟨_, rfl, ?_⟩; have n0_ := Aside0.mk (Kd.R_mono (Kd.R_keep (IsS25.apart (show IsS25 w _ gb264 l0 x265001_1 from by repeat (first | (with_reducible first | exact HI264.out | apply IsS25.alloc | apply IsS25.drewN | apply IsS25.drew | apply IsS25.set_1) | exact HI264.out)) (by (with_reducible repeat (first | apply Kd.R_alloc | apply Kd.R_drewN | apply Kd.R_drew)); exact HO_4.out) (by decide)) hk (fun _ h => h.2)) (fun _ h => h.1)); have n1_ := Aside0.mk (hb); have n2_ := Aside0.mk (hi); clear HO_4; clear HB; clear HI264; have HO_4 := n0_; have HB := n1_; have HI264 := n2_; clear n0_ n1_ n2_; (try clear hb); (try clear hb2); (try clear hk); (try clear hi)) | ((with_reducible refine gate_builtin (b := .append) (xs := #[.tmp 20, .tmp 24]) rfl ?_); (try (refine gate_guard (by rfl) ?_; dsimp only)); at_builtin; refine Kd.R_append (Kd.int .i64) (w0 := w) w.heap.size rfl (.tmp 20) (.tmp 24) 22 3 (.int .i64 0) 8 rfl Tryd.underlying22 info3 rfl (by decide) (by omega) u4 x4_1 (wrap64 (1 + t267)) [.int .i64 (wrap64 (1 + t267))] (fun _ => True) (fun _ => False) rfl rfl ?aP (fun _ hk => hk.elim) ?aF ?aO ?aB ?aS ?aL ?_; (case aP => exact rfl); (case aB => exact (by repeat (first | (with_reducible first | exact HB.out | apply below_alloc | apply pw_below_drewN | apply below_drew1 | refine below_set ?_ (IsS25.ge HI264.out)) | exact HB.out))); (case aF => exact (fun _ _ => trivial)); (case aO => exact (by (with_reducible repeat (first | apply Kd.R_alloc | apply Kd.R_drewN | apply Kd.R_drew)); exact HO_4.out)); (case aS => exact (below_size (by repeat (first | (with_reducible first | exact HB.out | apply below_alloc | apply pw_below_drewN | apply below_drew1 | refine below_set ?_ (IsS25.ge HI264.out)) | exact HB.out)))); (case aL => have := LMc7.out; omega); intro v270 w9 ho hb hg hat; rw [← Ny269.out] at ho; have n0_ := Aside0.mk (IsS25.grown (by repeat (first | (with_reducible first | exact HI264.out | apply IsS25.alloc | apply IsS25.drewN | apply IsS25.drew | apply IsS25.set_1) | exact HI264.out)) hg (IsS25.own_ne HI264.out HO_4.out (by decide))); have n1_ := Aside0.mk (hb); have n2_ := Aside0.mk (ho); clear HI264; clear HB; clear HO_4; have HI264 := n0_; have HB := n1_; have HO271 := n2_; clear n0_ n1_ n2_; clear ho hb hg hat))
          go_roundg k1
          case measure => have := HK1.out; omega
          case rel => exact ⟨(y269), (wrap64 (x18_1 + 1)), (t268), (by first | rfl | (simp; done) | (simp [*]; done)), H', ⟨by have := HK1.out; omega⟩, ⟨by (with_reducible repeat (first | apply Kd.R_alloc | apply Kd.R_drewN | apply Kd.R_drew)); exact HO271.out⟩, ⟨by repeat (first | (with_reducible first | exact HI264.out | apply IsS25.alloc | apply IsS25.drewN | apply IsS25.drew | apply IsS25.set_1) | exact HI264.out)⟩, ⟨by repeat (first | (with_reducible first | exact HB.out | apply below_alloc | apply pw_below_drewN | apply below_drew1 | refine below_set ?_ (IsS25.ge HI264.out)) | exact HB.out)⟩⟩
        · rw [if_neg c7] at H
          exact absurd H (by simp)
      · rw [if_neg c5] at H
        have c5b0 : decide (x18_1 < (wrap64 (1 + t265))) = false := decide_eq_false c5
        clear c5
        replace H := Option.bind_eq_some_iff.mp H
        obtain ⟨⟨t272, t273⟩, A100, H⟩ := H
        replace H : ((classification_Parse.f k1 t272).bind fun bt274 => ((classification_Path.f k1 t272).bind fun t278 => (if t273 = 0 then (if bt274.2 = 0 then ((priceofficeref06_SameInts.f k1 bt274.1 x4_1).bind fun t281 => (if t281 = true then ((classification_Level.f k1 t272).bind fun t282 => (if t282 = (x4_1.length : Int) then (if (t278.length : Int) = (x4_1.length : Int) then (if 0 ≤ (wrap64 ((t278.length : Int) - 1)) then (if (wrap64 ((t278.length : Int) - 1)) < (t278.length : Int) then (priceofficelaw06_ClassificationParts.j1 k1 x4_1 t272 t278 ((rdOf ByteArray.empty t278 (wrap64 ((t278.length : Int) - 1))).toList != t272.toList)) else (none)) else (none)) else (priceofficelaw06_ClassificationParts.j1 k1 x4_1 t272 t278 true)) else (priceofficelaw06_ClassificationParts.j1 k1 x4_1 t272 t278 true))) else (priceofficelaw06_ClassificationParts.j1 k1 x4_1 t272 t278 true))) else (priceofficelaw06_ClassificationParts.j1 k1 x4_1 t272 t278 true)) else (priceofficelaw06_ClassificationParts.j1 k1 x4_1 t272 t278 true)))) = some r := H
        have A10 := Aside0.mk A100
        clear A100
        replace H := Option.bind_eq_some_iff.mp H
        obtain ⟨⟨t274, t275⟩, A110, H⟩ := H
        replace H : ((classification_Path.f k1 t272).bind fun t278 => (if t273 = 0 then (if t275 = 0 then ((priceofficeref06_SameInts.f k1 t274 x4_1).bind fun t281 => (if t281 = true then ((classification_Level.f k1 t272).bind fun t282 => (if t282 = (x4_1.length : Int) then (if (t278.length : Int) = (x4_1.length : Int) then (if 0 ≤ (wrap64 ((t278.length : Int) - 1)) then (if (wrap64 ((t278.length : Int) - 1)) < (t278.length : Int) then (priceofficelaw06_ClassificationParts.j1 k1 x4_1 t272 t278 ((rdOf ByteArray.empty t278 (wrap64 ((t278.length : Int) - 1))).toList != t272.toList)) else (none)) else (none)) else (priceofficelaw06_ClassificationParts.j1 k1 x4_1 t272 t278 true)) else (priceofficelaw06_ClassificationParts.j1 k1 x4_1 t272 t278 true))) else (priceofficelaw06_ClassificationParts.j1 k1 x4_1 t272 t278 true))) else (priceofficelaw06_ClassificationParts.j1 k1 x4_1 t272 t278 true)) else (priceofficelaw06_ClassificationParts.j1 k1 x4_1 t272 t278 true))) = some r := H
        have A11 := Aside0.mk A110
        clear A110
        replace H := Option.bind_eq_some_iff.mp H
        obtain ⟨t278, A120, H⟩ := H
        replace H : (if t273 = 0 then (if t275 = 0 then ((priceofficeref06_SameInts.f k1 t274 x4_1).bind fun t281 => (if t281 = true then ((classification_Level.f k1 t272).bind fun t282 => (if t282 = (x4_1.length : Int) then (if (t278.length : Int) = (x4_1.length : Int) then (if 0 ≤ (wrap64 ((t278.length : Int) - 1)) then (if (wrap64 ((t278.length : Int) - 1)) < (t278.length : Int) then (priceofficelaw06_ClassificationParts.j1 k1 x4_1 t272 t278 ((rdOf ByteArray.empty t278 (wrap64 ((t278.length : Int) - 1))).toList != t272.toList)) else (none)) else (none)) else (priceofficelaw06_ClassificationParts.j1 k1 x4_1 t272 t278 true)) else (priceofficelaw06_ClassificationParts.j1 k1 x4_1 t272 t278 true))) else (priceofficelaw06_ClassificationParts.j1 k1 x4_1 t272 t278 true))) else (priceofficelaw06_ClassificationParts.j1 k1 x4_1 t272 t278 true)) else (priceofficelaw06_ClassificationParts.j1 k1 x4_1 t272 t278 true)) = some r := H
        have A12 := Aside0.mk A120
        clear A120
        have HC13 := Aside0.mk H
        clear H
        obtain ⟨Ao14, co14, eo14⟩ := Kd.R_slice HO_4.out
        subst eo14
        go_upto_region 10 with (first | ((with_reducible refine gate_callee (f := 28) rfl ?_); refine goesL_ (some 29) rfl rfl Tryd.func28 (by kernel_rfl) rfl #[.slice Ao14 x4_1.length co14] rfl (by (try simp only [List.map_toArray, List.map_cons, List.map_nil]); first | done | rfl | (simp only [List.length_drop, List.length_take]; rfl)) ?_; (with_reducible refine (classification_Format.calls k1 _ _ x4_1 t272 t273 _ ?side1 ?side2 ?side3 A10.out).mono ?_); (case side1 => repeat (first | exact (Kd.R_reads' HO_4.out).2.2 | (with_reducible refine Kd.C_alloc ?_ _) | (with_reducible refine Kd.C_drewN ?_ _) | (with_reducible refine Kd.C_drew ?_))); (case side2 => exact (Kd.R_reads' HO_4.out).2.1); (case side3 => first | exact HG.out | exact GT.below HG.out.gt (by repeat (first | (with_reducible first | exact HB.out | apply below_alloc | apply pw_below_drewN | apply below_drew1 | refine below_set ?_ (IsS25.ge HI264.out)) | exact HB.out))); rintro e w15 ⟨rfl, hb⟩; refine ⟨_, rfl, ?_⟩; have n0_ := Aside0.mk (Kd.R_below (by (with_reducible repeat (first | apply Kd.R_alloc | apply Kd.R_drewN | apply Kd.R_drew)); exact HO_4.out) hb); have n1_ := Aside0.mk (IsS25.below (by repeat (first | (with_reducible first | exact HI264.out | apply IsS25.alloc | apply IsS25.drewN | apply IsS25.drew | apply IsS25.set_1) | exact HI264.out)) hb); have n2_ := Aside0.mk (below_step (by repeat (first | (with_reducible first | exact HB.out | apply below_alloc | apply pw_below_drewN | apply below_drew1 | refine below_set ?_ (IsS25.ge HI264.out)) | exact HB.out)) hb); clear HO_4; clear HI264; clear HB; have HO_4 := n0_; have HI264 := n1_; have HB := n2_; clear n0_ n1_ n2_; (try clear hb); (try clear hb2); (try clear hk); (try clear hi)) | ((with_reducible refine gate_callee (f := 25) rfl ?_); refine goesL_ (some 34) rfl rfl Tryd.func25 (by kernel_rfl) rfl #[.string t272] rfl (by (try simp only [List.map_toArray, List.map_cons, List.map_nil]); first | done | rfl | (simp only [List.length_drop, List.length_take]; rfl)) ?_; (with_reducible refine (classification_Parse.calls k1 t272 t274 t275 _ ?side1 A11.out).mono ?_); (case side1 => first | exact HG.out | exact GL.below HG.out (by repeat (first | (with_reducible first | exact HB.out | apply below_alloc | apply pw_below_drewN | apply below_drew1 | refine below_set ?_ (IsS25.ge HI264.out)) | exact HB.out))); rintro e w16 ⟨v276, rfl, ho0, hb⟩; refine ⟨_, rfl, ?_⟩; have n0_ := Aside0.mk (Kd.R_elder' (by (with_reducible repeat (first | apply Kd.R_alloc | apply Kd.R_drewN | apply Kd.R_drew)); exact HO_4.out) (Kd.R_base ho0) hb); have n1_ := Aside0.mk (Kd.R_lower (Kd.R_new' ho0 (Kd.R_lt (by (with_reducible repeat (first | apply Kd.R_alloc | apply Kd.R_drewN | apply Kd.R_drew)); exact HO_4.out))) (below_size (by repeat (first | (with_reducible first | exact HB.out | apply below_alloc | apply pw_below_drewN | apply below_drew1 | refine below_set ?_ (IsS25.ge HI264.out)) | exact HB.out)))); have n2_ := Aside0.mk (IsS25.below (by repeat (first | (with_reducible first | exact HI264.out | apply IsS25.alloc | apply IsS25.drewN | apply IsS25.drew | apply IsS25.set_1) | exact HI264.out)) hb); have n3_ := Aside0.mk (below_step (by repeat (first | (with_reducible first | exact HB.out | apply below_alloc | apply pw_below_drewN | apply below_drew1 | refine below_set ?_ (IsS25.ge HI264.out)) | exact HB.out)) hb); clear HO_4; clear HI264; clear HB; have HO_4 := n0_; have HO277 := n1_; have HI264 := n2_; have HB := n3_; clear n0_ n1_ n2_ n3_; (try clear hb); (try clear hb2); (try clear hk); (try clear hi); (try clear ho0)) | ((with_reducible refine gate_callee (f := 31) rfl ?_); refine goesL_ (some 38) rfl rfl Tryd.func31 (by kernel_rfl) rfl #[.string t272] rfl (by (try simp only [List.map_toArray, List.map_cons, List.map_nil]); first | done | rfl | (simp only [List.length_drop, List.length_take]; rfl)) ?_; (with_reducible refine (classification_Path.calls k1 t272 t278 _ ?side1 A12.out).mono ?_); (case side1 => first | exact HG.out | exact GL.below HG.out (by repeat (first | (with_reducible first | exact HB.out | apply below_alloc | apply pw_below_drewN | apply below_drew1 | refine below_set ?_ (IsS25.ge HI264.out)) | exact HB.out))); rintro e w17 ⟨v279, rfl, ho0, hb⟩; refine ⟨_, rfl, ?_⟩; have n0_ := Aside0.mk (Kd.R_below (by (with_reducible repeat (first | apply Kd.R_alloc | apply Kd.R_drewN | apply Kd.R_drew)); exact HO_4.out) hb); have n1_ := Aside0.mk (Kd.R_below (by (with_reducible repeat (first | apply Kd.R_alloc | apply Kd.R_drewN | apply Kd.R_drew)); exact HO277.out) hb); have n2_ := Aside0.mk (Kd.R_lower ho0 (below_size (by repeat (first | (with_reducible first | exact HB.out | apply below_alloc | apply pw_below_drewN | apply below_drew1 | refine below_set ?_ (IsS25.ge HI264.out)) | exact HB.out)))); have n3_ := Aside0.mk (IsS25.below (by repeat (first | (with_reducible first | exact HI264.out | apply IsS25.alloc | apply IsS25.drewN | apply IsS25.drew | apply IsS25.set_1) | exact HI264.out)) hb); have n4_ := Aside0.mk (below_step (by repeat (first | (with_reducible first | exact HB.out | apply below_alloc | apply pw_below_drewN | apply below_drew1 | refine below_set ?_ (IsS25.ge HI264.out)) | exact HB.out)) hb); clear HO_4; clear HO277; clear HI264; clear HB; have HO_4 := n0_; have HO277 := n1_; have HO280 := n2_; have HI264 := n3_; have HB := n4_; clear n0_ n1_ n2_ n3_ n4_; (try clear hb); (try clear hb2); (try clear hk); (try clear hi); (try clear ho0)))
        (try simp only [Act.put, List.setIfInBounds_toArray, List.set_cons_zero, List.set_cons_succ])
        go_cut [74] (fun v74 wc => ∃ (kq : Nat) (x74_52 : Bool), v74 = .bool x74_52 ∧ Aside0 (priceofficelaw06_ClassificationParts.j1 kq x4_1 t272 t278 x74_52 = some r) ∧ Aside0 (kq ≤ k1) ∧ Aside0 (Kd.R (Kd.int .i64) 3 wc w.heap.size (fun _ => True) (.slice Ao14 x4_1.length co14) x4_1) ∧ Aside0 (Kd.R Kd.string 9 wc w.heap.size (fun _ => True) v279 t278) ∧ Aside0 (Below w.heap.size w wc))
        case first =>
          have H := HC13.out
          clear HC13
          by_cases c18 : t273 = 0
          · rw [if_pos c18] at H
            have c18b0 : (t273 == 0) = true := beq_iff_eq.mpr c18
            have c18b1 : (t273 != 0) = false := bne_eq_false_iff_eq.mpr c18
            clear c18
            (first | rw [c18b0] | (simp only [i64_w, i32_w]; rw [c18b0]) | skip)
            by_cases c19 : t275 = 0
            · rw [if_pos c19] at H
              have c19b0 : (t275 == 0) = true := beq_iff_eq.mpr c19
              have c19b1 : (t275 != 0) = false := bne_eq_false_iff_eq.mpr c19
              clear c19
              replace H := Option.bind_eq_some_iff.mp H
              obtain ⟨t281, A200, H⟩ := H
              replace H : (if t281 = true then ((classification_Level.f k1 t272).bind fun t282 => (if t282 = (x4_1.length : Int) then (if (t278.length : Int) = (x4_1.length : Int) then (if 0 ≤ (wrap64 ((t278.length : Int) - 1)) then (if (wrap64 ((t278.length : Int) - 1)) < (t278.length : Int) then (priceofficelaw06_ClassificationParts.j1 k1 x4_1 t272 t278 ((rdOf ByteArray.empty t278 (wrap64 ((t278.length : Int) - 1))).toList != t272.toList)) else (none)) else (none)) else (priceofficelaw06_ClassificationParts.j1 k1 x4_1 t272 t278 true)) else (priceofficelaw06_ClassificationParts.j1 k1 x4_1 t272 t278 true))) else (priceofficelaw06_ClassificationParts.j1 k1 x4_1 t272 t278 true)) = some r := H
              have A20 := Aside0.mk A200
              clear A200
              by_cases c21 : t281 = true
              · subst c21
                have H1 : ((classification_Level.f k1 t272).bind fun t282 => (if t282 = (x4_1.length : Int) then (if (t278.length : Int) = (x4_1.length : Int) then (if 0 ≤ (wrap64 ((t278.length : Int) - 1)) then (if (wrap64 ((t278.length : Int) - 1)) < (t278.length : Int) then (priceofficelaw06_ClassificationParts.j1 k1 x4_1 t272 t278 ((rdOf ByteArray.empty t278 (wrap64 ((t278.length : Int) - 1))).toList != t272.toList)) else (none)) else (none)) else (priceofficelaw06_ClassificationParts.j1 k1 x4_1 t272 t278 true)) else (priceofficelaw06_ClassificationParts.j1 k1 x4_1 t272 t278 true))) = some r := by rw [if_pos rfl] at H; exact H
                clear H
                have H := H1
                clear H1
                replace H := Option.bind_eq_some_iff.mp H
                obtain ⟨t282, A220, H⟩ := H
                replace H : (if t282 = (x4_1.length : Int) then (if (t278.length : Int) = (x4_1.length : Int) then (if 0 ≤ (wrap64 ((t278.length : Int) - 1)) then (if (wrap64 ((t278.length : Int) - 1)) < (t278.length : Int) then (priceofficelaw06_ClassificationParts.j1 k1 x4_1 t272 t278 ((rdOf ByteArray.empty t278 (wrap64 ((t278.length : Int) - 1))).toList != t272.toList)) else (none)) else (none)) else (priceofficelaw06_ClassificationParts.j1 k1 x4_1 t272 t278 true)) else (priceofficelaw06_ClassificationParts.j1 k1 x4_1 t272 t278 true)) = some r := H
                have A22 := Aside0.mk A220
                clear A220
                by_cases c23 : t282 = (x4_1.length : Int)
                · rw [if_pos c23] at H
                  have c23b0 : (t282 == (x4_1.length : Int)) = true := beq_iff_eq.mpr c23
                  have c23b1 : (t282 != (x4_1.length : Int)) = false := bne_eq_false_iff_eq.mpr c23
                  clear c23
                  by_cases c24 : (t278.length : Int) = (x4_1.length : Int)
                  · rw [if_pos c24] at H
                    have c24b0 : ((t278.length : Int) == (x4_1.length : Int)) = true := beq_iff_eq.mpr c24
                    have c24b1 : ((t278.length : Int) != (x4_1.length : Int)) = false := bne_eq_false_iff_eq.mpr c24
                    have c24b2 : (t278.length == x4_1.length) = true := by first | simpa using c24 | (simp at c24 ⊢; omega)
                    clear c24
                    obtain ⟨ji25, hji25⟩ : ∃ j_ : Int, (wrap64 ((t278.length : Int) - 1)) = j_ := ⟨_, rfl⟩
                    replace H : (if 0 ≤ (ji25) then (if (ji25) < (t278.length : Int) then (priceofficelaw06_ClassificationParts.j1 k1 x4_1 t272 t278 ((rdOf ByteArray.empty t278 (ji25)).toList != t272.toList)) else (none)) else (none)) = some r := by first | (rw [hji25] at H; exact H) | (simp only [hji25] at H ⊢; exact H)
                    (try rw [hji25] at A20)
                    (try rw [hji25] at A22)
                    have hji25w : (IntKind.i64.wrap ((t278.length : Int) - 1)) = ji25 := (i64_w _).trans hji25
                    by_cases c26 : 0 ≤ (ji25)
                    · rw [if_pos c26] at H
                      have c26b0 : decide (0 ≤ (ji25)) = true := decide_eq_true c26
                      clear c26
                      by_cases c27 : (ji25) < (t278.length : Int)
                      · rw [if_pos c27] at H
                        have c27b0 : decide ((ji25) < (t278.length : Int)) = true := decide_eq_true c27
                        clear c27
                        have H' := Aside0.mk H
                        clear H
                        obtain ⟨Ao28, co28, eo28⟩ := Kd.R_slice HO277.out
                        subst eo28
                        go_wp2_with (first | (go_at_call 27; (with_reducible refine (priceofficeref06_SameInts.calls k1 _ _ t274 _ _ x4_1 true _ ?side1 ?side2 ?side3 ?side4 A20.out).mono ?_); (case side1 => repeat (first | exact (Kd.R_reads' HO277.out).2.2 | (with_reducible refine Kd.C_alloc ?_ _) | (with_reducible refine Kd.C_drewN ?_ _) | (with_reducible refine Kd.C_drew ?_))); (case side2 => exact (Kd.R_reads' HO277.out).2.1); (case side3 => repeat (first | exact (Kd.R_reads' HO_4.out).2.2 | (with_reducible refine Kd.C_alloc ?_ _) | (with_reducible refine Kd.C_drewN ?_ _) | (with_reducible refine Kd.C_drew ?_))); (case side4 => exact (Kd.R_reads' HO_4.out).2.1); rintro e w' ⟨rfl, ⟨nd, rfl⟩⟩) | (go_at_call 32; (with_reducible refine (classification_Level.calls k1 t272 t282 _ ?side1 A22.out).mono ?_); (case side1 => first | exact HG.out | exact GL.below HG.out (by repeat (first | (with_reducible first | exact HB.out | apply below_alloc | apply pw_below_drewN | apply below_drew1 | refine below_set ?_ (IsS25.ge HI264.out)) | exact HB.out))); rintro e w29 ⟨rfl, hb⟩; have n0_ := Aside0.mk (Kd.R_below (by (with_reducible repeat (first | apply Kd.R_alloc | apply Kd.R_drewN | apply Kd.R_drew)); exact HO_4.out) hb); have n1_ := Aside0.mk (Kd.R_below (by (with_reducible repeat (first | apply Kd.R_alloc | apply Kd.R_drewN | apply Kd.R_drew)); exact HO277.out) hb); have n2_ := Aside0.mk (Kd.R_below (by (with_reducible repeat (first | apply Kd.R_alloc | apply Kd.R_drewN | apply Kd.R_drew)); exact HO280.out) hb); have n3_ := Aside0.mk (IsS25.below (by repeat (first | (with_reducible first | exact HI264.out | apply IsS25.alloc | apply IsS25.drewN | apply IsS25.drew | apply IsS25.set_1) | exact HI264.out)) hb); have n4_ := Aside0.mk (below_step (by repeat (first | (with_reducible first | exact HB.out | apply below_alloc | apply pw_below_drewN | apply below_drew1 | refine below_set ?_ (IsS25.ge HI264.out)) | exact HB.out)) hb); clear HO_4; clear HO277; clear HO280; clear HI264; clear HB; have HO_4 := n0_; have HO277 := n1_; have HO280 := n2_; have HI264 := n3_; have HB := n4_; clear n0_ n1_ n2_ n3_ n4_; (try clear hb); (try clear hb2); (try clear hk); (try clear hi); obtain ⟨Ao30, co30, eo30⟩ := Kd.R_slice HO280.out; subst eo30; have p283 : 0 ≤ ((ji25) : Int) := of_decide_eq_true (by first | (with_reducible assumption) | assumption); have q283 : (ji25) < (t278.length : Int) := of_decide_eq_true (by first | (with_reducible assumption) | assumption); obtain ⟨ad283, e283, hx283_0⟩ := Kd.at_string (Kd.R_reads' HO280.out).2.2 (ji25) p283 q283; cases e283; replace p283 := eq_true p283; replace q283 := eq_true q283))
                        go_meet
                        case rel => exact ⟨_, (((rdOf ByteArray.empty t278 (ji25)).toList != t272.toList)), (by first | rfl | (simp; done) | (simp only [← hji25] <;> (first | rfl | simp)) | (simp [*]; done)), H', ⟨by have := HK1.out; first | omega | exact Nat.le_refl _⟩, ⟨by (with_reducible repeat (first | apply Kd.R_alloc | apply Kd.R_drewN | apply Kd.R_drew)); exact Kd.R_mono HO_4.out (fun _ hk => trivial)⟩, ⟨by (with_reducible repeat (first | apply Kd.R_alloc | apply Kd.R_drewN | apply Kd.R_drew)); exact HO280.out⟩, ⟨by repeat (first | (with_reducible first | exact HB.out | apply below_alloc | apply pw_below_drewN | apply below_drew1 | refine below_set ?_ (IsS25.ge HI264.out)) | exact HB.out)⟩⟩
                      · rw [if_neg c27] at H
                        exact absurd H (by simp)
                    · rw [if_neg c26] at H
                      exact absurd H (by simp)
                  · rw [if_neg c24] at H
                    have c24b0 : ((t278.length : Int) == (x4_1.length : Int)) = false := beq_eq_false_iff_ne.mpr c24
                    have c24b1 : ((t278.length : Int) != (x4_1.length : Int)) = true := bne_iff_ne.mpr c24
                    have c24b2 : (t278.length == x4_1.length) = false := by first | simpa using c24 | (simp at c24 ⊢; omega)
                    have H' := Aside0.mk H
                    clear H
                    obtain ⟨Ao31, co31, eo31⟩ := Kd.R_slice HO277.out
                    subst eo31
                    go_wp2_with (first | (go_at_call 27; (with_reducible refine (priceofficeref06_SameInts.calls k1 _ _ t274 _ _ x4_1 true _ ?side1 ?side2 ?side3 ?side4 A20.out).mono ?_); (case side1 => repeat (first | exact (Kd.R_reads' HO277.out).2.2 | (with_reducible refine Kd.C_alloc ?_ _) | (with_reducible refine Kd.C_drewN ?_ _) | (with_reducible refine Kd.C_drew ?_))); (case side2 => exact (Kd.R_reads' HO277.out).2.1); (case side3 => repeat (first | exact (Kd.R_reads' HO_4.out).2.2 | (with_reducible refine Kd.C_alloc ?_ _) | (with_reducible refine Kd.C_drewN ?_ _) | (with_reducible refine Kd.C_drew ?_))); (case side4 => exact (Kd.R_reads' HO_4.out).2.1); rintro e w' ⟨rfl, ⟨nd, rfl⟩⟩) | (go_at_call 32; (with_reducible refine (classification_Level.calls k1 t272 t282 _ ?side1 A22.out).mono ?_); (case side1 => first | exact HG.out | exact GL.below HG.out (by repeat (first | (with_reducible first | exact HB.out | apply below_alloc | apply pw_below_drewN | apply below_drew1 | refine below_set ?_ (IsS25.ge HI264.out)) | exact HB.out))); rintro e w32 ⟨rfl, hb⟩; have n0_ := Aside0.mk (Kd.R_below (by (with_reducible repeat (first | apply Kd.R_alloc | apply Kd.R_drewN | apply Kd.R_drew)); exact HO_4.out) hb); have n1_ := Aside0.mk (Kd.R_below (by (with_reducible repeat (first | apply Kd.R_alloc | apply Kd.R_drewN | apply Kd.R_drew)); exact HO277.out) hb); have n2_ := Aside0.mk (Kd.R_below (by (with_reducible repeat (first | apply Kd.R_alloc | apply Kd.R_drewN | apply Kd.R_drew)); exact HO280.out) hb); have n3_ := Aside0.mk (IsS25.below (by repeat (first | (with_reducible first | exact HI264.out | apply IsS25.alloc | apply IsS25.drewN | apply IsS25.drew | apply IsS25.set_1) | exact HI264.out)) hb); have n4_ := Aside0.mk (below_step (by repeat (first | (with_reducible first | exact HB.out | apply below_alloc | apply pw_below_drewN | apply below_drew1 | refine below_set ?_ (IsS25.ge HI264.out)) | exact HB.out)) hb); clear HO_4; clear HO277; clear HO280; clear HI264; clear HB; have HO_4 := n0_; have HO277 := n1_; have HO280 := n2_; have HI264 := n3_; have HB := n4_; clear n0_ n1_ n2_ n3_ n4_; (try clear hb); (try clear hb2); (try clear hk); (try clear hi); obtain ⟨Ao33, co33, eo33⟩ := Kd.R_slice HO280.out; subst eo33))
                    go_meet
                    case rel => exact ⟨_, (true), (by first | rfl | (simp; done) | (simp [*]; done)), H', ⟨by have := HK1.out; first | omega | exact Nat.le_refl _⟩, ⟨by (with_reducible repeat (first | apply Kd.R_alloc | apply Kd.R_drewN | apply Kd.R_drew)); exact Kd.R_mono HO_4.out (fun _ hk => trivial)⟩, ⟨by (with_reducible repeat (first | apply Kd.R_alloc | apply Kd.R_drewN | apply Kd.R_drew)); exact HO280.out⟩, ⟨by repeat (first | (with_reducible first | exact HB.out | apply below_alloc | apply pw_below_drewN | apply below_drew1 | refine below_set ?_ (IsS25.ge HI264.out)) | exact HB.out)⟩⟩
                · rw [if_neg c23] at H
                  have c23b0 : (t282 == (x4_1.length : Int)) = false := beq_eq_false_iff_ne.mpr c23
                  have c23b1 : (t282 != (x4_1.length : Int)) = true := bne_iff_ne.mpr c23
                  have H' := Aside0.mk H
                  clear H
                  obtain ⟨Ao34, co34, eo34⟩ := Kd.R_slice HO277.out
                  subst eo34
                  go_wp2_with (first | (go_at_call 27; (with_reducible refine (priceofficeref06_SameInts.calls k1 _ _ t274 _ _ x4_1 true _ ?side1 ?side2 ?side3 ?side4 A20.out).mono ?_); (case side1 => repeat (first | exact (Kd.R_reads' HO277.out).2.2 | (with_reducible refine Kd.C_alloc ?_ _) | (with_reducible refine Kd.C_drewN ?_ _) | (with_reducible refine Kd.C_drew ?_))); (case side2 => exact (Kd.R_reads' HO277.out).2.1); (case side3 => repeat (first | exact (Kd.R_reads' HO_4.out).2.2 | (with_reducible refine Kd.C_alloc ?_ _) | (with_reducible refine Kd.C_drewN ?_ _) | (with_reducible refine Kd.C_drew ?_))); (case side4 => exact (Kd.R_reads' HO_4.out).2.1); rintro e w' ⟨rfl, ⟨nd, rfl⟩⟩) | (go_at_call 32; (with_reducible refine (classification_Level.calls k1 t272 t282 _ ?side1 A22.out).mono ?_); (case side1 => first | exact HG.out | exact GL.below HG.out (by repeat (first | (with_reducible first | exact HB.out | apply below_alloc | apply pw_below_drewN | apply below_drew1 | refine below_set ?_ (IsS25.ge HI264.out)) | exact HB.out))); rintro e w35 ⟨rfl, hb⟩; have n0_ := Aside0.mk (Kd.R_below (by (with_reducible repeat (first | apply Kd.R_alloc | apply Kd.R_drewN | apply Kd.R_drew)); exact HO_4.out) hb); have n1_ := Aside0.mk (Kd.R_below (by (with_reducible repeat (first | apply Kd.R_alloc | apply Kd.R_drewN | apply Kd.R_drew)); exact HO277.out) hb); have n2_ := Aside0.mk (Kd.R_below (by (with_reducible repeat (first | apply Kd.R_alloc | apply Kd.R_drewN | apply Kd.R_drew)); exact HO280.out) hb); have n3_ := Aside0.mk (IsS25.below (by repeat (first | (with_reducible first | exact HI264.out | apply IsS25.alloc | apply IsS25.drewN | apply IsS25.drew | apply IsS25.set_1) | exact HI264.out)) hb); have n4_ := Aside0.mk (below_step (by repeat (first | (with_reducible first | exact HB.out | apply below_alloc | apply pw_below_drewN | apply below_drew1 | refine below_set ?_ (IsS25.ge HI264.out)) | exact HB.out)) hb); clear HO_4; clear HO277; clear HO280; clear HI264; clear HB; have HO_4 := n0_; have HO277 := n1_; have HO280 := n2_; have HI264 := n3_; have HB := n4_; clear n0_ n1_ n2_ n3_ n4_; (try clear hb); (try clear hb2); (try clear hk); (try clear hi)))
                  go_meet
                  case rel => exact ⟨_, (true), (by first | rfl | (simp; done) | (simp [*]; done)), H', ⟨by have := HK1.out; first | omega | exact Nat.le_refl _⟩, ⟨by (with_reducible repeat (first | apply Kd.R_alloc | apply Kd.R_drewN | apply Kd.R_drew)); exact Kd.R_mono HO_4.out (fun _ hk => trivial)⟩, ⟨by (with_reducible repeat (first | apply Kd.R_alloc | apply Kd.R_drewN | apply Kd.R_drew)); exact HO280.out⟩, ⟨by repeat (first | (with_reducible first | exact HB.out | apply below_alloc | apply pw_below_drewN | apply below_drew1 | refine below_set ?_ (IsS25.ge HI264.out)) | exact HB.out)⟩⟩
              · replace c21 := Bool.eq_false_iff.mpr c21
                subst c21
                have H1 : (priceofficelaw06_ClassificationParts.j1 k1 x4_1 t272 t278 true) = some r := by rw [if_neg (show ¬ (false = true) by decide)] at H; exact H
                clear H
                have H := H1
                clear H1
                have H' := Aside0.mk H
                clear H
                obtain ⟨Ao36, co36, eo36⟩ := Kd.R_slice HO277.out
                subst eo36
                go_wp2_with (first | (go_at_call 27; (with_reducible refine (priceofficeref06_SameInts.calls k1 _ _ t274 _ _ x4_1 false _ ?side1 ?side2 ?side3 ?side4 A20.out).mono ?_); (case side1 => repeat (first | exact (Kd.R_reads' HO277.out).2.2 | (with_reducible refine Kd.C_alloc ?_ _) | (with_reducible refine Kd.C_drewN ?_ _) | (with_reducible refine Kd.C_drew ?_))); (case side2 => exact (Kd.R_reads' HO277.out).2.1); (case side3 => repeat (first | exact (Kd.R_reads' HO_4.out).2.2 | (with_reducible refine Kd.C_alloc ?_ _) | (with_reducible refine Kd.C_drewN ?_ _) | (with_reducible refine Kd.C_drew ?_))); (case side4 => exact (Kd.R_reads' HO_4.out).2.1); rintro e w' ⟨rfl, ⟨nd, rfl⟩⟩))
                go_meet
                case rel => exact ⟨_, (true), (by first | rfl | (simp; done) | (simp [*]; done)), H', ⟨by have := HK1.out; first | omega | exact Nat.le_refl _⟩, ⟨by (with_reducible repeat (first | apply Kd.R_alloc | apply Kd.R_drewN | apply Kd.R_drew)); exact Kd.R_mono HO_4.out (fun _ hk => trivial)⟩, ⟨by (with_reducible repeat (first | apply Kd.R_alloc | apply Kd.R_drewN | apply Kd.R_drew)); exact HO280.out⟩, ⟨by repeat (first | (with_reducible first | exact HB.out | apply below_alloc | apply pw_below_drewN | apply below_drew1 | refine below_set ?_ (IsS25.ge HI264.out)) | exact HB.out)⟩⟩
            · rw [if_neg c19] at H
              have c19b0 : (t275 == 0) = false := beq_eq_false_iff_ne.mpr c19
              have c19b1 : (t275 != 0) = true := bne_iff_ne.mpr c19
              have H' := Aside0.mk H
              clear H
              go_wp2
              go_meet
              case rel => exact ⟨_, (true), (by first | rfl | (simp; done) | (simp [*]; done)), H', ⟨by have := HK1.out; first | omega | exact Nat.le_refl _⟩, ⟨by (with_reducible repeat (first | apply Kd.R_alloc | apply Kd.R_drewN | apply Kd.R_drew)); exact Kd.R_mono HO_4.out (fun _ hk => trivial)⟩, ⟨by (with_reducible repeat (first | apply Kd.R_alloc | apply Kd.R_drewN | apply Kd.R_drew)); exact HO280.out⟩, ⟨by repeat (first | (with_reducible first | exact HB.out | apply below_alloc | apply pw_below_drewN | apply below_drew1 | refine below_set ?_ (IsS25.ge HI264.out)) | exact HB.out)⟩⟩
          · rw [if_neg c18] at H
            have c18b0 : (t273 == 0) = false := beq_eq_false_iff_ne.mpr c18
            have c18b1 : (t273 != 0) = true := bne_iff_ne.mpr c18
            (first | rw [c18b0] | (simp only [i64_w, i32_w]; rw [c18b0]) | skip)
            have H' := Aside0.mk H
            clear H
            go_wp2
            go_meet
            case rel => exact ⟨_, (true), (by first | rfl | (simp; done) | (simp [*]; done)), H', ⟨by have := HK1.out; first | omega | exact Nat.le_refl _⟩, ⟨by (with_reducible repeat (first | apply Kd.R_alloc | apply Kd.R_drewN | apply Kd.R_drew)); exact Kd.R_mono HO_4.out (fun _ hk => trivial)⟩, ⟨by (with_reducible repeat (first | apply Kd.R_alloc | apply Kd.R_drewN | apply Kd.R_drew)); exact HO280.out⟩, ⟨by repeat (first | (with_reducible first | exact HB.out | apply below_alloc | apply pw_below_drewN | apply below_drew1 | refine below_set ?_ (IsS25.ge HI264.out)) | exact HB.out)⟩⟩
        case rest =>
          clear HC13
          try clear c1
          try clear c2
          try clear p2
          try clear q2
          try clear hx2
          try clear c3
          try clear c5
          try clear c5b0
          try clear p6
          try clear c7
          try clear c18
          try clear c18b0
          try clear c18b1
          try clear c19
          try clear c19b0
          try clear c19b1
          try clear c21
          try clear c23
          try clear c23b0
          try clear c23b1
          try clear c24
          try clear c24b0
          try clear c24b1
          try clear c24b2
          try clear c25
          try clear c26
          try clear c26b0
          try clear c27
          try clear c27b0
          try clear c28
          try clear p28
          try clear q28
          try clear hx28
          try clear c31
          try clear hx283_0
          try clear p2
          try clear p283
          try clear q283
          obtain ⟨kq, x74_52, rfl, HA, HJ52, HO_4, HO_9, HB⟩ := hcut
          cases kq with
          | zero => exact absurd HA.out (by simp [priceofficelaw06_ClassificationParts.j1])
          | succ kj52 =>
            have H := HA.out
            clear HA
            simp only [priceofficelaw06_ClassificationParts.j1] at H
            by_cases c37 : x74_52 = true
            · subst c37
              have H1 : (some false) = some r := by rw [if_pos rfl] at H; exact H
              clear H
              have H := H1
              clear H1
              obtain rfl := Option.some.inj H
              go_wp2
              go_ret
              exact ⟨by first | rfl | (simp [errW_none, errW_some] <;> rfl) | (simp [*, errW_none, errW_some] <;> rfl), by repeat (first | (with_reducible first | exact HB.out | apply below_alloc | apply pw_below_drewN | apply below_drew1) | exact HB.out)⟩
            · replace c37 := Bool.eq_false_iff.mpr c37
              subst c37
              have H1 : ((classification_Parent.f kj52 t272).bind fun bt284 => (if (x4_1.length : Int) = 1 then (if bt284.2 = true then (if bt284.1.toList = ([] : List UInt8) then ((priceofficelaw06_awake.f kj52).bind fun t286 => (some t286)) else (some false)) else (some false)) else (if bt284.2 = true then (if 0 ≤ (wrap64 ((t278.length : Int) - 2)) then (if (wrap64 ((t278.length : Int) - 2)) < (t278.length : Int) then (if bt284.1.toList = (rdOf ByteArray.empty t278 (wrap64 ((t278.length : Int) - 2))).toList then ((priceofficelaw06_awake.f kj52).bind fun t288 => (some t288)) else (some false)) else (none)) else (none)) else (some false)))) = some r := by rw [if_neg (show ¬ (false = true) by decide)] at H; exact H
              clear H
              have H := H1
              clear H1
              replace H := Option.bind_eq_some_iff.mp H
              obtain ⟨⟨t284, t285⟩, A380, H⟩ := H
              replace H : (if (x4_1.length : Int) = 1 then (if t285 = true then (if t284.toList = ([] : List UInt8) then ((priceofficelaw06_awake.f kj52).bind fun t286 => (some t286)) else (some false)) else (some false)) else (if t285 = true then (if 0 ≤ (wrap64 ((t278.length : Int) - 2)) then (if (wrap64 ((t278.length : Int) - 2)) < (t278.length : Int) then (if t284.toList = (rdOf ByteArray.empty t278 (wrap64 ((t278.length : Int) - 2))).toList then ((priceofficelaw06_awake.f kj52).bind fun t288 => (some t288)) else (some false)) else (none)) else (none)) else (some false))) = some r := H
              have A38 := Aside0.mk A380
              clear A380
              by_cases c39 : (x4_1.length : Int) = 1
              · rw [if_pos c39] at H
                have c39b0 : ((x4_1.length : Int) == 1) = true := beq_iff_eq.mpr c39
                have c39b1 : ((x4_1.length : Int) != 1) = false := bne_eq_false_iff_eq.mpr c39
                clear c39
                by_cases c40 : t285 = true
                · subst c40
                  have H1 : (if t284.toList = ([] : List UInt8) then ((priceofficelaw06_awake.f kj52).bind fun t286 => (some t286)) else (some false)) = some r := by rw [if_pos rfl] at H; exact H
                  clear H
                  have H := H1
                  clear H1
                  by_cases c41 : t284.toList = ([] : List UInt8)
                  · rw [if_pos c41] at H
                    have c41b0 : (t284.toList == ([] : List UInt8)) = true := beq_iff_eq.mpr c41
                    have c41b1 : (t284.toList != ([] : List UInt8)) = false := bne_eq_false_iff_eq.mpr c41
                    clear c41
                    replace H := Option.bind_eq_some_iff.mp H
                    obtain ⟨t286, A420, H⟩ := H
                    replace H : (some t286) = some r := H
                    have A42 := Aside0.mk A420
                    clear A420
                    obtain rfl := Option.some.inj H
                    go_wp2_with (first | ((with_reducible refine gate_callee (f := 33) rfl ?_); refine goesL_ (some 77) rfl rfl Tryd.func33 (by kernel_rfl) rfl #[.string t272] rfl (by (try simp only [List.map_toArray, List.map_cons, List.map_nil]); first | done | rfl | (simp only [List.length_drop, List.length_take]; rfl)) ?_; (with_reducible refine (classification_Parent.calls kj52 t272 t284 true _ ?side1 A38.out).mono ?_); (case side1 => first | exact HG.out | exact GL.below HG.out (by repeat (first | (with_reducible first | exact HB.out | apply below_alloc | apply pw_below_drewN | apply below_drew1) | exact HB.out))); rintro e w43 ⟨rfl, hb⟩; refine ⟨_, rfl, ?_⟩; have n0_ := Aside0.mk (Kd.R_below (by (with_reducible repeat (first | apply Kd.R_alloc | apply Kd.R_drewN | apply Kd.R_drew)); exact HO_4.out) hb); have n1_ := Aside0.mk (Kd.R_below (by (with_reducible repeat (first | apply Kd.R_alloc | apply Kd.R_drewN | apply Kd.R_drew)); exact HO_9.out) hb); have n2_ := Aside0.mk (below_step (by repeat (first | (with_reducible first | exact HB.out | apply below_alloc | apply pw_below_drewN | apply below_drew1) | exact HB.out)) hb); clear HO_4; clear HO_9; clear HB; have HO_4 := n0_; have HO_9 := n1_; have HB := n2_; clear n0_ n1_ n2_; (try clear hb); (try clear hb2); (try clear hk); (try clear hi)) | (go_at_call 17; (with_reducible refine (priceofficelaw06_awake.calls kj52  t286 _ ?side1 A42.out).mono ?_); (case side1 => first | exact HG.out | exact GL.below HG.out (by repeat (first | (with_reducible first | exact HB.out | apply below_alloc | apply pw_below_drewN | apply below_drew1) | exact HB.out))); rintro e w44 ⟨rfl, hb⟩; have n0_ := Aside0.mk (Kd.R_below (by (with_reducible repeat (first | apply Kd.R_alloc | apply Kd.R_drewN | apply Kd.R_drew)); exact HO_4.out) hb); have n1_ := Aside0.mk (Kd.R_below (by (with_reducible repeat (first | apply Kd.R_alloc | apply Kd.R_drewN | apply Kd.R_drew)); exact HO_9.out) hb); have n2_ := Aside0.mk (below_step (by repeat (first | (with_reducible first | exact HB.out | apply below_alloc | apply pw_below_drewN | apply below_drew1) | exact HB.out)) hb); clear HO_4; clear HO_9; clear HB; have HO_4 := n0_; have HO_9 := n1_; have HB := n2_; clear n0_ n1_ n2_; (try clear hb); (try clear hb2); (try clear hk); (try clear hi)))
                    go_ret
                    exact ⟨by first | rfl | (simp [errW_none, errW_some] <;> rfl) | (simp [*, errW_none, errW_some] <;> rfl), by repeat (first | (with_reducible first | exact HB.out | apply below_alloc | apply pw_below_drewN | apply below_drew1) | exact HB.out)⟩
                  · rw [if_neg c41] at H
                    have c41b0 : (t284.toList == ([] : List UInt8)) = false := beq_eq_false_iff_ne.mpr c41
                    have c41b1 : (t284.toList != ([] : List UInt8)) = true := bne_iff_ne.mpr c41
                    obtain rfl := Option.some.inj H
                    go_wp2_with (first | ((with_reducible refine gate_callee (f := 33) rfl ?_); refine goesL_ (some 77) rfl rfl Tryd.func33 (by kernel_rfl) rfl #[.string t272] rfl (by (try simp only [List.map_toArray, List.map_cons, List.map_nil]); first | done | rfl | (simp only [List.length_drop, List.length_take]; rfl)) ?_; (with_reducible refine (classification_Parent.calls kj52 t272 t284 true _ ?side1 A38.out).mono ?_); (case side1 => first | exact HG.out | exact GL.below HG.out (by repeat (first | (with_reducible first | exact HB.out | apply below_alloc | apply pw_below_drewN | apply below_drew1) | exact HB.out))); rintro e w45 ⟨rfl, hb⟩; refine ⟨_, rfl, ?_⟩; have n0_ := Aside0.mk (Kd.R_below (by (with_reducible repeat (first | apply Kd.R_alloc | apply Kd.R_drewN | apply Kd.R_drew)); exact HO_4.out) hb); have n1_ := Aside0.mk (Kd.R_below (by (with_reducible repeat (first | apply Kd.R_alloc | apply Kd.R_drewN | apply Kd.R_drew)); exact HO_9.out) hb); have n2_ := Aside0.mk (below_step (by repeat (first | (with_reducible first | exact HB.out | apply below_alloc | apply pw_below_drewN | apply below_drew1) | exact HB.out)) hb); clear HO_4; clear HO_9; clear HB; have HO_4 := n0_; have HO_9 := n1_; have HB := n2_; clear n0_ n1_ n2_; (try clear hb); (try clear hb2); (try clear hk); (try clear hi)))
                    go_ret
                    exact ⟨by first | rfl | (simp [errW_none, errW_some] <;> rfl) | (simp [*, errW_none, errW_some] <;> rfl), by repeat (first | (with_reducible first | exact HB.out | apply below_alloc | apply pw_below_drewN | apply below_drew1) | exact HB.out)⟩
                · replace c40 := Bool.eq_false_iff.mpr c40
                  subst c40
                  have H1 : (some false) = some r := by rw [if_neg (show ¬ (false = true) by decide)] at H; exact H
                  clear H
                  have H := H1
                  clear H1
                  obtain rfl := Option.some.inj H
                  go_wp2_with (first | ((with_reducible refine gate_callee (f := 33) rfl ?_); refine goesL_ (some 77) rfl rfl Tryd.func33 (by kernel_rfl) rfl #[.string t272] rfl (by (try simp only [List.map_toArray, List.map_cons, List.map_nil]); first | done | rfl | (simp only [List.length_drop, List.length_take]; rfl)) ?_; (with_reducible refine (classification_Parent.calls kj52 t272 t284 false _ ?side1 A38.out).mono ?_); (case side1 => first | exact HG.out | exact GL.below HG.out (by repeat (first | (with_reducible first | exact HB.out | apply below_alloc | apply pw_below_drewN | apply below_drew1) | exact HB.out))); rintro e w46 ⟨rfl, hb⟩; refine ⟨_, rfl, ?_⟩; have n0_ := Aside0.mk (Kd.R_below (by (with_reducible repeat (first | apply Kd.R_alloc | apply Kd.R_drewN | apply Kd.R_drew)); exact HO_4.out) hb); have n1_ := Aside0.mk (Kd.R_below (by (with_reducible repeat (first | apply Kd.R_alloc | apply Kd.R_drewN | apply Kd.R_drew)); exact HO_9.out) hb); have n2_ := Aside0.mk (below_step (by repeat (first | (with_reducible first | exact HB.out | apply below_alloc | apply pw_below_drewN | apply below_drew1) | exact HB.out)) hb); clear HO_4; clear HO_9; clear HB; have HO_4 := n0_; have HO_9 := n1_; have HB := n2_; clear n0_ n1_ n2_; (try clear hb); (try clear hb2); (try clear hk); (try clear hi)))
                  go_ret
                  exact ⟨by first | rfl | (simp [errW_none, errW_some] <;> rfl) | (simp [*, errW_none, errW_some] <;> rfl), by repeat (first | (with_reducible first | exact HB.out | apply below_alloc | apply pw_below_drewN | apply below_drew1) | exact HB.out)⟩
              · rw [if_neg c39] at H
                have c39b0 : ((x4_1.length : Int) == 1) = false := beq_eq_false_iff_ne.mpr c39
                have c39b1 : ((x4_1.length : Int) != 1) = true := bne_iff_ne.mpr c39
                by_cases c47 : t285 = true
                · subst c47
                  have H1 : (if 0 ≤ (wrap64 ((t278.length : Int) - 2)) then (if (wrap64 ((t278.length : Int) - 2)) < (t278.length : Int) then (if t284.toList = (rdOf ByteArray.empty t278 (wrap64 ((t278.length : Int) - 2))).toList then ((priceofficelaw06_awake.f kj52).bind fun t288 => (some t288)) else (some false)) else (none)) else (none)) = some r := by rw [if_pos rfl] at H; exact H
                  clear H
                  have H := H1
                  clear H1
                  obtain ⟨ji48, hji48⟩ : ∃ j_ : Int, (wrap64 ((t278.length : Int) - 2)) = j_ := ⟨_, rfl⟩
                  replace H : (if 0 ≤ (ji48) then (if (ji48) < (t278.length : Int) then (if t284.toList = (rdOf ByteArray.empty t278 (ji48)).toList then ((priceofficelaw06_awake.f kj52).bind fun t288 => (some t288)) else (some false)) else (none)) else (none)) = some r := by first | (rw [hji48] at H; exact H) | (simp only [hji48] at H ⊢; exact H)
                  (try rw [hji48] at A38)
                  have hji48w : (IntKind.i64.wrap ((t278.length : Int) - 2)) = ji48 := (i64_w _).trans hji48
                  by_cases c49 : 0 ≤ (ji48)
                  · rw [if_pos c49] at H
                    have c49b0 : decide (0 ≤ (ji48)) = true := decide_eq_true c49
                    clear c49
                    by_cases c50 : (ji48) < (t278.length : Int)
                    · rw [if_pos c50] at H
                      have c50b0 : decide ((ji48) < (t278.length : Int)) = true := decide_eq_true c50
                      clear c50
                      by_cases c51 : t284.toList = (rdOf ByteArray.empty t278 (ji48)).toList
                      · rw [if_pos c51] at H
                        have c51b0 : (t284.toList == (rdOf ByteArray.empty t278 (ji48)).toList) = true := beq_iff_eq.mpr c51
                        have c51b1 : (t284.toList != (rdOf ByteArray.empty t278 (ji48)).toList) = false := bne_eq_false_iff_eq.mpr c51
                        clear c51
                        replace H := Option.bind_eq_some_iff.mp H
                        obtain ⟨t288, A520, H⟩ := H
                        replace H : (some t288) = some r := H
                        have A52 := Aside0.mk A520
                        clear A520
                        obtain rfl := Option.some.inj H
                        go_wp2_with (first | ((with_reducible refine gate_callee (f := 33) rfl ?_); refine goesL_ (some 77) rfl rfl Tryd.func33 (by kernel_rfl) rfl #[.string t272] rfl (by (try simp only [List.map_toArray, List.map_cons, List.map_nil]); first | done | rfl | (simp only [List.length_drop, List.length_take]; rfl)) ?_; (with_reducible refine (classification_Parent.calls kj52 t272 t284 true _ ?side1 A38.out).mono ?_); (case side1 => first | exact HG.out | exact GL.below HG.out (by repeat (first | (with_reducible first | exact HB.out | apply below_alloc | apply pw_below_drewN | apply below_drew1) | exact HB.out))); rintro e w53 ⟨rfl, hb⟩; refine ⟨_, rfl, ?_⟩; have n0_ := Aside0.mk (Kd.R_below (by (with_reducible repeat (first | apply Kd.R_alloc | apply Kd.R_drewN | apply Kd.R_drew)); exact HO_4.out) hb); have n1_ := Aside0.mk (Kd.R_below (by (with_reducible repeat (first | apply Kd.R_alloc | apply Kd.R_drewN | apply Kd.R_drew)); exact HO_9.out) hb); have n2_ := Aside0.mk (below_step (by repeat (first | (with_reducible first | exact HB.out | apply below_alloc | apply pw_below_drewN | apply below_drew1) | exact HB.out)) hb); clear HO_4; clear HO_9; clear HB; have HO_4 := n0_; have HO_9 := n1_; have HB := n2_; clear n0_ n1_ n2_; (try clear hb); (try clear hb2); (try clear hk); (try clear hi); obtain ⟨Ao54, co54, eo54⟩ := Kd.R_slice HO_9.out; subst eo54; have p287 : 0 ≤ ((ji48) : Int) := of_decide_eq_true (by first | (with_reducible assumption) | assumption); have q287 : (ji48) < (t278.length : Int) := of_decide_eq_true (by first | (with_reducible assumption) | assumption); obtain ⟨ad287, e287, hx287_0⟩ := Kd.at_string (Kd.R_reads' HO_9.out).2.2 (ji48) p287 q287; cases e287; replace p287 := eq_true p287; replace q287 := eq_true q287) | (go_at_call 17; (with_reducible refine (priceofficelaw06_awake.calls kj52  t288 _ ?side1 A52.out).mono ?_); (case side1 => first | exact HG.out | exact GL.below HG.out (by repeat (first | (with_reducible first | exact HB.out | apply below_alloc | apply pw_below_drewN | apply below_drew1) | exact HB.out))); rintro e w55 ⟨rfl, hb⟩; have n0_ := Aside0.mk (Kd.R_below (by (with_reducible repeat (first | apply Kd.R_alloc | apply Kd.R_drewN | apply Kd.R_drew)); exact HO_4.out) hb); have n1_ := Aside0.mk (Kd.R_below (by (with_reducible repeat (first | apply Kd.R_alloc | apply Kd.R_drewN | apply Kd.R_drew)); exact HO_9.out) hb); have n2_ := Aside0.mk (below_step (by repeat (first | (with_reducible first | exact HB.out | apply below_alloc | apply pw_below_drewN | apply below_drew1) | exact HB.out)) hb); clear HO_4; clear HO_9; clear HB; have HO_4 := n0_; have HO_9 := n1_; have HB := n2_; clear n0_ n1_ n2_; (try clear hb); (try clear hb2); (try clear hk); (try clear hi)))
                        go_ret
                        exact ⟨by first | rfl | (simp [errW_none, errW_some] <;> rfl) | (simp only [← hji48]; first | rfl | (simp [errW_none, errW_some] <;> rfl)) | (simp [*, errW_none, errW_some] <;> rfl), by repeat (first | (with_reducible first | exact HB.out | apply below_alloc | apply pw_below_drewN | apply below_drew1) | exact HB.out)⟩
                      · rw [if_neg c51] at H
                        have c51b0 : (t284.toList == (rdOf ByteArray.empty t278 (ji48)).toList) = false := beq_eq_false_iff_ne.mpr c51
                        have c51b1 : (t284.toList != (rdOf ByteArray.empty t278 (ji48)).toList) = true := bne_iff_ne.mpr c51
                        obtain rfl := Option.some.inj H
                        go_wp2_with (first | ((with_reducible refine gate_callee (f := 33) rfl ?_); refine goesL_ (some 77) rfl rfl Tryd.func33 (by kernel_rfl) rfl #[.string t272] rfl (by (try simp only [List.map_toArray, List.map_cons, List.map_nil]); first | done | rfl | (simp only [List.length_drop, List.length_take]; rfl)) ?_; (with_reducible refine (classification_Parent.calls kj52 t272 t284 true _ ?side1 A38.out).mono ?_); (case side1 => first | exact HG.out | exact GL.below HG.out (by repeat (first | (with_reducible first | exact HB.out | apply below_alloc | apply pw_below_drewN | apply below_drew1) | exact HB.out))); rintro e w56 ⟨rfl, hb⟩; refine ⟨_, rfl, ?_⟩; have n0_ := Aside0.mk (Kd.R_below (by (with_reducible repeat (first | apply Kd.R_alloc | apply Kd.R_drewN | apply Kd.R_drew)); exact HO_4.out) hb); have n1_ := Aside0.mk (Kd.R_below (by (with_reducible repeat (first | apply Kd.R_alloc | apply Kd.R_drewN | apply Kd.R_drew)); exact HO_9.out) hb); have n2_ := Aside0.mk (below_step (by repeat (first | (with_reducible first | exact HB.out | apply below_alloc | apply pw_below_drewN | apply below_drew1) | exact HB.out)) hb); clear HO_4; clear HO_9; clear HB; have HO_4 := n0_; have HO_9 := n1_; have HB := n2_; clear n0_ n1_ n2_; (try clear hb); (try clear hb2); (try clear hk); (try clear hi); obtain ⟨Ao57, co57, eo57⟩ := Kd.R_slice HO_9.out; subst eo57; have p287 : 0 ≤ ((ji48) : Int) := of_decide_eq_true (by first | (with_reducible assumption) | assumption); have q287 : (ji48) < (t278.length : Int) := of_decide_eq_true (by first | (with_reducible assumption) | assumption); obtain ⟨ad287, e287, hx287_0⟩ := Kd.at_string (Kd.R_reads' HO_9.out).2.2 (ji48) p287 q287; cases e287; replace p287 := eq_true p287; replace q287 := eq_true q287))
                        go_ret
                        exact ⟨by first | rfl | (simp [errW_none, errW_some] <;> rfl) | (simp only [← hji48]; first | rfl | (simp [errW_none, errW_some] <;> rfl)) | (simp [*, errW_none, errW_some] <;> rfl), by repeat (first | (with_reducible first | exact HB.out | apply below_alloc | apply pw_below_drewN | apply below_drew1) | exact HB.out)⟩
                    · rw [if_neg c50] at H
                      exact absurd H (by simp)
                  · rw [if_neg c49] at H
                    exact absurd H (by simp)
                · replace c47 := Bool.eq_false_iff.mpr c47
                  subst c47
                  have H1 : (some false) = some r := by rw [if_neg (show ¬ (false = true) by decide)] at H; exact H
                  clear H
                  have H := H1
                  clear H1
                  obtain rfl := Option.some.inj H
                  go_wp2_with (first | ((with_reducible refine gate_callee (f := 33) rfl ?_); refine goesL_ (some 77) rfl rfl Tryd.func33 (by kernel_rfl) rfl #[.string t272] rfl (by (try simp only [List.map_toArray, List.map_cons, List.map_nil]); first | done | rfl | (simp only [List.length_drop, List.length_take]; rfl)) ?_; (with_reducible refine (classification_Parent.calls kj52 t272 t284 false _ ?side1 A38.out).mono ?_); (case side1 => first | exact HG.out | exact GL.below HG.out (by repeat (first | (with_reducible first | exact HB.out | apply below_alloc | apply pw_below_drewN | apply below_drew1) | exact HB.out))); rintro e w58 ⟨rfl, hb⟩; refine ⟨_, rfl, ?_⟩; have n0_ := Aside0.mk (Kd.R_below (by (with_reducible repeat (first | apply Kd.R_alloc | apply Kd.R_drewN | apply Kd.R_drew)); exact HO_4.out) hb); have n1_ := Aside0.mk (Kd.R_below (by (with_reducible repeat (first | apply Kd.R_alloc | apply Kd.R_drewN | apply Kd.R_drew)); exact HO_9.out) hb); have n2_ := Aside0.mk (below_step (by repeat (first | (with_reducible first | exact HB.out | apply below_alloc | apply pw_below_drewN | apply below_drew1) | exact HB.out)) hb); clear HO_4; clear HO_9; clear HB; have HO_4 := n0_; have HO_9 := n1_; have HB := n2_; clear n0_ n1_ n2_; (try clear hb); (try clear hb2); (try clear hk); (try clear hi)))
                  go_ret
                  exact ⟨by first | rfl | (simp [errW_none, errW_some] <;> rfl) | (simp [*, errW_none, errW_some] <;> rfl), by repeat (first | (with_reducible first | exact HB.out | apply below_alloc | apply pw_below_drewN | apply below_drew1) | exact HB.out)⟩

end Go.Proofs.YtpnoliognpmkmaaDoor.P
