/- ClassificationCovers: for every input the law returns true and leaves its arguments as they were; conditions: the listed package-level variables read as Go's own text lays them, which the card ties to that text. -/
import Derived.Test.YtpnoliognpmkmaaDoorCards
import Derived.Test.YtpnoliognpmkmaaDoorTie
import Derived.Test.YtpnoliognpmkmaaDoorCV
import Derived.Test.YtpnoliognpmkmaaDoorPureClassificationCovers
import Derived.WalkKit
import Derived.ProofKit
import Derived.OpenShut
import Derived.ShutString
import Derived.ChangeOld
import Derived.Below
import Derived.SizedLaws
import Derived.LaidMore
import Derived.Lib.SmallJoins
import Derived.Lib.LaidTab
import Derived.Deep.DeepHandedRow
import Derived.Deep.DeepWitnessRowRef
import Derived.Stop.LaidErr
import Derived.MakeChecks
import Derived.Look8
import Derived.Shelf.LaysM
import Derived.Test.YtpnoliognpmkmaaDoorRowC
import Derived.Test.YtpnoliognpmkmaaDoorWSized
import Derived.SliceStrings
namespace Go.Proofs.YtpnoliognpmkmaaDoor.classificationCovers
open Go.ChangeShapes Go.WideShapes Go.ChangeAt Go.RowKit Go.Joins Go.Proofs.YtpnoliognpmkmaaDoorW.PrintWords
open Go.ChangeMaps (open_string shut_string)
set_option linter.unusedVariables false

theorem own : ownKnob Tryd.prog.godebug = none := by kernel_rfl
theorem laidOut : laidOutB Tryd.prog = true := by kernel_rfl
theorem gPowT : (Tryd.prog.globals[3]?).map (·.type) = some 116 := by kernel_rfl
theorem cellsP : Tryd.prog.cellsOf 116 = 20 := by kernel_rfl
theorem cellsU : Tryd.prog.cellsOf 63 = 1 := by kernel_rfl
theorem gSynT : (Tryd.prog.globals[1]?).map (·.type) = some 68 := by kernel_rfl
theorem gRanT : (Tryd.prog.globals[2]?).map (·.type) = some 68 := by kernel_rfl
theorem star : "*" ++ "errors.errorString" = "*errors.errorString" := by decide
theorem errRow : ∀ u, Tryd.prog.typeName? 3 u = some "*errors.errorString" → u = 112 := by
 intro u h
 exact typeName_ptr_named (nm := "errors.errorString") (by rw [star]; kernel_rfl) (by kernel_rfl) (by decide) u (by rw [star]; exact h)
def unlit : DataW Unit → Value | .lit (.int k n) => .int k n | _ => undef
def cellsFirst : Array Value := match Go.Pinned.utf8First with | .agg l => (l.map unlit).toArray | _ => #[]
def objFirst : Option Obj → Obj | some (.cells _ t f) => .cells cellsFirst t f | _ => .cells #[] 0 (0, 0)
noncomputable def doorW (os : Os) : World := { World.doorLaid Tryd.prog 72 os with heap := (World.doorLaid Tryd.prog 72 os).heap.setIfInBounds 4 (objFirst (World.doorLaid Tryd.prog 72 os).heap[4]?) }
theorem cellsE : Tryd.prog.cellsOf 114 = 1 := by kernel_rfl
theorem cellsS : Tryd.prog.cellsOf 9 = 1 := by kernel_rfl
theorem table {W : World} (h : laidMetH Tryd.prog Rows.classificationCoversRow.laid W) (hs : W.ShapedOpen Tryd.prog) : GL W := by
 rw [MakeChecks.laidMetH_plain _ _ _ (by kernel_rfl)] at h
 have h1 := h.tail.tail
 have h2 := h1.tail.tail
 have h3 := h2.tail
 obtain ⟨a, s, hv, _⟩ := laid_sentinel h2 gRan gRanT Tryd.underlying68 errRow Tryd.underlying112 Tryd.underlying114 rfl rfl Tryd.underlying9 cellsE cellsS
 obtain ⟨a2, s2, hv2, _⟩ := laid_sentinel h3 gSyn gSynT Tryd.underlying68 errRow Tryd.underlying112 Tryd.underlying114 rfl rfl Tryd.underlying9 cellsE cellsS
 exact ⟨Lib.tabIs_of_head gPow gPowT Tryd.underlying116 Tryd.underlying63 cellsU cellsP h1, Go.Proofs.cell_of_shapedOpen_int (zero := #[.int .i64 0]) (t := 3) hs (of_decide_eq_true (by kernel_rfl)) (by kernel_rfl) rfl (by kernel_rfl) (by kernel_rfl) Tryd.underlying3, ⟨_, _, hv2⟩, ⟨_, _, hv⟩⟩
theorem door_met (os : Os) (args : Array Value) : laidMetH Tryd.prog Rows.classificationCoversRow.laid ((doorW os).forCall (fun _ _ => 0) ⟨#[], args, []⟩).memory :=
 laidMetH_of_parts3 (fuel := 8) (laidMet_of_run' 8 (by kernel_rfl) (by kernel_rfl)) (by kernel_rfl) (by kernel_rfl)
theorem cellsCls : Tryd.prog.cellsOf 28 = 2 := by kernel_rfl
def IsRow (w : World) (a : Option Addr) (len cap : Nat) (zs : List Int) : Prop :=
 (a = none ∧ len = 0 ∧ cap = 0 ∧ zs = []) ∨
 ∃ x, a = some x ∧ len ≤ cap ∧ cap ≤ maxLen ∧ zs.length = cap ∧ (∀ i, i < zs.length → w.cell? (x.add i) = some (.int .i64 (zs.getD i 0))) ∧ ∀ n ∈ zs, (Lit.int .i64 n).wf = true

theorem reads (os : Os) {H : Type} (enc : TypeId × Value → H) : ∃ places, DataW.whole enc Tryd.prog ((doorW os).forCall (fun _ _ => 0) ⟨#[], #[.agg #[.string ByteArray.empty, .slice none 0 0], .string ByteArray.empty, .slice none 0 0, .slice none 0 0], []⟩).memory Tryd.f4.params.toList Rows.classificationCoversSpec.vars false (#[.agg #[.string ByteArray.empty, .slice none 0 0], .string ByteArray.empty, .slice none 0 0, .slice none 0 0] : Array Value).toList 8 = some ([.agg [.lit (.string []), .nil], .lit (.string []), .nil, .nil], [], places) :=
 ⟨[], by kernel_rfl⟩

set_option maxRecDepth 100000 in
theorem lifted (os : Os) (started : os.Started) (H : Type) (enc : TypeId × Value → H) (F : Stop.Interp) :
  ReturnsInHanded {} Tryd.checked os 4 .any ((OpenSpec.ofChange Rows.classificationCoversSpec).preRow enc Tryd.prog Tryd.f4 Rows.classificationCoversRow.domain false Rows.classificationCoversRow.laid) (((OpenSpec.ofChange Rows.classificationCoversSpec).at F).post enc Tryd.prog Tryd.f4 false true false false) := by
 obtain ⟨places, hx⟩ := reads os enc
 refine returnsInHanded_of_row (C := Tryd.checked) (s := OpenSpec.ofChange Rows.classificationCoversSpec) own started (by kernel_rfl) Tryd.func4
  (witness_row_atRef (enc := enc) (C := Tryd.checked) false (doorW os) #[.agg #[.string ByteArray.empty, .slice none 0 0], .string ByteArray.empty, .slice none 0 0, .slice none 0 0] rfl (by kernel_rfl) (by kernel_rfl) (by kernel_rfl)
   (OpenSpec.preRow_of_cond 8 hx (by kernel_rfl) (fun k hk => by cases hk) (by kernel_rfl) (door_met os _))) ?_
 intro W base args ds gs before hval0 hW _ _ hsz0 hL hshape _
 have hsz : (DataW.weightsEach Tryd.prog (Tryd.f4.params.toList ++ Rows.classificationCoversSpec.plain.varTypes Tryd.prog) (ds ++ gs)).all (· ≤ reachBytes) = true := hsz0
 have hval : ∀ (j : Nat) t v, Tryd.f4.params[j]? = some t → args[j]? = some v → Value.okWide Tryd.prog W .any base t v := hval0
 have hG : GL W := table hL hshape
 have hW' := hW
 obtain ⟨p, q, hA0, hV, rfl, hfz, hnd⟩ := hW
 have hA : DataW.TrodAll enc Tryd.prog W 0 (fun _ => true) true Tryd.f4.params.toList args.toList ds p := hA0
 rw [Tryd.params4] at hA hval hsz
 obtain ⟨v0, vs0, d0, ds0, p0, q0, hargs, rfl, rfl, h0, r0⟩ := trodAll_cons hA
 obtain ⟨v1, vs1, d1, ds1, p1, q1, rfl, rfl, rfl, h1, r1⟩ := trodAll_cons r0
 obtain ⟨v2, vs2, d2, ds2, p2, q2, rfl, rfl, rfl, h2, r2⟩ := trodAll_cons r1
 obtain ⟨v3, vs3, d3, ds3, p3, q3, rfl, rfl, rfl, h3, r3⟩ := trodAll_cons r2
 obtain ⟨rfl, rfl, rfl⟩ := trodAll_nil r3
 obtain rfl : args = #[v0, v1, v2, v3] := by cases args; simp_all
 obtain ⟨rfl, rfl⟩ := trodVars_none hV
 have k0 := h0
 have lt0 : ∀ x ∈ p0, x.block < W.heap.size := by obtain ⟨m, hm⟩ := k0; exact DataW.trod_lt m _ _ _ hm
 have k1 := h1
 have lt1 : ∀ x ∈ p1, x.block < W.heap.size := by obtain ⟨m, hm⟩ := k1; exact DataW.trod_lt m _ _ _ hm
 have k2 := h2
 have lt2 : ∀ x ∈ p2, x.block < W.heap.size := by obtain ⟨m, hm⟩ := k2; exact DataW.trod_lt m _ _ _ hm
 have k3 := h3
 have lt3 : ∀ x ∈ p3, x.block < W.heap.size := by obtain ⟨m, hm⟩ := k3; exact DataW.trod_lt m _ _ _ hm
 obtain ⟨c0_0, c0_1, y0_0, y0_1, m0, rfl, rfl, rfl, hy0_0, hy0_1⟩ := open_agg2 Tryd.underlying28 (by kernel_rfl) cellsCls (hval 0 28 v0 rfl rfl) h0
 obtain ⟨a0_0, e0_0, rfl, w0_0⟩ := DataW.trod_string Tryd.underlying9 hy0_0
 obtain ⟨A0, len0, cap0, l0, e0_1, rfl, hr0, hc0⟩ := rows_strs Tryd.underlying26 Tryd.underlying9 cellsS hy0_1
 simp at e0_0 e0_1
 subst e0_0 e0_1
 obtain ⟨a1, rfl, rfl, rfl, y1⟩ := open_string Tryd.underlying9 (hval 1 9 v1 rfl rfl) h1
 have w1 : a1.size ≤ 140737488351232 := by
  have z := sized_string hsz (j := 1) (t := 9) rfl rfl
  rw [Array.length_toList] at z
  exact z
 obtain ⟨A2, len2, cap2, rfl⟩ := okWide_slice Tryd.underlying26 (hval 2 26 v2 rfl rfl)
 obtain ⟨l2, rfl, hr2, hc2⟩ : ∃ l : List ByteArray, len2 = l.length ∧ Kd.C Kd.string W A2 l.length l ∧ l.length ≤ cap2 := by
  obtain ⟨fuel, hf⟩ := h2
  obtain ⟨A, len, cap, l, hcs, e1, e2, e3⟩ := rows_strs Tryd.underlying26 Tryd.underlying9 cellsS hf
  simp [Value.cells] at hcs
  obtain ⟨rfl, rfl, rfl⟩ := hcs
  exact ⟨l, e1, e2, e3⟩
 obtain ⟨A3, len3, cap3, rfl⟩ := okWide_slice Tryd.underlying22 (hval 3 22 v3 rfl rfl)
 obtain ⟨z3, w3⟩ : ∃ zs, IsRow W A3 len3 cap3 zs := by
  obtain ⟨fuel, hf⟩ := h3
  rcases open_ints Tryd.underlying22 Tryd.underlying3 (by kernel_rfl) hf with ⟨hcs, _⟩ | ⟨x, l, c, zs, hcs, _, hl, hm, hz, _, hcell, hwz⟩
  ·simp [Value.cells] at hcs
   obtain ⟨rfl, rfl, rfl⟩ := hcs
   exact ⟨[], .inl ⟨rfl, rfl, rfl, rfl⟩⟩
  ·simp [Value.cells] at hcs
   obtain ⟨rfl, rfl, rfl⟩ := hcs
   exact ⟨zs, .inr ⟨_, rfl, hl, hm, by simpa using hz, hcell, hwz⟩⟩
 have y3 : len3 * 8 ≤ 140737488351232 := sized_ints hsz (j := 3) (t := 22) rfl rfl Tryd.underlying22 Tryd.underlying3 (by kernel_rfl) (by kernel_rfl) h3
 obtain ⟨l3, rfl, hr3, hm3, hw3, hc3⟩ := ReadsInt.ofRowC w3
 clear hA0 hval0 hsz0 hsz
 have hpure := pureClassificationCovers a0_0 l0 a1 l2 l3 w1 hm3 y3 hw3
 obtain ⟨k, hk⟩ := hpure
 refine (P.priceofficelaw06_ClassificationCovers.calls k a0_0 _ _ l0 a1 _ _ l2 _ _ l3 true W hr0 hc0 hr2 hc2 (Kd.C_of_reads (d := (0 : Int)) (h1 := fun _ => rfl) hr3) hc3 hG hk).mono fun e W' ⟨he, bel⟩ => ?_
 subst he
 exact ⟨_, rfl, _, _, _, [], _, [], hW', trodAll_mk1 (shut_bool Tryd.underlying4 _), (trodAll_cons_mk (Below.trod laidOut (by kernel_rfl) (of_decide_eq_true (by kernel_rfl)) k0 bel lt0) (trodAll_cons_mk (Below.trod laidOut (by kernel_rfl) (of_decide_eq_true (by kernel_rfl)) k1 bel lt1) (trodAll_cons_mk (Below.trod laidOut (by kernel_rfl) (of_decide_eq_true (by kernel_rfl)) k2 bel lt2) (trodAll_cons_mk (Below.trod laidOut (by kernel_rfl) (of_decide_eq_true (by kernel_rfl)) k3 bel lt3) trodAll_mk0)))), rfl, bel.frame _, fun h => by cases h⟩

theorem said : Rows.ClassificationCoversSaid :=
 OpenClaim.holds_of_cond 4 Tryd.f4 rfl rfl rfl rfl rfl rfl rfl ⟨rfl, rfl, rfl, rfl, rfl⟩ rfl rfl rfl rfl rfl (by kernel_rfl) Tryd.func4 (by kernel_rfl)
  (of_decide_eq_true (by kernel_rfl)) (by unfold Func.isWrapper; first | (rw [if_pos (by decide +kernel)]; kernel_rfl) | (rw [if_neg (by decide +kernel)]; exact ⟨rfl, rfl⟩))
  (fun os started H enc _ F => by rw [OpenClaim.pre_eq_preRow]; exact lifted os started H enc F)

theorem plain (f : FuncId) (fn : Func) (hf : Tryd.pinned.checked.prog.funcNamed "priceoffice/priceofficelaw06.ClassificationCovers" = some f) (hfn : Tryd.pinned.checked.prog.funcs[f]? = some fn) :
  true = Tryd.pinned.checked.prog.looks [] ∧ ∀ (j : Nat) t, fn.params[j]? = some t → Tryd.pinned.checked.prog.wantsStandIn t = false := by
 obtain rfl : f = 4 := Option.some.inj ((show Tryd.prog.funcNamed "priceoffice/priceofficelaw06.ClassificationCovers" = some 4 by kernel_rfl).symm.trans hf) |>.symm
 obtain rfl : fn = Tryd.f4 := (Option.some.inj (Tryd.func4.symm.trans hfn)).symm
 refine ⟨by kernel_rfl, fun j t ht => ?_⟩
 rw [Tryd.params4] at ht
 have hm : t ∈ [28, 9, 26, 22] := by simpa using Array.mem_of_getElem? ht
 have hall : ([28, 9, 26, 22].all fun u => !Tryd.prog.wantsStandIn u) = true := by kernel_rfl
 exact (show Tryd.prog.wantsStandIn t = false by simpa using List.all_eq_true.1 hall t hm)

theorem card : Rows.ClassificationCoversCardSaid :=
 Claim7.holds_tied_plain_at .later [] _ _ _ _ said (fun _ h => by cases h) (by kernel_rfl) (fun _ h => by cases h) classificationCovers_row_tie rfl ⟨rfl, rfl⟩ (by kernel_rfl) rfl plain (by kernel_rfl)
end Go.Proofs.YtpnoliognpmkmaaDoor.classificationCovers
namespace Go.Proofs.YtpnoliognpmkmaaDoor
theorem classificationCovers_holds : Rows.ClassificationCoversCardSaid := classificationCovers.card
#print axioms classificationCovers_holds
end Go.Proofs.YtpnoliognpmkmaaDoor
