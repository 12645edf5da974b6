/- ClassificationCovers: a Lean function that answers true or nothing. -/
import Derived.Test.YtpnoliognpmkmaaDoorP3
import Derived.Test.YtpnoliognpmkmaaDoorP4
import Derived.Test.YtpnoliognpmkmaaDoorP13
import Derived.Test.YtpnoliognpmkmaaDoorP15
import Derived.Test.YtpnoliognpmkmaaDoorP31
import Derived.Test.YtpnoliognpmkmaaDoorP32
import Derived.Test.YtpnoliognpmkmaaDoorP33
namespace Go.Proofs.YtpnoliognpmkmaaDoor.P
open Go.RowKit Go.Proofs.YtpnoliognpmkmaaDoorW.PrintWords Go.Proofs.YtpnoliognpmkmaaDoorW.PrintLast Go.Proofs.YtpnoliognpmkmaaDoorW.PrintMore
attribute [local go_sem] max2_int min2_int max_two min_two max_three min_three max_four min_four   -- for this text's walks alone
set_option linter.unusedVariables false
set_option linter.unusedSimpArgs false
def priceofficelaw06_ClassificationCovers.l0 : Nat → ByteArray → List ByteArray → ByteArray → List ByteArray → List ByteArray → Int → Int → ByteArray → List ByteArray → List Int → Int → ByteArray → List ByteArray → Option (Bool)
 | 0, _, _, _, _, _, _, _, _, _, _, _, _, _ => none
 | k + 1, x1, x2, x11, x12, x33, x34, x35, x387000, x387001, x388000, x388001, x394000, x394001 => if x35 < x34 then (if 0 ≤ x35 then (if x35 < (x33.length : Int) then ((priceofficemake_Tape_Next.f x388000 x388001 2).bind fun bt404 => (if bt404.1 = 0 then (if x12.length < 8796093022208 then (priceofficelaw06_ClassificationCovers.l0 k x1 x2 x11 (x12 ++ [rdOf ByteArray.empty x33 x35]) x33 x34 (wrap64 (x35 + 1)) x387000 x387001 x388000 bt404.2 x394000 x394001) else (none)) else (priceofficelaw06_ClassificationCovers.l0 k x1 x2 x11 x12 x33 x34 (wrap64 (x35 + 1)) x387000 x387001 x388000 bt404.2 x394000 x394001))) else (none)) else (none)) else ((priceofficelaw06_raw.f k x387000 x387001).bind fun bt409 => ((priceofficelaw06_raw.f k (⟨#[]⟩ : ByteArray) x2).bind fun bt413 => (if 0 ≤ (mn (x1.size : Int) 20) then (if (mn (x1.size : Int) 20) ≤ (x1.size : Int) then ((classification_Cover.f k bt409.1 bt409.2 (x1.extract 0 ((mn (x1.size : Int) 20) : Int).toNat) bt413.2).bind fun t417 => ((priceofficeref06_Cover.f k bt409.1 bt409.2 (x1.extract 0 ((mn (x1.size : Int) 20) : Int).toNat) bt413.2).bind fun t418 => (if (t417 == t418) = true then ((classification_Cover.f k x394000 x394001 x11 x12).bind fun t419 => ((priceofficeref06_Cover.f k x394000 x394001 x11 x12).bind fun t420 => (if (t419 == t420) = true then ((priceofficeref06_Leaves.f k x394000 x394001 x11).bind fun t421 => ((classification_Cover.f k x394000 x394001 x11 t421).bind fun t424 => (if t424 = true then ((priceofficeref06_Children.f k x394000 x394001 (⟨#[]⟩ : ByteArray)).bind fun t425 => ((classification_Cover.f k x394000 x394001 (⟨#[]⟩ : ByteArray) t425).bind fun t428 => (if t428 = true then ((priceofficelaw06_awake.f k).bind fun t429 => (some t429)) else (none)))) else (none)))) else (none)))) else (none)))) else (none)) else (none))))
def priceofficelaw06_ClassificationCovers.f (k : Nat) (a0_0 : ByteArray) (l0_1 : List ByteArray) (a1 : ByteArray) (l2 : List ByteArray) (l3 : List Int) : Option (Bool) := (priceofficemake_Tape_Tree.f k l3 0).bind fun bt388 => ((some (([(⟨#[]⟩ : ByteArray)] : List ByteArray) : List ByteArray)).bind fun y394 => (if y394.length + bt388.2.1.length < 8796093022208 then ((some (y394 ++ bt388.2.1 : List ByteArray)).bind fun y397 => ((priceofficemake_Tape_Next.f l3 bt388.2.2 (wrap64 ((bt388.2.1.length : Int) + 1))).bind fun bt400 => (if 0 ≤ bt400.1 then (if bt400.1 < (y397.length : Int) then (priceofficelaw06_ClassificationCovers.l0 k a1 l2 (rdOf ByteArray.empty y397 bt400.1) ([] : List ByteArray) bt388.2.1 (bt388.2.1.length : Int) 0 a0_0 l0_1 l3 bt400.2 bt388.1 bt388.2.1) else (none)) else (none)))) else (none)))
theorem priceofficelaw06_ClassificationCovers.mono_l : ∀ k, (∀ y0 y1 y2 y3 y4 y5 y6 y7 y8 y9 y10 y11 y12, LeO (priceofficelaw06_ClassificationCovers.l0 k y0 y1 y2 y3 y4 y5 y6 y7 y8 y9 y10 y11 y12) (priceofficelaw06_ClassificationCovers.l0 (k + 1) y0 y1 y2 y3 y4 y5 y6 y7 y8 y9 y10 y11 y12))
 | 0 => fun _ _ _ _ _ _ _ _ _ _ _ _ _ r h => by simp [priceofficelaw06_ClassificationCovers.l0] at h
 | k + 1 => by
  have ih0 := priceofficelaw06_ClassificationCovers.mono_l k
  ·intro y0 y1 y2 y3 y4 y5 y6 y7 y8 y9 y10 y11 y12
   unfold priceofficelaw06_ClassificationCovers.l0
   repeat' first
   | (with_reducible exact ih0 _ _ _ _ _ _ _ _ _ _ _ _ _)
   | (with_reducible exact classification_Cover.mono _ _ _ _ _)
   | (with_reducible exact priceofficelaw06_awake.mono _)
   | (with_reducible exact priceofficelaw06_raw.mono _ _ _)
   | (with_reducible exact priceofficemake_Tape_Tree.mono _ _ _)
   | (with_reducible exact priceofficeref06_Children.mono _ _ _ _)
   | (with_reducible exact priceofficeref06_Cover.mono _ _ _ _ _)
   | (with_reducible exact priceofficeref06_Leaves.mono _ _ _ _)
   | (with_reducible exact LeO.refl _)
   | (with_reducible exact LeO.none _)
   | (with_reducible refine LeO.ite ?_ ?_)
   | (with_reducible refine LeO.bind ?_ (fun _ => ?_))
   | exact ih0 _ _ _ _ _ _ _ _ _ _ _ _ _
   | exact classification_Cover.mono _ _ _ _ _
   | exact priceofficelaw06_awake.mono _
   | exact priceofficelaw06_raw.mono _ _ _
   | exact priceofficemake_Tape_Tree.mono _ _ _
   | exact priceofficeref06_Children.mono _ _ _ _
   | exact priceofficeref06_Cover.mono _ _ _ _ _
   | exact priceofficeref06_Leaves.mono _ _ _ _
   | exact LeO.none _
   | refine LeO.ite ?_ ?_
   | refine LeO.bind ?_ (fun _ => ?_)
theorem priceofficelaw06_ClassificationCovers.mono : ∀ a0 a1 a2 a3 a4 k, LeO (priceofficelaw06_ClassificationCovers.f k a0 a1 a2 a3 a4) (priceofficelaw06_ClassificationCovers.f (k + 1) a0 a1 a2 a3 a4) := by
 intro a0 a1 a2 a3 a4 k
 have ih0 := priceofficelaw06_ClassificationCovers.mono_l k
 unfold priceofficelaw06_ClassificationCovers.f
 repeat' first
   | (with_reducible exact ih0 _ _ _ _ _ _ _ _ _ _ _ _ _)
   | (with_reducible exact classification_Cover.mono _ _ _ _ _)
   | (with_reducible exact priceofficelaw06_awake.mono _)
   | (with_reducible exact priceofficelaw06_raw.mono _ _ _)
   | (with_reducible exact priceofficemake_Tape_Tree.mono _ _ _)
   | (with_reducible exact priceofficeref06_Children.mono _ _ _ _)
   | (with_reducible exact priceofficeref06_Cover.mono _ _ _ _ _)
   | (with_reducible exact priceofficeref06_Leaves.mono _ _ _ _)
   | (with_reducible exact LeO.refl _)
   | (with_reducible exact LeO.none _)
   | (with_reducible refine LeO.ite ?_ ?_)
   | (with_reducible refine LeO.bind ?_ (fun _ => ?_))
   | exact ih0 _ _ _ _ _ _ _ _ _ _ _ _ _
   | exact classification_Cover.mono _ _ _ _ _
   | exact priceofficelaw06_awake.mono _
   | exact priceofficelaw06_raw.mono _ _ _
   | exact priceofficemake_Tape_Tree.mono _ _ _
   | exact priceofficeref06_Children.mono _ _ _ _
   | exact priceofficeref06_Cover.mono _ _ _ _ _
   | exact priceofficeref06_Leaves.mono _ _ _ _
   | exact LeO.none _
   | refine LeO.ite ?_ ?_
   | refine LeO.bind ?_ (fun _ => ?_)
end Go.Proofs.YtpnoliognpmkmaaDoor.P
