/- What the contracts ask of the package-level variables (the table of powers of ten; the two sentinel errors of strconv; a cell of internal/bytealg), and that it stays as the world grows. -/
import Derived.Test.YtpnoliognpmkmaaDoorProg
import Derived.WalkKit
import Derived.WalkSmall
import Derived.Lib.ItoaNum
import Derived.Lib.LaidTab
namespace Go.Proofs.YtpnoliognpmkmaaDoor
open Go.RowKit

theorem gPow : Tryd.prog.globalNamed "internal/strconv.uint64pow10" = some 3 := by kernel_rfl
theorem gSyn : Tryd.prog.globalNamed "strconv.ErrSyntax" = some 1 := by kernel_rfl
theorem gRan : Tryd.prog.globalNamed "strconv.ErrRange" = some 2 := by kernel_rfl

/-- The table of powers of ten reads as Go lays it. -/
def GT (w : World) : Prop := Lib.TabIs Tryd.prog w "internal/strconv.uint64pow10" .u64 Lib.pow10Tab
theorem var_lt {P : Program} {w : World} {n : String} {g : Nat} {cs : Array Value} (hg : P.globalNamed n = some g) (h : w.var? P n = some cs) : g < w.heap.size := by
  rcases Nat.lt_or_ge g w.heap.size with hlt | hge
  · exact hlt
  · unfold World.var? at h
    rw [hg] at h
    simp [Array.getElem?_eq_none hge] at h
theorem GT.below {w w' : World} (h : GT w) (hb : Below w.heap.size w w') : GT w' := var?_below hb gPow (var_lt gPow h) h
theorem cell_lt {w : World} {p : Addr} {v : Value} (h : w.cell? p = some v) : p.block < w.heap.size := by
  rcases Nat.lt_or_ge p.block w.heap.size with hlt | hge
  · exact hlt
  · unfold World.cell? at h
    simp [Array.getElem?_eq_none hge] at h
/-- .. and the errors and the cell, too. -/
structure GL (w : World) : Prop where
  gt : GT w
  cell : ∃ m, w.cell? ⟨0, 0, none⟩ = some (.int .i64 m)
  syn : ∃ tp p, w.var? Tryd.prog "strconv.ErrSyntax" = some #[.iface tp p]
  ran : ∃ tp p, w.var? Tryd.prog "strconv.ErrRange" = some #[.iface tp p]
theorem GL.below {w w' : World} (h : GL w) (hb : Below w.heap.size w w') : GL w' where
  gt := h.gt.below hb
  cell := by
    obtain ⟨m, hm⟩ := h.cell
    have hl : 0 < w.heap.size := cell_lt hm
    exact ⟨m, (hb.cell (p := ⟨0, 0, none⟩) hl).trans hm⟩
  syn := by
    obtain ⟨tp, p, hv⟩ := h.syn
    exact ⟨tp, p, var?_below hb gSyn (var_lt gSyn hv) hv⟩
  ran := by
    obtain ⟨tp, p, hv⟩ := h.ran
    exact ⟨tp, p, var?_below hb gRan (var_lt gRan hv) hv⟩
end Go.Proofs.YtpnoliognpmkmaaDoor
