/- strings.SplitN at "-" and 3: the words of a text. -/
import Derived.Test.YtpbkdbicdimfhaaDoorF2
import Derived.Test.YtpbkdbicdimfhaaDoorF1
import Derived.Lib.Hide
import Derived.WalkKit
namespace Go.Proofs.YtpbkdbicdimfhaaDoor
open Go.RowKit Go.Proofs.YtpbkdbicdimfhaaDoorW.PrintWords
set_option linter.unusedVariables false

def words (s : ByteArray) : List ByteArray := Lib.splitB (⟨#[45]⟩ : ByteArray) 0 (min 3 (s.size + 1) - 1) s
theorem words_len (s : ByteArray) : (words s).length ≤ 3 := by
  have := Lib.splitB_length_le (⟨#[45]⟩ : ByteArray) 0 (min 3 (s.size + 1) - 1) s
  unfold words
  omega
def SplitPost (w : World) (l : List ByteArray) (e : Ending) (w' : World) : Prop :=
  ∃ c b, e = .returned (.slice (some ⟨b, 0, none⟩) l.length c) ∧ w.heap.size ≤ b ∧ Below w.heap.size w w' ∧ b < w'.heap.size ∧ ∀ (j : Nat) x, l[j]? = some x → w'.cell? ⟨b, j, none⟩ = some (.string x)
theorem splitn_any (s : ByteArray) (hs : s.size < 4294967281) (w : World) (hG : GL w) : Calls Tryd.prog 57 #[.string s, .string ⟨#[45]⟩, .int .i64 3] w (SplitPost w (words s)) := by
  obtain ⟨m, hm⟩ := hG.cell
  refine (Tryd.strings_SplitN s ⟨#[45]⟩ 3 m w hs hm (by decide) (by omega) (by omega)).mono fun e w' ⟨he, hw⟩ => ?_
  refine ⟨_, _, he, Nat.le_refl _, hw ▸ (Below.refl _ _).alloc (Nat.le_refl _) _, by rw [hw]; simp, fun j x hx => ?_⟩
  rw [hw]
  have hj : j < (words s).length := (List.getElem?_eq_some_iff.1 hx).1
  have : (Lib.cellsOf (words s) (min 3 (s.size + 1)))[j]? = some (.string x) := by
    unfold Lib.cellsOf
    have e2 := (List.getElem?_eq_some_iff.1 hx).2
    simp [List.getElem?_append, hj, e2]
  exact (blk_cell (blk_new w _) j).trans this
end Go.Proofs.YtpbkdbicdimfhaaDoor
