/- Contracts of strconv.Itoa and strings.Join in the form in which the printed texts ask for them. -/
import Derived.Test.YtpbkdbicdimfhaaDoorVMore
import Derived.Test.YtpbkdbicdimfhaaDoorShelf
import Derived.Test.YtpbkdbicdimfhaaDoorG
import Derived.Lib.AppendIntMem
namespace Go.Proofs.YtpbkdbicdimfhaaDoor
set_option linter.unusedVariables false
open Go.RowKit Go.Proofs.YtpbkdbicdimfhaaDoorW.PrintWords

theorem spot_none {w : World} {ad : Addr} {v : Value} (h : w.cell? ad = some v) : ad = ⟨ad.block, ad.off, none⟩ := by
  obtain ⟨b, o, s⟩ := ad
  cases s with
  | none => rfl
  | some x =>
    unfold World.cell? at h
    split at h <;> simp at h

theorem C_strs {w : World} {A : Option Addr} {l : List ByteArray} (h : Kd.C Kd.string w A l.length l) (h0 : 0 < l.length) :
    ∃ b o, A = some ⟨b, o, none⟩ ∧ b < w.heap.size ∧ ∀ (j : Nat) x, l[j]? = some x → w.cell? ⟨b, o + j, none⟩ = some (.string x) := by
  obtain ⟨_, _, h⟩ := h
  obtain ⟨ad, rfl, hc⟩ := h h0
  have hc2 : ∀ (j : Nat) x, l[j]? = some x → w.cell? (ad.add j) = some (.string x) := by
    intro j x hx
    obtain ⟨c, hl, rfl, hu⟩ := hc j x hx
    have := hu 0 _ rfl
    rw [show j * Kd.string.sz + 0 = j from Nat.mul_one j] at this
    exact this
  have h1 := hc2 0 (l[0]'h0) (by simp)
  have e : ad.add 0 = ad := by unfold Addr.add; rw [if_pos rfl]
  rw [e] at h1
  have es := spot_none h1
  refine ⟨ad.block, ad.off, by rw [← es], cell_lt h1, fun j x hx => ?_⟩
  have h2 := hc2 j x hx
  unfold Addr.add at h2
  split at h2
  · rename_i hj
    subst hj
    rw [es] at h2
    exact h2
  · exact h2

def joinB (l : List ByteArray) (s : ByteArray) : ByteArray := ⟨(Lib.join (l.map (·.data.toList)) s.data.toList).toArray⟩
theorem join_any (A : Option Addr) (c : Nat) (l : List ByteArray) (s : ByteArray) (w : World) (hr : Kd.C Kd.string w A l.length l) (hc : l.length ≤ c) (h0 : 0 < l.length)
    (h1 : l.length ≤ 140737488355328) (h2 : (Lib.join (l.map (·.data.toList)) s.data.toList).length ≤ 140737488355328) :
    Calls Tryd.prog 63 #[.slice A l.length c, .string s] w fun e w' => e = .returned (.string (joinB l s)) ∧ Below w.heap.size w w' := by
  obtain ⟨b, o, rfl, hb, hcell⟩ := C_strs hr h0
  exact Tryd.strings_Join b o c l s w hcell hb h1 hc h2

def itoaB (n : Int) : ByteArray := ⟨(Lib.itoa n).toArray⟩
theorem itoa_any (n : Int) (h0 : -9223372036854775808 ≤ n) (h1 : n ≤ 9223372036854775807) (w : World) (hG : GT w) :
    Calls Tryd.prog 62 #[.int .i64 n] w fun e w' => e = .returned (.string (itoaB n)) ∧ Below w.heap.size w w' :=
  (Tryd.strconv_Itoa n h0 h1 w hG).mono fun e w' ⟨he, k, os, hw⟩ => ⟨he, hw ▸ Lib.below_grow _ w (Nat.le_refl _) k os⟩
end Go.Proofs.YtpbkdbicdimfhaaDoor
