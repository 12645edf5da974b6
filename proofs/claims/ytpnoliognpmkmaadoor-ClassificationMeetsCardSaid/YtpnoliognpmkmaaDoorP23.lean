/- Lean functions with the same answers as the program's Go functions, and for each the proof that the call comes to these answers; written by a program of mine out of the translation, the functions marked 'by hand' by me. -/
import Derived.Test.YtpnoliognpmkmaaDoorP0
import Derived.Test.YtpnoliognpmkmaaDoorP9
import Derived.Test.YtpnoliognpmkmaaDoorP22
namespace Go.Proofs.YtpnoliognpmkmaaDoor.P
open Go.RowKit Go.Proofs.YtpnoliognpmkmaaDoorW.PrintWords Go.Proofs.YtpnoliognpmkmaaDoorW.PrintLast Go.Proofs.YtpnoliognpmkmaaDoorW.PrintMore
attribute [local go_sem] max2_int min2_int max_two min_two max_three min_three max_four min_four   -- for this text's walks alone
set_option linter.unusedVariables false
set_option linter.unusedSimpArgs false

/-! ### classification_Common: function 44 (by hand) -/

section
open Go.RowKit Go.Shelf Go.Proofs.YtpnoliognpmkmaaDoorW.PrintWords
attribute [local go_sem] Oper.semAt_some

def classification_Common.l0 (k : Nat) (b : ByteArray) : List ByteArray → Option ByteArray
  | [] => some ⟨#[]⟩
  | c :: r => (classification_Within.f k b c).bind fun t => if t = true then some c else classification_Common.l0 k b r
def classification_Common.f (k : Nat) (a b : ByteArray) : Option ByteArray := (classification_Path.f k a).bind fun p => if p.length ≤ 1000000 ∧ ∀ c ∈ p, (classification_Within.f k b c).isSome = true then classification_Common.l0 k b p.reverse else none
theorem classification_Common.some_mono (k : Nat) (b c : ByteArray) (h : (classification_Within.f k b c).isSome = true) : classification_Within.f (k + 1) b c = classification_Within.f k b c := by
  obtain ⟨t, ht⟩ := Option.isSome_iff_exists.1 h
  rw [ht]
  exact classification_Within.mono b c k t ht
theorem classification_Common.l0_mono (k : Nat) (b : ByteArray) : ∀ l : List ByteArray, (∀ c ∈ l, (classification_Within.f k b c).isSome = true) → classification_Common.l0 (k + 1) b l = classification_Common.l0 k b l
  | [], _ => rfl
  | c :: l, h => by
    simp only [classification_Common.l0]
    rw [classification_Common.some_mono k b c (h c (by simp)), classification_Common.l0_mono k b l fun x hx => h x (List.mem_cons_of_mem _ hx)]
theorem classification_Common.mono (a b : ByteArray) (k : Nat) : LeO (classification_Common.f k a b) (classification_Common.f (k + 1) a b) := by
  intro r h
  unfold classification_Common.f at h ⊢
  obtain ⟨p, hp, h⟩ := Option.bind_eq_some_iff.1 h
  rw [classification_Path.mono a k p hp]
  simp only [Option.bind_some]
  split at h
  · rename_i c
    have c2 : ∀ x ∈ p, (classification_Within.f (k + 1) b x).isSome = true := fun x hx => by rw [classification_Common.some_mono k b x (c.2 x hx)]; exact c.2 x hx
    rw [if_pos ⟨c.1, c2⟩, classification_Common.l0_mono k b _ fun x hx => c.2 x (List.mem_reverse.1 hx)]
    exact h
  · exact absurd h (by simp)
theorem classification_Common.none_in (k : Nat) (b : ByteArray) : ∀ l : List ByteArray, (∀ c ∈ l, classification_Within.f k b c = some false) → classification_Common.l0 k b l = some ⟨#[]⟩
  | [], _ => rfl
  | c :: l, h => by
    simp only [classification_Common.l0]
    rw [h c (by simp)]
    simp only [Option.bind_some]
    rw [if_neg (by decide), classification_Common.none_in k b l fun x hx => h x (List.mem_cons_of_mem _ hx)]
theorem classification_Common.one_in (k : Nat) (b c : ByteArray) (hc : classification_Within.f k b c = some true) (r : List ByteArray) : ∀ l : List ByteArray, (∀ c ∈ l, classification_Within.f k b c = some false) → classification_Common.l0 k b (l ++ c :: r) = some c
  | [], _ => by
    simp only [List.nil_append, classification_Common.l0]
    rw [hc]
    rfl
  | x :: l, h => by
    simp only [List.cons_append, classification_Common.l0]
    rw [h x (by simp)]
    simp only [Option.bind_some]
    rw [if_neg (by decide), classification_Common.one_in k b c hc r l fun x hx => h x (List.mem_cons_of_mem _ hx)]
theorem upto_back (zs : List ByteArray) : ∀ k, k ≤ zs.length → (upto (bwAt zs zs.length) k).map (fun x => x.2) = zs.reverse.take k := by
  intro k
  induction k with
  | zero => intro _; rfl
  | succ k ih =>
    intro hk
    rw [upto_succ, List.map_append, ih (by omega), List.take_succ_eq_append_getElem (by rw [List.length_reverse]; omega)]
    congr 1
    simp only [List.map_cons, List.map_nil, bwAt, List.getElem_reverse]
    rw [List.getElem?_eq_getElem (by omega)]
    rfl
/-- a row of strings as the iterator reads it -/
theorem strs_of_R {w : World} {base : Nat} {ok : Nat → Prop} {v : Value} {l : List ByteArray} (h : Kd.R Kd.string 9 w base ok v l) : ∃ A c, v = .slice A l.length c ∧ Strs w.heap.size w (.slice A l.length c) l := by
  obtain ⟨A, c, rfl, hc, hC⟩ := Kd.R_reads h
  refine ⟨A, c, rfl, ?_⟩
  by_cases h0 : 0 < l.length
  · obtain ⟨b, o, rfl, hb, hcell⟩ := C_strs hC h0
    refine .inr ⟨b, o, c, rfl, hb, fun j hj => ?_⟩
    rw [hcell j l[j] (by simp [hj])]
    simp [hj]
  · have : l = [] := by cases l with | nil => rfl | cons _ _ => simp at h0
    subst this
    obtain ⟨_, inner, ho, _⟩ := h
    obtain ⟨_, ho⟩ := ho
    rcases ho with ⟨e, _⟩ | ⟨g, cap, cur, e, _, hg, _⟩
    · exact .inl ⟨e, rfl⟩
    · exact .inr ⟨g, 0, cap, e, (Array.getElem?_eq_some_iff.1 hg).1, fun j hj => absurd hj (by simp)⟩
theorem cell_new_l (W : World) (v : Value) (t : TypeId) : (W.alloc (.cells #[v] t)).cell? ⟨W.heap.size, 0, none⟩ = some v := (Boxed.new W t v).cell
theorem cell_alloc_l {W : World} {a : Addr} {v : Value} (o : Obj) (h : W.cell? a = some v) : (W.alloc o).cell? a = some v := ((Below.refl W.heap.size W).alloc (Nat.le_refl _) o |>.cell (cell_lt h)).trans h
theorem frozen_alloc_l {W : World} {a : Addr} {v : Value} (o : Obj) (h : W.cell? a = some v) (hf : W.frozen? a = false) : (W.alloc o).frozen? a = false := ((Below.refl W.heap.size W).alloc (Nat.le_refl _) o |>.frozen (cell_lt h)).trans hf
theorem keepsFrom_below {B : Nat} {W W' : World} (h : Below W.heap.size W W') : KeepsFrom B W W' := ⟨h.size, fun k o _ hk _ => (h.block k (Array.getElem?_eq_some_iff.1 hk).1).trans hk⟩
set_option maxRecDepth 100000 in
set_option maxHeartbeats 2000000 in
theorem classification_Common.calls (k : Nat) (a b : ByteArray) (r : ByteArray) (w : World) (hG : GL w) (h : classification_Common.f k a b = some r) :
    Calls Tryd.prog 44 #[.string a, .string b] w fun e w' => e = .returned (.string r) ∧ Below w.heap.size w w' := by
  obtain ⟨p, hp, h⟩ := Option.bind_eq_some_iff.1 h
  by_cases hc : p.length ≤ 1000000 ∧ ∀ c ∈ p, (classification_Within.f k b c).isSome = true
  case neg => rw [if_neg hc] at h; exact absurd h (by simp)
  rw [if_pos hc] at h
  have HW := Lib.hid hc.2
  have hreach := hc.1
  have HR := Lib.hid h
  clear hc h
  refine (callsIn_wide (n := 5)).1 ?_
  refine callsIn_of_wp_marks Tryd.func44 rfl trivial ?_ rfl
  simp only [Tryd.ntmps44, List.size_toArray, List.length_cons, List.length_nil, Nat.reduceAdd, Nat.reduceSub, Array.replicate_succ, Array.replicate_zero, List.push_toArray, List.append_toArray, List.nil_append, List.cons_append]
  have hB0 : Below w.heap.size w ((w.alloc (.cells #[.string b] 9)).alloc (.cells #[.string ⟨#[]⟩] 9)) := ((Below.refl _ w).alloc (Nat.le_refl _) _).alloc (by simp) _
  gi_wp2_with (first | (refine ⟨trivial, ?_⟩; gi_at_call 31; refine (callsIn_wide.2 (classification_Path.calls k a p _ (hG.below hB0) hp)).mono ?_; rintro e w1 ⟨v0, rfl, hR, hB1⟩; obtain ⟨A, c, rfl, hS⟩ := strs_of_R hR) | (refine ⟨trivial, ?_⟩; gi_at_call 68; refine (bw_in Fence.wide 4 trivial rfl A p.length c _).mono ?_; rintro e w2 ⟨rfl, rfl⟩))
  obtain ⟨W0, hW0⟩ : ∃ W0, w1.alloc (.cells #[.slice A p.length c] 26) = W0 := ⟨_, rfl⟩
  have hz1 : w.heap.size + 2 ≤ w1.heap.size := by have := hB1.size; simp at this; omega
  have hz0 : W0.heap.size = w1.heap.size + 1 := by rw [← hW0]; simp
  have bB := Boxed.new w 9 (.string b)
  have bR := Boxed.new (w.alloc (.cells #[.string b] 9)) 9 (.string ⟨#[]⟩)
  rw [World.size_alloc] at bR
  have hB01 : Below w.heap.size w w1 := hB0.trans (hB1.mono (by simp; omega))
  have hB00 : Below w.heap.size w W0 := by rw [← hW0]; exact hB01.alloc (by omega) _
  have hcb : W0.cell? ⟨w.heap.size, 0, none⟩ = some (.string b) := by
    rw [← hW0]
    exact cell_alloc_l _ ((hB1.cell (p := ⟨w.heap.size, 0, none⟩) (by simp; omega)).trans (bB.alloc _).cell)
  have hcr : W0.cell? ⟨w.heap.size + 1, 0, none⟩ = some (.string ⟨#[]⟩) := by
    rw [← hW0]
    exact cell_alloc_l _ ((hB1.cell (p := ⟨w.heap.size + 1, 0, none⟩) (by simp)).trans bR.cell)
  have hfr : W0.frozen? ⟨w.heap.size + 1, 0, none⟩ = false := by
    rw [← hW0]
    exact frozen_alloc_l _ ((hB1.cell (p := ⟨w.heap.size + 1, 0, none⟩) (by simp)).trans bR.cell) ((hB1.frozen (p := ⟨w.heap.size + 1, 0, none⟩) (by simp)).trans bR.frozen)
  have hcN : W0.cell? ⟨w1.heap.size, 0, none⟩ = some (.slice A p.length c) := by rw [← hW0]; exact cell_new_l w1 _ 26
  have hS2 : Strs W0.heap.size W0 (.slice A p.length c) p := by
    rw [← hW0]
    rcases hS with hS | ⟨b', off, cap, e, hlt, hcs⟩
    · exact .inl hS
    · exact .inr ⟨b', off, cap, e, by simp; omega, fun j hj => cell_alloc_l _ (hcs j hj)⟩
  clear hS hR hB1 hB01 bB bR hB0
  rw [hW0]
  refine wpIn_rangeFunc_ownG rfl (by omega) (gf := 79) (lb := #[.pointer (some ⟨w1.heap.size, 0, none⟩)]) rfl trivial (enters_of Tryd.func79 (by kernel_rfl) rfl)
    (bw_stops Fence.wide 4 trivial rfl (by omega) w1.heap.size W0.heap.size _ p hreach _ (by omega) (Nat.le_refl _) hcN hS2) belowK_t (belowK_b (Nat.le_refl _)) (Below.refl _ _) (fun _ => rfl)
    (fun pre W => (Hid (∀ x ∈ pre, classification_Within.f k b x.1.2 = some false) ∧ W.cell? ⟨w.heap.size, 0, none⟩ = some (.string b) ∧ W.cell? ⟨w.heap.size + 1, 0, none⟩ = some (.string ⟨#[]⟩) ∧ W.frozen? ⟨w.heap.size + 1, 0, none⟩ = false) ∧ Below W0.heap.size W0 W)
    (fun c pre W => (c = .ret ∧ ∃ ini last, pre = ini ++ [last] ∧ Hid (∀ x ∈ ini, classification_Within.f k b x.1.2 = some false) ∧ Hid (classification_Within.f k b last.1.2 = some true) ∧ W.cell? ⟨w.heap.size + 1, 0, none⟩ = some (.string last.1.2)) ∧ Below w.heap.size w W)
    (OwnFrom.and (Own.from (fun s A B row hs hg hr => ⟨hs.1, cell_kept hs.2.1 hg hr, cell_kept hs.2.2.1 hg hr, (frozen_kept hs.2.2.1 hg hr).trans hs.2.2.2⟩) _) (ownFrom_below (Nat.le_refl _) (Nat.le_refl _)))
    (fun c => OwnFrom.and (Own.from (fun s A B row hs hg hr => by obtain ⟨hc, ini, last, e1, e2, e3, e4⟩ := hs; exact ⟨hc, ini, last, e1, e2, e3, cell_kept e4 hg hr⟩) _) (ownFrom_below (Nat.le_refl _) (by omega)))
    ⟨⟨Lib.hid (by simp), hcb, hcr, hfr⟩, Below.refl _ _⟩
    (fun x => { tmps := #[.string a, .string b, undef, .pointer (some ⟨w.heap.size, 0, none⟩), .pointer (some ⟨w.heap.size + 1, 0, none⟩), undef, .string x.1.2, .string a, .slice A p.length c, .func (.func 79) #[] #[.pointer (some ⟨w1.heap.size, 0, none⟩)], .int .i64 x.1.1, .string x.1.2, undef, undef, undef, undef], defers := [] }) ?assign ?body ?done ?stop
  case assign =>
    intro l x W K hK
    gi_wp2
    exact hK
  case body =>
    rintro l pre x W ⟨⟨hp', hcb', hcr', hfr'⟩, hBW⟩ _
    have hB := hB00.trans (hBW.mono hB00.size)
    obtain ⟨t, ht⟩ := Option.isSome_iff_exists.1 (HW.out x.1.2 x.2)
    have HT := Lib.hid ht
    clear ht
    cases t with
    | true =>
      gi_wp2_with (refine ⟨trivial, ?_⟩; gi_at_call 42; refine (CallsIn.inRound l (callsIn_wide.2 (classification_Within.calls k b x.1.2 _ _ (hG.below hB) HT.out))).mono ?_; rintro e w2 ⟨rfl, hb2⟩; have hcr2 := (hb2.cell (p := ⟨w.heap.size + 1, 0, none⟩) (cell_lt hcr')).trans hcr'; have hfr2 := (hb2.frozen (p := ⟨w.heap.size + 1, 0, none⟩) (cell_lt hcr')).trans hfr')
      exact ⟨(keepsFrom_below hb2).trans ((KeepsOthers.setCell _ _ _).from _), ⟨rfl, pre, x, rfl, hp', HT, World.cell?_setCell_same' _ _ _ (by rw [hcr2]; rfl)⟩, (hB.trans (hb2.mono hB.size)).setCell (p := ⟨w.heap.size + 1, 0, none⟩) (by simp) _⟩
    | false =>
      gi_wp2_with (refine ⟨trivial, ?_⟩; gi_at_call 42; refine (CallsIn.inRound l (callsIn_wide.2 (classification_Within.calls k b x.1.2 _ _ (hG.below hB) HT.out))).mono ?_; rintro e w2 ⟨rfl, hb2⟩; have hcr2 := (hb2.cell (p := ⟨w.heap.size + 1, 0, none⟩) (cell_lt hcr')).trans hcr'; have hfr2 := (hb2.frozen (p := ⟨w.heap.size + 1, 0, none⟩) (cell_lt hcr')).trans hfr')
      exact ⟨keepsFrom_below hb2, hb2.mono hBW.size, ⟨Lib.hid (fun y hy => (List.mem_append.1 hy).elim (hp'.out y) (fun e => by simp at e; subst e; exact HT.out)), (hb2.cell (p := ⟨w.heap.size, 0, none⟩) (cell_lt hcb')).trans hcb', hcr2, hfr2⟩, hBW.trans (hb2.mono hBW.size)⟩
  case done =>
    rintro D ys W hD hys ⟨⟨hne, hcb', hcr', hfr'⟩, hBW⟩ hK
    have hB := hB00.trans (hBW.mono hB00.size)
    gi_wp2
    have hK' := (KeepsOthers.setCell W ⟨w.heap.size + 1, 0, none⟩ (.string ⟨#[]⟩)).same D _ hK rfl
    refine ⟨by simp, .inl ⟨_, _, rfl, run_takeDeferred hK', ?_⟩⟩
    have hc5 := cell_kept (World.cell?_setCell_same' W ⟨w.heap.size + 1, 0, none⟩ (.string ⟨#[]⟩) (by rw [hcr']; rfl)) (grownBy_putObj' _ D (.deferred none)) (fun r e => by cases e; exact ⟨_, hK', rfl⟩)
    have hall : ∀ c ∈ p.reverse, classification_Within.f k b c = some false := fun c hc => by
      have e1 := upto_back p p.length (Nat.le_refl _)
      rw [← hys, List.map_map, List.take_of_length_le (by simp)] at e1
      rw [← e1] at hc
      obtain ⟨y, hy, rfl⟩ := List.mem_map.1 hc
      exact hne.out y hy
    have er := (classification_Common.none_in k b _ hall).symm.trans HR.out
    obtain rfl := Option.some.inj er
    refine ⟨.string ⟨#[]⟩, ?_, rfl, (hB.setCell (p := ⟨w.heap.size + 1, 0, none⟩) (by simp) _).trans (belowK_b (w := w) (Nat.le_refl _) _ D _ _ (by have := hB00.size; omega) hK' rfl rfl)⟩
    simp [results, Tryd.f44, go_sem, hc5]
  case stop =>
    rintro D c pre W hD ⟨j, hj, hpre⟩ ⟨⟨rfl, ini, last, e1, e2, e3, hcr'⟩, hB⟩ hK
    gi_wp2
    refine ⟨by simp, .inl ⟨_, _, rfl, run_takeDeferred hK, ?_⟩⟩
    have hc5 := cell_kept hcr' (grownBy_putObj' _ D (.deferred none)) (fun r e => by cases e; exact ⟨_, hK, rfl⟩)
    have e4 := upto_back p j hj
    rw [← hpre, List.map_map, e1, List.map_append] at e4
    have e5 : p.reverse = (ini.map ((fun x => x.2) ∘ fun x => x.1)) ++ last.1.2 :: p.reverse.drop j := by
      conv => lhs; rw [← List.take_append_drop j p.reverse, ← e4]
      simp
    have er := (classification_Common.one_in k b last.1.2 e3.out (p.reverse.drop j) _ (fun c hc => by obtain ⟨y, hy, rfl⟩ := List.mem_map.1 hc; exact e2.out y hy)).symm.trans (e5 ▸ HR.out)
    obtain rfl := Option.some.inj er
    refine ⟨.string last.1.2, ?_, rfl, hB.trans (belowK_b (w := w) (Nat.le_refl _) W D _ _ (by have := hB00.size; omega) hK rfl rfl)⟩
    simp [results, Tryd.f44, go_sem, hc5]
end

end Go.Proofs.YtpnoliognpmkmaaDoor.P
