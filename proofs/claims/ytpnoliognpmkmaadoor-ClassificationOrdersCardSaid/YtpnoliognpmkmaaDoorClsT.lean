/- Lists of parts: prefixes and the order; trees of codes as rising lists: children, leaves, and how the leaves divide. Plain Lean. -/
import Derived.Test.YtpnoliognpmkmaaDoorClsE
namespace Go.Proofs.YtpnoliognpmkmaaDoor
open Cls
set_option linter.unusedVariables false
set_option linter.unusedSimpArgs false

theorem lexi_self (a : List Int) : lexi a a = 0 := (lexi_zero a a).2 rfl
theorem lexi_app : ∀ (p x y : List Int), lexi (p ++ x) (p ++ y) = lexi x y
  | [], _, _ => rfl
  | n :: p, x, y => by
    simp only [List.cons_append, lexi]
    rw [if_neg (Int.lt_irrefl n), if_neg (Int.lt_irrefl n), lexi_app p]
theorem lexi_pre {p q : List Int} (h : p <+: q) (hn : p ≠ q) : lexi p q < 0 := by
  obtain ⟨r, rfl⟩ := h
  cases r with
  | nil => simp at hn
  | cons a r =>
    have e := lexi_app p [] (a :: r)
    rw [List.append_nil] at e
    rw [e]
    simp [lexi]
theorem lexi_between : ∀ (p z q : List Int), p <+: q → lexi p z ≤ 0 → lexi z q ≤ 0 → p <+: z
  | [], z, q => fun _ _ _ => List.nil_prefix
  | a :: p, [], q => fun _ h _ => by simp [lexi] at h
  | a :: p, b :: z, [] => fun h _ _ => by simp at h
  | a :: p, b :: z, c :: q => fun h h1 h2 => by
    rw [List.cons_prefix_cons] at h
    obtain ⟨rfl, h⟩ := h
    simp only [lexi] at h1 h2
    by_cases e : a = b
    · subst e
      rw [if_neg (Int.lt_irrefl a), if_neg (Int.lt_irrefl a)] at h1 h2
      rw [List.cons_prefix_cons]
      exact ⟨rfl, lexi_between p z q h h1 h2⟩
    · by_cases h3 : a < b
      · rw [if_neg (by omega), if_pos h3] at h2; omega
      · rw [if_neg h3, if_pos (by omega)] at h1; omega
theorem lexi_sib : ∀ (a b x y : List Int), a.length = b.length → lexi a b < 0 → lexi (a ++ x) (b ++ y) < 0
  | [], [], _, _ => fun _ h => by simp [lexi] at h
  | [], _ :: _, _, _ => fun h _ => by simp at h
  | _ :: _, [], _, _ => fun h _ => by simp at h
  | m :: a, n :: b, x, y => fun h1 h2 => by
    simp only [List.cons_append, lexi] at *
    by_cases h3 : m < n
    · rw [if_pos h3]; decide
    · rw [if_neg h3] at h2 ⊢
      by_cases h4 : n < m
      · rw [if_pos h4] at h2; omega
      · rw [if_neg h4] at h2 ⊢
        exact lexi_sib a b x y (by simpa using h1) h2
theorem lexi_asymm {a b : List Int} (h : lexi a b < 0) : ¬ lexi b a < 0 := by
  rw [lexi_turned a b]; omega
theorem lexi_ne {a b : List Int} (h : lexi a b < 0) : a ≠ b := fun e => by
  subst e; rw [lexi_self] at h; omega
/-- lists that rise -/
abbrev Rise (L : List (List Int)) : Prop := L.Pairwise fun a b => lexi a b < 0
theorem Rise.ext : ∀ {A B : List (List Int)}, Rise A → Rise B → (∀ x, x ∈ A ↔ x ∈ B) → A = B
  | [], [], _, _, _ => rfl
  | [], b :: B, _, _, h => absurd ((h b).2 (by simp)) (by simp)
  | a :: A, [], _, _, h => absurd ((h a).1 (by simp)) (by simp)
  | a :: A, b :: B, hA, hB, h => by
    rw [Rise, List.pairwise_cons] at hA hB
    have e : a = b := by
      rcases List.mem_cons.1 ((h a).1 (by simp)) with e | ha
      · exact e
      · rcases List.mem_cons.1 ((h b).2 (by simp)) with e | hb
        · exact e.symm
        · exact absurd (hA.1 _ hb) (lexi_asymm (hB.1 _ ha))
    subst e
    rw [Rise.ext hA.2 hB.2 fun x => ?_]
    constructor
    · intro hx
      rcases List.mem_cons.1 ((h x).1 (List.mem_cons_of_mem _ hx)) with e | hb
      · exact absurd e.symm (lexi_ne (hA.1 _ hx))
      · exact hb
    · intro hx
      rcases List.mem_cons.1 ((h x).2 (List.mem_cons_of_mem _ hx)) with e | hb
      · exact absurd e.symm (lexi_ne (hB.1 _ hx))
      · exact hb
/-- a valid list of codes, as lists of parts -/
structure VL (L : List (List Int)) : Prop where
  rise : Rise L
  ne : ∀ q ∈ L, q ≠ []
  up : ∀ q ∈ L, q.dropLast = [] ∨ q.dropLast ∈ L
theorem drop_ne {q : List Int} (h : q ≠ []) : q.dropLast ≠ q := fun e => by
  have := congrArg List.length e
  rw [List.length_dropLast] at this
  have : 0 < q.length := List.length_pos_iff.2 h
  omega
theorem pre_drop {x y : List Int} (h : x <+: y) (hn : x ≠ y) : x <+: y.dropLast := by
  obtain ⟨r, rfl⟩ := h
  have hr : r ≠ [] := fun e => hn (by rw [e, List.append_nil])
  exact ⟨r.dropLast, (List.dropLast_append_of_ne_nil hr).symm⟩
theorem VL.kid {L : List (List Int)} (h : VL L) {x : List Int} : ∀ (n : Nat) (y : List Int), y.length = n → y ∈ L → x <+: y → x ≠ y → ∃ z ∈ L, z.dropLast = x ∧ z <+: y := by
  intro n
  induction n with
  | zero => intro y hy hm _ _; exact absurd (List.length_eq_zero_iff.1 hy) (h.ne _ hm)
  | succ n ih =>
    intro y hy hm hp hn
    have hp' := pre_drop hp hn
    by_cases e : x = y.dropLast
    · exact ⟨y, hm, e.symm, List.prefix_rfl⟩
    · rcases h.up y hm with h0 | h0
      · rw [h0] at hp' e; exact absurd (List.prefix_nil.1 hp') e
      · obtain ⟨z, hz, e1, e2⟩ := ih _ (by rw [List.length_dropLast]; omega) h0 hp' e
        exact ⟨z, hz, e1, e2.trans (List.dropLast_prefix _)⟩
theorem VL.kid' {L : List (List Int)} (h : VL L) {x y : List Int} (hm : y ∈ L) (hp : x <+: y) (hn : x ≠ y) : ∃ z ∈ L, z.dropLast = x ∧ z <+: y := h.kid y.length y rfl hm hp hn
def inn (L : List (List Int)) (x : List Int) : Bool := L.any fun y => y.dropLast == x
theorem inn_iff {L : List (List Int)} {x : List Int} : inn L x = true ↔ ∃ y ∈ L, y.dropLast = x := by simp [inn, List.any_eq_true]
def kids (L : List (List Int)) (u : List Int) : List (List Int) := L.filter fun x => x.dropLast == u
def lvs (L : List (List Int)) (u : List Int) : List (List Int) := L.filter fun x => u.isPrefixOf x && !inn L x
theorem mem_kids {L : List (List Int)} {u x : List Int} : x ∈ kids L u ↔ x ∈ L ∧ x.dropLast = u := by simp [kids]
theorem mem_lvs {L : List (List Int)} {u x : List Int} : x ∈ lvs L u ↔ x ∈ L ∧ u <+: x ∧ inn L x = false := by simp [lvs]
theorem Rise.filter {L : List (List Int)} (h : Rise L) (p : List Int → Bool) : Rise (L.filter p) := List.Pairwise.filter p h
theorem inn_next {L : List (List Int)} (h : VL L) {A R : List (List Int)} {x y : List Int} (e : L = A ++ x :: y :: R) : inn L x = x.isPrefixOf y := by
  have hr := h.rise
  rw [e, Rise, List.pairwise_append] at hr
  obtain ⟨_, hr1, hr2⟩ := hr
  rw [List.pairwise_cons] at hr1
  obtain ⟨hx, hr1⟩ := hr1
  rw [List.pairwise_cons] at hr1
  rw [Bool.eq_iff_iff, inn_iff, List.isPrefixOf_iff_prefix]
  constructor
  · rintro ⟨z, hz, hd⟩
    have hpz : x <+: z := hd ▸ List.dropLast_prefix z
    have hnz : x ≠ z := fun e' => drop_ne (h.ne z hz) (hd.trans e')
    have hlt := lexi_pre hpz hnz
    rw [e] at hz
    rcases List.mem_append.1 hz with hz | hz
    · exact absurd (hr2 z hz x (by simp)) (lexi_asymm hlt)
    · rcases List.mem_cons.1 hz with hz | hz
      · exact absurd hz.symm hnz
      · refine lexi_between x y z hpz (Int.le_of_lt (hx y (by simp))) ?_
        rcases List.mem_cons.1 hz with hz | hz
        · rw [hz, lexi_self]; exact Int.le_refl _
        · exact Int.le_of_lt (hr1.1 z hz)
  · intro hp
    obtain ⟨z, hz, hd, _⟩ := h.kid' (y := y) (by rw [e]; simp) hp (lexi_ne (hx y (by simp)))
    exact ⟨z, hz, hd⟩
theorem inn_last {L : List (List Int)} (h : VL L) {A : List (List Int)} {x : List Int} (e : L = A ++ [x]) : inn L x = false := by
  rw [Bool.eq_false_iff, ne_eq, inn_iff]
  rintro ⟨z, hz, hd⟩
  have hpz : x <+: z := hd ▸ List.dropLast_prefix z
  have hnz : x ≠ z := fun e' => drop_ne (h.ne z hz) (hd.trans e')
  have hlt := lexi_pre hpz hnz
  have hr := h.rise
  rw [e, Rise, List.pairwise_append] at hr
  rw [e] at hz
  rcases List.mem_append.1 hz with hz | hz
  · exact absurd (hr.2.2 z hz x (by simp)) (lexi_asymm hlt)
  · simp at hz; exact hnz hz.symm
/-- the leaves as the document has them -/
def rlv (u : List Int) : List (List Int) → List (List Int)
  | [] => []
  | [x] => if u.isPrefixOf x = true then [x] else []
  | x :: y :: r => if x.isPrefixOf y = true then rlv u (y :: r) else if u.isPrefixOf x = true then x :: rlv u (y :: r) else rlv u (y :: r)
theorem rlv_tail {L : List (List Int)} (h : VL L) (u : List Int) : ∀ (S A : List (List Int)), L = A ++ S → rlv u S = S.filter fun x => u.isPrefixOf x && !inn L x
  | [], _, _ => rfl
  | [x], A, e => by
    have := inn_last h e
    simp only [rlv, List.filter_cons, List.filter_nil, this, Bool.not_false, Bool.and_true]
  | x :: y :: r, A, e => by
    have h1 := inn_next h e
    have ih := rlv_tail h u (y :: r) (A ++ [x]) (by rw [e]; simp)
    rw [rlv, ih, List.filter_cons (x := x) (xs := y :: r), h1]
    by_cases hp : x.isPrefixOf y = true
    · rw [if_pos hp, hp]; simp
    · rw [if_neg hp]
      simp only [Bool.not_eq_true] at hp
      rw [hp]; simp
theorem rlv_eq {L : List (List Int)} (h : VL L) (u : List Int) : rlv u L = lvs L u := rlv_tail h u L [] rfl
theorem lvs_none {L : List (List Int)} (h : VL L) {u : List Int} (hL : L ≠ []) (hu : u = [] ∨ u ∈ L) (hk : kids L u = []) : lvs L u = [u] := by
  have hno : ∀ x ∈ L, u <+: x → u = x := fun x hx hp => Classical.byContradiction fun hn => by
    obtain ⟨z, hz, hd, _⟩ := h.kid' hx hp hn
    have : z ∈ kids L u := mem_kids.2 ⟨hz, hd⟩
    rw [hk] at this; simp at this
  have huL : u ∈ L := by
    rcases hu with rfl | hu
    · cases L with
      | nil => exact absurd rfl hL
      | cons x r => exact absurd (hno x (by simp) List.nil_prefix) (h.ne x (by simp)).symm
    · exact hu
  refine Rise.ext (h.rise.filter _) (List.pairwise_singleton _ _) fun x => ?_
  rw [mem_lvs, List.mem_singleton]
  constructor
  · rintro ⟨hx, hp, _⟩; exact (hno x hx hp).symm
  · rintro rfl
    refine ⟨huL, List.prefix_rfl, ?_⟩
    rw [Bool.eq_false_iff, ne_eq, inn_iff]
    rintro ⟨z, hz, hd⟩
    have : z ∈ kids L x := mem_kids.2 ⟨hz, hd⟩
    rw [hk] at this; simp at this
theorem lvs_some {L : List (List Int)} (h : VL L) {u : List Int} (hk : kids L u ≠ []) : lvs L u = (kids L u).flatMap (lvs L) := by
  have hin : inn L u = true := by
    cases e : kids L u with
    | nil => exact absurd e hk
    | cons z r =>
      have : z ∈ kids L u := by rw [e]; simp
      exact inn_iff.2 ⟨z, mem_kids.1 this⟩
  refine Rise.ext (h.rise.filter _) ?_ fun x => ?_
  · refine List.pairwise_flatMap.2 ⟨fun a _ => h.rise.filter _, ?_⟩
    refine List.Pairwise.imp_of_mem (R := fun a b => lexi a b < 0) (fun {a b} ha hb hab x hx y hy => ?_) (h.rise.filter _)
    obtain ⟨_, ⟨r, rfl⟩, _⟩ := mem_lvs.1 hx
    obtain ⟨_, ⟨s, rfl⟩, _⟩ := mem_lvs.1 hy
    have ha := mem_kids.1 ha
    have hb := mem_kids.1 hb
    refine lexi_sib a b r s ?_ hab
    have e := congrArg List.length (ha.2.trans hb.2.symm)
    rw [List.length_dropLast, List.length_dropLast] at e
    have := List.length_pos_iff.2 (h.ne a ha.1)
    have := List.length_pos_iff.2 (h.ne b hb.1)
    omega
  · rw [List.mem_flatMap]
    constructor
    · intro hx
      obtain ⟨h1, h2, h3⟩ := mem_lvs.1 hx
      have hn : u ≠ x := fun e => by rw [← e, hin] at h3; exact absurd h3 (by simp)
      obtain ⟨z, hz, hd, hp⟩ := h.kid' h1 h2 hn
      exact ⟨z, mem_kids.2 ⟨hz, hd⟩, mem_lvs.2 ⟨h1, hp, h3⟩⟩
    · rintro ⟨z, hz, hx⟩
      obtain ⟨h1, h2, h3⟩ := mem_lvs.1 hx
      obtain ⟨hz1, hz2⟩ := mem_kids.1 hz
      exact mem_lvs.2 ⟨h1, (hz2 ▸ List.dropLast_prefix z).trans h2, h3⟩
theorem one_leaf {L : List (List Int)} (h : VL L) {u x : List Int} (hx : x ∈ lvs L u) : (lvs L u).filter (fun y => y.isPrefixOf x) = [x] := by
  refine Rise.ext ((h.rise.filter _).filter _) (List.pairwise_singleton _ _) fun y => ?_
  rw [List.mem_filter, List.mem_singleton, List.isPrefixOf_iff_prefix]
  obtain ⟨h1, h2, h3⟩ := mem_lvs.1 hx
  constructor
  · rintro ⟨hy, hp⟩
    obtain ⟨g1, g2, g3⟩ := mem_lvs.1 hy
    refine Classical.byContradiction fun hn => ?_
    obtain ⟨z, hz, hd, _⟩ := h.kid' h1 hp hn
    rw [inn_iff.2 ⟨z, hz, hd⟩] at g3
    exact absurd g3 (by simp)
  · rintro rfl; exact ⟨hx, List.prefix_rfl⟩
theorem one_top {L : List (List Int)} (h : VL L) {x : List Int} (hx : x ∈ L) : ∃ z, (kids L []).filter (fun y => y.isPrefixOf x) = [z] := by
  obtain ⟨z, hz, hd, hp⟩ := h.kid' hx List.nil_prefix (h.ne x hx).symm
  refine ⟨z, Rise.ext ((h.rise.filter _).filter _) (List.pairwise_singleton _ _) fun y => ?_⟩
  rw [List.mem_filter, List.mem_singleton, List.isPrefixOf_iff_prefix]
  have hone : ∀ w ∈ L, w.dropLast = [] → w.length = 1 := fun w hw e => by
    have e1 := congrArg List.length e
    rw [List.length_dropLast] at e1
    have := List.length_pos_iff.2 (h.ne w hw)
    simp at e1; omega
  constructor
  · rintro ⟨hy, hpy⟩
    obtain ⟨g1, g2⟩ := mem_kids.1 hy
    have l1 := hone y g1 g2
    have l2 := hone z hz hd
    rw [List.prefix_iff_eq_take.1 hpy, List.prefix_iff_eq_take.1 hp, l1, l2]
  · rintro rfl; exact ⟨mem_kids.2 ⟨hz, hd⟩, hp⟩

end Go.Proofs.YtpnoliognpmkmaaDoor
