/- Codes and their parts: Within and Common, as the program and as the document have them. Plain Lean. -/
import Derived.Test.YtpnoliognpmkmaaDoorClsF
import Derived.Test.YtpnoliognpmkmaaDoorClsT
namespace Go.Proofs.YtpnoliognpmkmaaDoor
open Cls
set_option linter.unusedVariables false
set_option linter.unusedSimpArgs false

/-! codes and their parts -/
theorem fmt_inj {p q : List Int} (hp : good p) (hq : good q) (h : fmt p = fmt q) : p = q :=
  Option.some.inj ((isC_prL (s := fmt p) (q := p) ⟨hp, rfl⟩).symm.trans (isC_prL (s := fmt p) (q := q) ⟨hq, h.symm⟩))
theorem isC_fmt {q : List Int} (h : good q) : isC (fmt q) q := ⟨h, rfl⟩
theorem good_ne {q : List Int} (h : good q) : q ≠ [] := fun e => by
  have := h.1
  rw [e] at this
  exact absurd this (by simp)
theorem fmt_ne {q : List Int} (h : good q) : fmt q ≠ [] := by
  cases q with
  | nil => exact absurd rfl (good_ne h)
  | cons n r => simp [fmt, tx2]
theorem good_pre {p q : List Int} (hq : good q) (hp : p ≠ []) (h : p <+: q) : good p := by
  have e := List.prefix_iff_eq_take.1 h
  rw [e]
  exact good_take hq _ (List.length_pos_iff.2 hp)
theorem mem_pathOf {q : List Int} {s : List UInt8} : s ∈ pathOf q ↔ ∃ p, p ≠ [] ∧ p <+: q ∧ s = fmt p := by
  unfold pathOf
  rw [List.mem_map]
  constructor
  · rintro ⟨j, hj, rfl⟩
    rw [List.mem_range'_1] at hj
    refine ⟨q.take j, fun e => ?_, List.take_prefix _ _, rfl⟩
    have := congrArg List.length e
    rw [List.length_take, List.length_nil] at this
    omega
  · rintro ⟨p, h1, h2, rfl⟩
    have h3 := List.length_pos_iff.2 h1
    have h4 := h2.length_le
    exact ⟨p.length, by rw [List.mem_range'_1]; omega, by rw [← List.prefix_iff_eq_take.1 h2]⟩
theorem mem_pl {q : List Int} (h : good q) {s : List UInt8} : s ∈ pl (fmt q) ↔ ∃ p, p ≠ [] ∧ p <+: q ∧ s = fmt p := by
  rw [pl_ok (isC_fmt h), mem_pathOf]
theorem mem_pl_fmt {p q : List Int} (hp : good p) (hq : good q) : fmt p ∈ pl (fmt q) ↔ p <+: q := by
  rw [mem_pl hq]
  constructor
  · rintro ⟨r, h1, h2, e⟩
    rw [fmt_inj hp (good_pre hq h1 h2) e]
    exact h2
  · exact fun h => ⟨p, good_ne hp, h, rfl⟩
theorem code_or (s : List UInt8) : (∃ q, good q ∧ s = fmt q) ∨ ∀ q, ¬ isC s q := by
  rcases pr_cases s with ⟨q, hq, _⟩ | ⟨h, _⟩
  · exact .inl ⟨q, hq.1, hq.2.symm⟩
  · exact .inr h
theorem lev_fmt {q : List Int} (h : good q) : lev (fmt q) = q.length := by
  unfold lev
  rw [pr_ok (isC_fmt h)]
  simp
theorem lev_nil : lev [] = 0 := by decide +kernel
theorem nil_no : ∀ q, ¬ isC [] q := fun q h => fmt_ne h.1 h.2
theorem lev_no {s : List UInt8} (h : ∀ q, ¬ isC s q) (h0 : s ≠ []) : lev s = -1 := by
  unfold lev
  rcases pr_cases s with ⟨q, hq, _⟩ | ⟨_, e⟩
  · exact absurd hq (h q)
  · rw [e, if_neg (by simp [h0])]
/-- Within -/
def wi (s a : List UInt8) : Bool := decide (0 ≤ lev s) && (a.isEmpty || decide (a ∈ pl s))
theorem wi_nil (s : List UInt8) : wi s [] = decide (0 ≤ lev s) := by simp [wi]
theorem wi_fmt {p q : List Int} (hp : good p) (hq : good q) : wi (fmt q) (fmt p) = p.isPrefixOf q := by
  unfold wi
  rw [lev_fmt hq, Bool.eq_iff_iff, List.isPrefixOf_iff_prefix, ← mem_pl_fmt hp hq]
  have : (fmt p).isEmpty = false := by simpa using fmt_ne hp
  simp [this]
theorem dots_in : ∀ (w p r : List UInt8), p ++ w ∈ dots p (w ++ 46 :: r)
  | [], p, r => by simp [dots]
  | c :: w, p, r => by
    have ih := dots_in w (p ++ [c]) r
    rw [List.append_assoc, List.singleton_append] at ih
    simp only [List.cons_append, dots]
    split
    · exact List.mem_cons_of_mem _ ih
    · exact ih
theorem dots_out : ∀ (s p x : List UInt8), x ∈ dots p s → (x ++ [46]) <+: (p ++ s)
  | [], p, x, h => by simp [dots] at h
  | c :: s, p, x, h => by
    simp only [dots] at h
    have ih := dots_out s (p ++ [c]) x
    rw [List.append_assoc, List.singleton_append] at ih
    split at h
    · rename_i e
      rcases List.mem_cons.1 h with rfl | h
      · exact ⟨s, by rw [e]; simp⟩
      · exact ih h
    · exact ih h
theorem dot_iff {q : List Int} (h : good q) (a : List UInt8) : a ∈ pl (fmt q) ↔ a = fmt q ∨ (a ++ [46]) <+: fmt q := by
  rw [pl_ok (isC_fmt h), ← dots_path h, List.mem_append, List.mem_singleton]
  constructor
  · rintro (h1 | h1)
    · exact .inr (by simpa using dots_out (fmt q) [] a h1)
    · exact .inl h1
  · rintro (h1 | ⟨r, e⟩)
    · exact .inr h1
    · refine .inl ?_
      have := dots_in a [] r
      rw [List.nil_append] at this
      rw [← e]
      simpa using this
theorem isB_iff (s : List UInt8) : isB s = true ↔ ∃ q, good q ∧ s = fmt q := by
  rcases code_or s with ⟨q, h1, h2⟩ | h
  · exact ⟨fun _ => ⟨q, h1, h2⟩, fun _ => isB_ok ⟨h1, h2.symm⟩⟩
  · exact ⟨fun e => by rw [isB_no h] at e; exact absurd e (by simp), fun ⟨q, h1, h2⟩ => absurd ⟨h1, h2.symm⟩ (h q)⟩
/-- Within as the program has it -/
theorem wi_prog (s a : List UInt8) : wi s a = if (s ≠ [] ∧ isB s = false) ∨ (a ≠ [] ∧ isB a = false) then false else decide (a = [] ∨ s = a ∨ (a ++ [46]) <+: s) := by
  rcases code_or s with ⟨q, hq, rfl⟩ | h
  · have e1 := isB_ok (isC_fmt hq)
    have e2 : decide (0 ≤ lev (fmt q)) = true := by rw [lev_fmt hq]; simp
    unfold wi
    rw [e1, e2, Bool.true_and]
    rw [Bool.eq_iff_iff, Bool.or_eq_true, decide_eq_true_eq, dot_iff hq, List.isEmpty_iff]
    by_cases ha : a = []
    · rw [if_neg (by simp [ha])]; simp [ha]
    · rcases code_or a with ⟨p, hp, rfl⟩ | h'
      · rw [if_neg (by simp [isB_ok (isC_fmt hp)]), decide_eq_true_eq]
        constructor
        · rintro (h | h | h)
          · exact .inl h
          · exact .inr (.inl h.symm)
          · exact .inr (.inr h)
        · rintro (h | h | h)
          · exact .inl h
          · exact .inr (.inl h.symm)
          · exact .inr (.inr h)
      · rw [if_pos (.inr ⟨ha, isB_no h'⟩)]
        refine ⟨fun hh => ?_, fun hh => absurd hh (by simp)⟩
        rcases hh with hh | hh
        · exact absurd hh ha
        · obtain ⟨p, h1, h2, h3⟩ := (mem_pl hq).1 ((dot_iff hq a).2 hh)
          exact absurd ⟨good_pre hq h1 h2, h3.symm⟩ (h' p)
  · by_cases hs : s = []
    · subst hs
      rw [wi, pl_no h]
      by_cases ha : a = []
      · subst ha; simp [lev_nil]
      · have : ¬ (a = [] ∨ [] = a ∨ a ++ [46] <+: []) := by
          rintro (e | e | e)
          · exact ha e
          · exact ha e.symm
          · simp at e
        rw [decide_eq_false this]
        simp [ha]
    · rw [if_pos (.inl ⟨hs, isB_no h⟩), wi, lev_no h hs]; simp
/-- Within as the document has it -/
theorem wi_doc (s a : List UInt8) : wi s a = if lev s < 0 then false else if a = [] ∨ a = s then true else decide (a ∈ pl s) := by
  unfold wi
  by_cases h : lev s < 0
  · rw [if_pos h, decide_eq_false (by omega)]; rfl
  · rw [if_neg h, decide_eq_true (by omega), Bool.true_and]
    by_cases ha : a = []
    · rw [if_pos (.inl ha)]; simp [ha]
    · have e : a.isEmpty = false := by simpa using ha
      rw [e, Bool.false_or]
      by_cases hs : a = s
      · rw [if_pos (.inr hs)]
        subst hs
        rcases code_or a with ⟨q, hq, rfl⟩ | h'
        · exact decide_eq_true ((dot_iff hq _).2 (.inl rfl))
        · rw [lev_no h' ha] at h; exact absurd (by decide) h
      · rw [if_neg (by simp [ha, hs])]
/-- Common -/
def com (a b : List UInt8) : List UInt8 := (((pl a).filter (wi b)).getLast?).getD []
theorem find_last {α : Type} (p : α → Bool) (l : List α) : l.reverse.find? p = (l.filter p).getLast? := by
  rw [← List.head?_filter, List.filter_reverse, List.head?_reverse]
theorem com_prog (a b : List UInt8) : com a b = ((pl a).reverse.find? (wi b)).getD [] := by rw [find_last]; rfl
theorem com_wi {a b : List UInt8} (ha : 0 ≤ lev a) (hb : 0 ≤ lev b) : wi a (com a b) = true ∧ wi b (com a b) = true := by
  unfold com
  rcases e : ((pl a).filter (wi b)).getLast? with _ | m
  · exact ⟨by simp [wi_nil, ha], by simp [wi_nil, hb]⟩
  · have hm := List.mem_of_getLast? e
    rw [List.mem_filter] at hm
    refine ⟨?_, hm.2⟩
    simp only [Option.getD_some, wi, decide_eq_true ha, Bool.true_and, Bool.or_eq_true, decide_eq_true_eq]
    exact .inr hm.1
theorem pathOf_rise {q : List Int} (hq : good q) : (pathOf q).Pairwise fun x y => x ∈ pl y := by
  unfold pathOf
  rw [List.pairwise_map]
  refine List.Pairwise.imp_of_mem (R := fun i j => i < j) (fun {i j} hi hj hij => ?_) (List.pairwise_lt_range' (s := 1) (n := q.length) (step := 1))
  rw [List.mem_range'_1] at hi hj
  rw [mem_pl_fmt (good_take hq i hi.1) (good_take hq j hj.1)]
  exact (List.prefix_of_prefix_length_le (List.take_prefix i q) (List.take_prefix j q) (by rw [List.length_take, List.length_take]; omega))
theorem com_most {a b c : List UInt8} (ha : wi a c = true) (hb : wi b c = true) : wi (com a b) c = true := by
  by_cases hc : c = []
  · subst hc
    rw [wi_nil]
    rw [decide_eq_true_eq]
    unfold com
    rcases e : ((pl a).filter (wi b)).getLast? with _ | m
    · simp [lev_nil]
    · have hm := List.mem_of_getLast? e
      rw [List.mem_filter] at hm
      rcases code_or a with ⟨q, hq, rfl⟩ | h
      · obtain ⟨p, h1, h2, rfl⟩ := (mem_pl hq).1 hm.1
        rw [Option.getD_some, lev_fmt (good_pre hq h1 h2)]
        omega
      · rw [pl_no h] at hm; exact absurd hm.1 (by simp)
  · have e0 : c.isEmpty = false := by simpa using hc
    have hca : c ∈ pl a := by simpa [wi, e0] using (Bool.and_eq_true_iff.1 ha).2
    have hcf : c ∈ (pl a).filter (wi b) := List.mem_filter.2 ⟨hca, hb⟩
    rcases code_or a with ⟨q, hq, rfl⟩ | h
    · unfold com
      rcases e : ((pl (fmt q)).filter (wi b)).getLast? with _ | m
      · rw [List.getLast?_eq_none_iff] at e; rw [e] at hcf; exact absurd hcf (by simp)
      · have hm := List.mem_of_getLast? e
        rw [List.mem_filter] at hm
        obtain ⟨p, h1, h2, rfl⟩ := (mem_pl hq).1 hm.1
        have hp := good_pre hq h1 h2
        obtain ⟨A, hA⟩ := List.getLast?_eq_some_iff.1 e
        have hr := (pathOf_rise hq)
        rw [← pl_ok (isC_fmt hq)] at hr
        have hr2 : ((pl (fmt q)).filter (wi b)).Pairwise fun x y => x ∈ pl y := hr.filter _
        rw [hA, List.pairwise_append] at hr2
        rw [hA] at hcf
        have hcm : c ∈ pl (fmt p) := by
          rcases List.mem_append.1 hcf with h3 | h3
          · exact hr2.2.2 c h3 _ (by simp)
          · rw [List.mem_singleton.1 h3, mem_pl_fmt hp hp]; exact List.prefix_rfl
        have hl : 0 ≤ lev (fmt p) := by rw [lev_fmt hp]; omega
        simp only [Option.getD_some, wi, e0, Bool.false_or]
        rw [decide_eq_true hl, decide_eq_true hcm]
        rfl
    · rw [pl_no h] at hca; exact absurd hca (by simp)
theorem kl_fmt {q : List Int} (h : good q) : kl (fmt q) = 1 := by
  unfold kl
  rw [if_neg (fmt_ne h), if_pos (isB_ok (isC_fmt h))]
theorem cmpS_fmt {p q : List Int} (hp : good p) (hq : good q) : cmpS (fmt p) (fmt q) = lexi p q := by
  unfold cmpS keyOf
  rw [kl_fmt hp, kl_fmt hq, pr_ok (isC_fmt hp), pr_ok (isC_fmt hq)]
  simp [lexi]
theorem wi_before {a b : List UInt8} (h : wi a b = true) : cmpS b a ≤ 0 := by
  by_cases hb : b = []
  · subst hb
    by_cases ha : a = []
    · subst ha; rw [(cmpS_zero _ _).2 rfl]; decide
    · unfold cmpS keyOf
      have h0 : kl [] = 0 := rfl
      have h1 : 0 < kl a := by unfold kl; rw [if_neg ha]; split <;> decide
      rw [h0]
      simp only [lexi]
      rw [if_pos h1]; decide
  · have e0 : b.isEmpty = false := by simpa using hb
    have hm : b ∈ pl a := by simpa [wi, e0] using (Bool.and_eq_true_iff.1 h).2
    rcases code_or a with ⟨q, hq, rfl⟩ | h'
    · obtain ⟨p, h1, h2, rfl⟩ := (mem_pl hq).1 hm
      rw [cmpS_fmt (good_pre hq h1 h2) hq]
      by_cases e : p = q
      · rw [e, lexi_self]; decide
      · exact Int.le_of_lt (lexi_pre h2 e)
    · rw [pl_no h'] at hm; exact absurd hm (by simp)
end Go.Proofs.YtpnoliognpmkmaaDoor
