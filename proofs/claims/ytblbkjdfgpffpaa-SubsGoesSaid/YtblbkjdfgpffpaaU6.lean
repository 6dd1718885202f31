import Derived.Test.YtblbkjdfgpffpaaU5
set_option linter.unusedVariables false
set_option linter.unusedSimpArgs false
namespace Go.Abs
/-- The next entries: revoked if in force, granted if not. -/
def stepL (x : List En) (p : Pr) (t : Int) : List En := if onB x p = true then revL x p t else grantL x p t
theorem step_len (x : List En) (p : Pr) (t : Int) : (stepL x p t).length ≤ x.length + 1 := by
  unfold stepL; split
  · have := revL_len p t x; omega
  · rw [grant_len]; omega
/-- What holds of entries that grants and revokes have made, up to a time. -/
def GoesI (x : List En) (a : Int) : Prop := risE x = true ∧ ∀ e ∈ x, e.2.1 ≤ a ∧ (e.2.2 = 1099511627776 ∨ e.2.2 ≤ a) ∧ TS e.1.1 ∧ TS e.1.2
theorem ordE_eq {a b : En} : ordE a b = 0 ↔ a.1 = b.1 ∧ a.2.1 = b.2.1 := by
  rw [ordE_lex, lexC_zero, pairC_eq]
  refine and_congr_right fun _ => ?_
  unfold cmpI; (repeat' split) <;> omega
theorem ins_pairwise {e : En} : ∀ {l : List En}, l.Pairwise RisR → (∀ x ∈ l, ¬ 0 < ordE x e → RisR x e) → (∀ x ∈ l, 0 < ordE x e → RisR e x) → (insE l e).Pairwise RisR
  | [], _, _, _ => by simp [insE]
  | x :: l, h, h1, h2 => by
    obtain ⟨hx, hl⟩ := List.pairwise_cons.1 h
    rw [insE]
    split
    · rename_i h0
      refine List.pairwise_cons.2 ⟨fun y hy => ?_, h⟩
      rcases List.mem_cons.1 hy with rfl | hy
      · exact h2 _ (by simp) h0
      · refine h2 y (by simp [hy]) ?_
        have e1 := ordE_tri.lt_tr (show ordE e x < 0 by have := ordE_tri.swap e x; omega) (hx y hy).1
        have := ordE_tri.swap e y; omega
    · rename_i h0
      refine List.pairwise_cons.2 ⟨fun y hy => ?_, ins_pairwise hl (fun z hz => h1 z (by simp [hz])) (fun z hz => h2 z (by simp [hz]))⟩
      rcases insE_mem.1 hy with rfl | hy
      · exact h1 x (by simp) h0
      · exact hx y hy
theorem rev_mem {p : Pr} {t : Int} {y : En} : ∀ {l : List En}, y ∈ revL l p t → y ∈ l ∨ ∃ e ∈ l, forceP p e = true ∧ e.2.1 < t ∧ y = (e.1, (e.2.1, t))
  | [], h => by simp [revL] at h
  | x :: l, h => by
    rw [revL] at h
    split at h
    · rename_i hf
      rcases List.mem_append.1 h with h | h
      · unfold revAt at h
        split at h
        · simp at h
        · simp only [List.mem_singleton] at h
          exact .inr ⟨x, by simp, hf, by omega, h⟩
      · exact .inl (by simp [h])
    · rcases List.mem_cons.1 h with h | h
      · exact .inl (by simp [h])
      · rcases rev_mem h with h | ⟨e, he, h⟩
        · exact .inl (by simp [h])
        · exact .inr ⟨e, by simp [he], h⟩
theorem force_iff {p : Pr} {e : En} : forceP p e = true ↔ e.1 = p ∧ e.2.2 = 1099511627776 := by simp [forceP]
theorem rev_pairwise {p : Pr} {t : Int} : ∀ {l : List En}, l.Pairwise RisR → (∀ y ∈ l, y.2.1 < 1099511627776) → (revL l p t).Pairwise RisR
  | [], _, _ => by simp [revL]
  | x :: l, h, h1 => by
    obtain ⟨hx, hl⟩ := List.pairwise_cons.1 h
    rw [revL]
    split
    · rename_i hf
      have hF := (force_iff.1 hf).2
      unfold revAt
      split
      · exact hl
      · refine List.pairwise_cons.2 ⟨fun y hy => ⟨(hx y hy).1, fun e => ?_⟩, hl⟩
        have := (hx y hy).2 e
        have := h1 y (List.mem_cons_of_mem _ hy)
        omega
    · refine List.pairwise_cons.2 ⟨fun y hy => ?_, rev_pairwise hl (fun z hz => h1 z (by simp [hz]))⟩
      rcases rev_mem hy with hy | ⟨e, he, _, _, rfl⟩
      · exact hx y hy
      · exact ⟨(hx e he).1, fun e' => (hx e he).2 e'⟩
theorem on_rev {p : Pr} {t : Int} (ht : t < 1099511627776) : ∀ {l : List En}, l.Pairwise RisR → (∀ y ∈ l, y.2.1 < 1099511627776) → onB (revL l p t) p = false
  | [], _, _ => rfl
  | x :: l, h, h1 => by
    obtain ⟨hx, hl⟩ := List.pairwise_cons.1 h
    rw [revL]
    split
    · rename_i hf
      obtain ⟨hp, hF⟩ := force_iff.1 hf
      rw [Bool.eq_false_iff]
      intro h0
      obtain ⟨y, hy, e1, e2⟩ := onB_iff.1 h0
      rcases List.mem_append.1 hy with hy | hy
      · unfold revAt at hy
        split at hy
        · simp at hy
        · simp only [List.mem_singleton] at hy
          subst hy; simp only at e2; omega
      · have := (hx y hy).2 (hp.trans e1.symm)
        have := h1 y (by simp [hy])
        omega
    · rename_i hf
      have ih := on_rev (p := p) ht hl (fun z hz => h1 z (by simp [hz]))
      simp only [onB, List.any_cons, Bool.or_eq_false_iff]
      exact ⟨by simpa using hf, ih⟩
theorem goes_step {x : List En} {a t : Int} {p : Pr} (h : GoesI x a) (h1 : a ≤ t) (h2 : t < 1099511627776) (r1 : rightB p.1 = true) (r2 : rightB p.2 = true) (s1 : TS p.1) (s2 : TS p.2) : GoesI (stepL x p t) t := by
  obtain ⟨hr, he⟩ := h
  obtain ⟨ho, hp⟩ := (risE_iff x).1 hr
  have hT : ∀ e ∈ x, e.2.1 < e.2.2 := fun e hm => by have := ho e hm; simp only [okE, Bool.and_eq_true, decide_eq_true_eq] at this; exact this.1
  have hF : ∀ e ∈ x, e.2.1 < 1099511627776 := fun e hm => by have := (he e hm).1; omega
  unfold stepL
  split
  · refine ⟨(risE_iff _).2 ⟨fun y hy => ?_, rev_pairwise hp hF⟩, fun y hy => ?_⟩
    · rcases rev_mem hy with hy | ⟨e, hm, _, hlt, rfl⟩
      · exact ho y hy
      · have := ho e hm
        simp only [okE, Bool.and_eq_true, decide_eq_true_eq] at this ⊢
        exact ⟨hlt, this.2⟩
    · rcases rev_mem hy with hy | ⟨e, hm, _, hlt, rfl⟩
      · obtain ⟨q1, q2, q3⟩ := he y hy
        exact ⟨by omega, by omega, q3⟩
      · obtain ⟨q1, q2, q3⟩ := he e hm
        exact ⟨by simp only; omega, .inr (by simp), q3⟩
  · rename_i hon
    refine ⟨(risE_iff _).2 ⟨fun y hy => ?_, ins_pairwise hp (fun y hy hle => ?_) (fun y hy hlt => ?_)⟩, fun y hy => ?_⟩
    · rcases insE_mem.1 hy with rfl | hy
      · simp [okE, h2, r1, r2]
      · exact ho y hy
    · have hne : ¬ (y.1 = p ∧ y.2.2 = 1099511627776) := fun hh => hon (onB_iff.2 ⟨y, hy, hh⟩)
      obtain ⟨q1, q2, _⟩ := he y hy
      have q4 := hT y hy
      have hyt : y.1 = p → y.2.2 ≤ t := fun e => by rcases q2 with q2 | q2; exact absurd ⟨e, q2⟩ hne; omega
      refine ⟨?_, fun e => by simp only at e ⊢; exact hyt e⟩
      rcases Int.lt_or_eq_of_le (show ordE y (p, (t, 1099511627776)) ≤ 0 by omega) with e | e
      · exact e
      · exfalso
        obtain ⟨e1, e2⟩ := ordE_eq.1 e
        have := hyt e1
        simp only at e2; omega
    · refine ⟨by have := ordE_tri.swap y (p, (t, 1099511627776)); omega, fun e => ?_⟩
      exfalso
      simp only at e
      have q1 := (he y hy).1
      have : ordE y (p, (t, 1099511627776)) = cmpI y.2.1 t := by
        rw [ordE_lex, lexC, if_neg (by simp [pairC_eq, ← e])]
      rw [this] at hlt
      unfold cmpI at hlt
      (repeat' split at hlt) <;> omega
    · rcases insE_mem.1 hy with rfl | hy
      · exact ⟨Int.le_refl _, .inl rfl, s1, s2⟩
      · obtain ⟨q1, q2, q3⟩ := he y hy
        exact ⟨by omega, by omega, q3⟩
theorem goes_on {x : List En} {a t : Int} {p : Pr} (h : GoesI x a) (h1 : a ≤ t) (h2 : t < 1099511627776) : onB (stepL x p t) p = !onB x p := by
  obtain ⟨hr, he⟩ := h
  obtain ⟨ho, hp⟩ := (risE_iff x).1 hr
  have hF : ∀ e ∈ x, e.2.1 < 1099511627776 := fun e hm => by have := (he e hm).1; omega
  unfold stepL
  cases hon : onB x p
  · exact on_grant
  · exact on_rev h2 hp hF
theorem grant_times {x : List En} {t : Int} {p : Pr} (s : Int) : hasB (((grantL x p t).filter (ofB p)).map Prod.snd) s = (hasB ((x.filter (ofB p)).map Prod.snd) s || hasB [(t, 1099511627776)] s) := by
  rw [Bool.eq_iff_iff, Bool.or_eq_true, hasB_iff, hasB_iff, hasB_iff]
  constructor
  · rintro ⟨sp, hs, h1, h2⟩
    obtain ⟨e, he, rfl⟩ := List.mem_map.1 hs
    obtain ⟨he1, he2⟩ := List.mem_filter.1 he
    rcases insE_mem.1 he1 with rfl | he1
    · exact .inr ⟨_, by simp, h1, h2⟩
    · exact .inl ⟨_, List.mem_map.2 ⟨e, List.mem_filter.2 ⟨he1, he2⟩, rfl⟩, h1, h2⟩
  · rintro (⟨sp, hs, h1, h2⟩ | ⟨sp, hs, h1, h2⟩)
    · obtain ⟨e, he, rfl⟩ := List.mem_map.1 hs
      obtain ⟨he1, he2⟩ := List.mem_filter.1 he
      exact ⟨_, List.mem_map.2 ⟨e, List.mem_filter.2 ⟨insE_mem.2 (.inr he1), he2⟩, rfl⟩, h1, h2⟩
    · simp only [List.mem_singleton] at hs
      subst hs
      exact ⟨_, List.mem_map.2 ⟨(p, (t, 1099511627776)), List.mem_filter.2 ⟨insE_mem.2 (.inl rfl), by simp [ofB]⟩, rfl⟩, h1, h2⟩
theorem goes_grant {x : List En} {t : Int} {p : Pr} : periodsL (grantL x p t) p = normL (List.flatten [periodsL x p, [(t, 1099511627776)]]) :=
  norm_congr fun s => by rw [grant_times, flat2, periodsL, (norm_spec _).2]
theorem hasB_none {l : List Sp} {s : Int} (h : ∀ y ∈ l, ¬ (y.1 ≤ s ∧ s < y.2)) : hasB l s = false := by
  rw [Bool.eq_false_iff]; intro h0
  obtain ⟨y, hy, h1⟩ := hasB_iff.1 h0
  exact h y hy h1
theorem rev_times {p : Pr} {t : Int} (s : Int) (ht : t < 1099511627776) : ∀ {l : List En}, l.Pairwise RisR → (∀ y ∈ l, y.2.1 ≤ t ∧ (y.2.2 = 1099511627776 ∨ y.2.2 ≤ t)) → onB l p = true →
    hasB (((revL l p t).filter (ofB p)).map Prod.snd) s = (hasB ((l.filter (ofB p)).map Prod.snd) s && !hasB [(t, 1099511627776)] s)
  | [], _, _, h => by simp [onB] at h
  | x :: l, h, h1, h2 => by
    obtain ⟨hx, hl⟩ := List.pairwise_cons.1 h
    have hx1 := h1 x (by simp)
    have hone : hasB [(t, 1099511627776)] s = (decide (t ≤ s) && decide (s < 1099511627776)) := by simp [hasB]
    rw [hone]
    rw [revL]
    split
    · rename_i hf
      obtain ⟨hp, hF⟩ := force_iff.1 hf
      have hno : hasB ((l.filter (ofB p)).map Prod.snd) s = false := hasB_none fun y hy => by
        obtain ⟨e, he, rfl⟩ := List.mem_map.1 hy
        obtain ⟨he1, he2⟩ := List.mem_filter.1 he
        simp only [ofB, decide_eq_true_eq] at he2
        have := (hx e he1).2 (hp.trans he2.symm)
        have := (h1 e (by simp [he1])).1
        omega
      rw [List.filter_append, List.map_append, hasB_append, hno, Bool.or_false, List.filter_cons_of_pos (by simp [ofB, hp]), List.map_cons, hasB_cons, hno, Bool.or_false, hF]
      unfold revAt
      split
      · rw [List.filter_nil, List.map_nil, hasB_nil, Bool.eq_iff_iff]
        simp only [Bool.and_eq_true, decide_eq_true_eq, Bool.not_eq_true', Bool.and_eq_false_iff, decide_eq_false_iff_not, Bool.false_eq_true, false_iff]
        omega
      · rw [List.filter_cons_of_pos (by simp [ofB, hp]), List.filter_nil, List.map_cons, List.map_nil, hasB_cons, hasB_nil, Bool.or_false, Bool.eq_iff_iff]
        simp only [Bool.and_eq_true, decide_eq_true_eq, Bool.not_eq_true', Bool.and_eq_false_iff, decide_eq_false_iff_not]
        omega
    · rename_i hf
      have hon : onB l p = true := by
        simp only [onB, List.any_cons, Bool.or_eq_true] at h2
        rcases h2 with h2 | h2
        · exact absurd h2 hf
        · exact h2
      have ih := rev_times (p := p) s ht hl (fun z hz => h1 z (by simp [hz])) hon
      rw [hone] at ih
      by_cases ho : ofB p x = true
      · rw [List.filter_cons_of_pos ho, List.filter_cons_of_pos ho, List.map_cons, List.map_cons, hasB_cons, hasB_cons, ih]
        have hp : x.1 = p := by simpa [ofB] using ho
        have hle : x.2.2 ≤ t := by
          rcases hx1.2 with e | e
          · exact absurd (force_iff.2 ⟨hp, e⟩) hf
          · exact e
        cases hasB ((l.filter (ofB p)).map Prod.snd) s <;> rw [Bool.eq_iff_iff] <;> simp only [Bool.and_eq_true, Bool.or_eq_true, decide_eq_true_eq, Bool.not_eq_true', Bool.and_eq_false_iff, decide_eq_false_iff_not, Bool.false_and, Bool.true_and, Bool.or_false, Bool.or_true, Bool.false_eq_true, or_false] <;> omega
      · rw [List.filter_cons_of_neg ho, List.filter_cons_of_neg ho, ih]
theorem goes_rev {x : List En} {a t : Int} {p : Pr} (h : GoesI x a) (h1 : a ≤ t) (h2 : t < 1099511627776) (hon : onB x p = true) : periodsL (revL x p t) p = lessL (periodsL x p) [(t, 1099511627776)] := by
  obtain ⟨hr, he⟩ := h
  obtain ⟨ho, hp⟩ := (risE_iff x).1 hr
  exact norm_ext _ _ (norm_spec _).1 (less_spec _ _).1 fun s => by
    rw [periodsL, (norm_spec _).2, (less_spec _ _).2, periodsL, (norm_spec _).2, rev_times s h2 hp (fun y hy => ⟨by have := (he y hy).1; omega, by have := (he y hy).2.1; omega⟩) hon]
theorem goesA {x : List En} {a t : Int} {p : Pr} (h : GoesI x a) (h1 : a ≤ t) (h2 : t < 1099511627776) (hon : onB x p = true) : periodsL (stepL x p t) p = lessL (periodsL x p) [(t, 1099511627776)] := by
  rw [stepL, if_pos hon, goes_rev h h1 h2 hon]
theorem goesB {x : List En} {t : Int} {p : Pr} (hon : onB x p = false) : periodsL (stepL x p t) p = normL (List.flatten [periodsL x p, [(t, 1099511627776)]]) := by
  rw [stepL, if_neg (by simp [hon]), goes_grant]
theorem booleq_f {P : Program} {t : TypeId} (ht : P.underlying t = some .bool) {a b : Bool} (h : a ≠ b) : abin P .eql t (.bool a) (.bool b) = some (.bool false) := by
  cases a <;> cases b <;> simp_all [abin]
end Go.Abs
