import Derived.Test.YtblbkjdfgpffpaaU3
set_option linter.unusedVariables false
set_option linter.unusedSimpArgs false
namespace Go.Abs
theorem grant_len {l : List En} {p : Pr} {t : Int} : (grantL l p t).length = l.length + 1 := insE_len _ _
theorem revL_len (p : Pr) (t : Int) : ∀ l : List En, (revL l p t).length ≤ l.length
  | [] => Nat.le_refl _
  | e :: l => by
    rw [revL]; split
    · have : (revAt e t).length ≤ 1 := by unfold revAt; split <;> simp
      simp only [List.length_append, List.length_cons]; omega
    · have := revL_len p t l
      simp only [List.length_cons]; omega
theorem iteg_len (l : List En) (p : Pr) (t : Int) : (if onB l p = true then [] else grantL l p t).length ≤ l.length + 1 := by
  split
  · simp
  · rw [grant_len]; omega
theorem iter_len (l : List En) (p : Pr) (t : Int) : (if onB l p = true then revL l p t else []).length ≤ l.length := by
  split
  · exact revL_len p t l
  · simp
theorem force_new (p : Pr) (t : Int) : forceP p (p, (t, 1099511627776)) = true := by simp [forceP]
theorem back_grant {p : Pr} {t : Int} : ∀ {l : List En}, onB l p = false → revL (grantL l p t) p t = l
  | [], _ => by
    show revL [(p, (t, 1099511627776))] p t = []
    rw [revL, if_pos (force_new p t)]
    simp [revAt]
  | x :: l, h => by
    simp only [onB, List.any_cons, Bool.or_eq_false_iff] at h
    show revL (insE (x :: l) (p, (t, 1099511627776))) p t = x :: l
    rw [insE]
    split
    · rw [revL, if_pos (force_new p t)]; simp [revAt]
    · rw [revL, if_neg (by simp [h.1])]
      have := back_grant (p := p) (t := t) (l := l) h.2
      rw [grantL] at this
      rw [this]
theorem on_grant {l : List En} {p : Pr} {t : Int} : onB (grantL l p t) p = true := onB_iff.2 ⟨_, insE_mem.2 (.inl rfl), rfl, rfl⟩
theorem others_grant {p q : Pr} {t : Int} (h : p ≠ q) : ∀ (l : List En), (grantL l p t).filter (ofB q) = l.filter (ofB q)
  | [] => by
    show List.filter (ofB q) [(p, (t, 1099511627776))] = []
    rw [List.filter_cons_of_neg (by simp [ofB, h])]; rfl
  | x :: l => by
    show List.filter (ofB q) (insE (x :: l) (p, (t, 1099511627776))) = _
    have ih := others_grant (t := t) h l
    rw [grantL] at ih
    rw [insE]
    split
    · rw [List.filter_cons_of_neg (by simp [ofB, h])]
    · rw [List.filter_cons, List.filter_cons, ih]
theorem others_rev {p q : Pr} {t : Int} (h : p ≠ q) : ∀ (l : List En), (revL l p t).filter (ofB q) = l.filter (ofB q)
  | [] => rfl
  | x :: l => by
    rw [revL]
    split
    · rename_i hx
      have hx1 : x.1 = p := by simp only [forceP, Bool.and_eq_true, decide_eq_true_eq] at hx; exact hx.1
      have hq : ofB q x = false := by simp [ofB, hx1, h]
      rw [List.filter_append, List.filter_cons_of_neg (by simp [hq])]
      have : (revAt x t).filter (ofB q) = [] := by
        unfold revAt; split
        · rfl
        · rw [List.filter_cons_of_neg (by simp [ofB, hx1, h])]; rfl
      rw [this]; rfl
    · rw [List.filter_cons, List.filter_cons, others_rev h l]
theorem periods_grant {p q : Pr} {t : Int} (h : p ≠ q) (l : List En) : periodsL (grantL l p t) q = periodsL l q := by rw [periodsL, others_grant h, periodsL]
theorem periods_rev {p q : Pr} {t : Int} (h : p ≠ q) (l : List En) : periodsL (revL l p t) q = periodsL l q := by rw [periodsL, others_rev h, periodsL]
end Go.Abs
