import Derived.Test.YtcjchfocohagdaaU1
import Derived.Test.YtcjchfocohagdaaQ5
set_option linter.unusedVariables false
set_option linter.unusedSimpArgs false
namespace Go.Abs
theorem prC_eq (x y : Pr) : (x.1.toList == y.1.toList && (x.2.toList == y.2.toList && true)) = decide (x = y) := by
  rw [Bool.eq_iff_iff]
  simp only [Bool.and_eq_true, beq_iff_eq, toList_inj, and_true, decide_eq_true_eq, Prod.ext_iff]
theorem enC_eq (x y : En) : ((x.1.1.toList == y.1.1.toList && (x.1.2.toList == y.1.2.toList && true)) && ((x.2.1 == y.2.1 && (x.2.2 == y.2.2 && true)) && true)) = decide (x = y) := by
  rw [Bool.eq_iff_iff]
  simp only [Bool.and_eq_true, beq_iff_eq, toList_inj, and_true, decide_eq_true_eq, Prod.ext_iff]
theorem enC_eqF (x y : En) : (x.1.1.toList == y.1.1.toList && (x.1.2.toList == y.1.2.toList && (x.2.1 == y.2.1 && (x.2.2 == y.2.2 && true)))) = decide (x = y) := by
  rw [Bool.eq_iff_iff]
  simp only [Bool.and_eq_true, beq_iff_eq, toList_inj, and_true, decide_eq_true_eq, Prod.ext_iff, and_assoc]
/-- What stands so far of a row with its entry in force cut. -/
def RevI (l : List En) (n : Nat) (t : Int) (k : Nat) (out : List En) : Prop :=
  k ≤ l.length ∧ ∃ hn : n < l.length, (k ≤ n ∧ out = l.take k) ∨ (n < k ∧ out = l.take n ++ (revAt l[n] t ++ (l.take k).drop (n + 1)))
theorem RevI.start {l : List En} {n : Nat} (t : Int) (hn : n < l.length) : RevI l n t 0 [] := ⟨Nat.zero_le _, hn, .inl ⟨Nat.zero_le _, rfl⟩⟩
theorem RevI.len {l : List En} {n : Nat} {t : Int} {k : Nat} {out : List En} (h : RevI l n t k out) : out.length ≤ k := by
  obtain ⟨hk, hn, ⟨h1, rfl⟩ | ⟨h1, rfl⟩⟩ := h
  · simp; omega
  · simp only [List.length_append, List.length_take, List.length_drop, revAt]
    split <;> simp <;> omega
theorem take_snoc {α : Type} {l : List α} {k : Nat} (h : k < l.length) : l.take (k + 1) = l.take k ++ [l[k]] := (List.take_append_getElem h).symm
theorem RevI.ne {l : List En} {n : Nat} {t : Int} {k : Nat} {out : List En} (h : RevI l n t k out) (hk : k < l.length) (hne : k ≠ n) : RevI l n t (k + 1) (out ++ [l[k]]) := by
  obtain ⟨_, hn, ⟨h1, rfl⟩ | ⟨h1, rfl⟩⟩ := h
  · exact ⟨hk, hn, .inl ⟨by omega, (take_snoc hk).symm⟩⟩
  · refine ⟨hk, hn, .inr ⟨by omega, ?_⟩⟩
    rw [take_snoc hk, List.drop_append_of_le_length (by simp; omega)]
    simp [List.append_assoc]
theorem RevI.keep {l : List En} {n : Nat} {t : Int} {k : Nat} {out : List En} (h : RevI l n t k out) (hk : k < l.length) (he : k = n) (ht : l[k].2.1 < t) : RevI l n t (k + 1) (out ++ [(l[k].1, (l[k].2.1, t))]) := by
  subst he
  obtain ⟨_, hn, ⟨h1, rfl⟩ | ⟨h1, rfl⟩⟩ := h
  · refine ⟨hk, hn, .inr ⟨by omega, ?_⟩⟩
    rw [revAt, if_neg (by omega), List.drop_eq_nil_of_le (by simp; omega), List.append_nil]
  · omega
theorem RevI.gone {l : List En} {n : Nat} {t : Int} {k : Nat} {out : List En} (h : RevI l n t k out) (hk : k < l.length) (he : k = n) (ht : t ≤ l[k].2.1) : RevI l n t (k + 1) out := by
  subst he
  obtain ⟨_, hn, ⟨h1, rfl⟩ | ⟨h1, rfl⟩⟩ := h
  · refine ⟨hk, hn, .inr ⟨by omega, ?_⟩⟩
    rw [revAt, if_pos ht, List.drop_eq_nil_of_le (by simp; omega), List.append_nil, List.append_nil]
  · omega
theorem RevI.fin {l : List En} {p : Pr} {n : Nat} {t : Int} {k : Nat} {out : List En} (h : RevI l n t k out) (hk : l.length ≤ k) (h1 : ∀ (j : Nat) (hj : j < l.length), j < n → forceP p l[j] = false) (h2 : ∀ hn : n < l.length, forceP p l[n] = true) : out = revL l p t := by
  obtain ⟨_, hn, ⟨h3, rfl⟩ | ⟨h3, rfl⟩⟩ := h
  · omega
  · rw [revL_at p t l n hn h1 (h2 hn), List.take_of_length_le hk]
theorem rev_set {l : List En} {p : Pr} {t : Int} {k : Nat} (hk : k < l.length) (h1 : ∀ (j : Nat) (hj : j < l.length), j < k → forceP p l[j] = false) (h2 : forceP p l[k] = true) (ht : l[k].2.1 < t) : l.set k (l[k].1, (l[k].2.1, t)) = revL l p t := by
  rw [revL_at p t l k hk h1 h2, revAt, if_neg (by omega), List.set_eq_take_append_cons_drop, if_pos hk]; rfl
theorem rev_del {l : List En} {p : Pr} {t : Int} {k : Nat} {v : En} (hk : k < l.length) (h1 : ∀ (j : Nat) (hj : j < l.length), j < k → forceP p l[j] = false) (h2 : forceP p l[k] = true) (ht : t ≤ l[k].2.1) : (l.set k v).take k ++ (l.set k v).drop (k + 1) = revL l p t := by
  rw [revL_at p t l k hk h1 h2, revAt, if_pos ht, List.take_set_of_le (Nat.le_refl _), List.drop_set_of_lt (by omega)]; rfl
theorem onB_f {l : List En} {p : Pr} (h : idxB (forceP p) l < 0) : onB l p = false := by
  rw [onB, ← idxB_any]; simp; omega
theorem onB_t {l : List En} {p : Pr} (h : 0 ≤ idxB (forceP p) l) : onB l p = true := by
  rw [onB, ← idxB_any]; simp; omega
theorem onB_at {l : List En} {p : Pr} {k : Nat} (hk : k < l.length) (h : forceP p l[k] = true) : onB l p = true := List.any_eq_true.2 ⟨_, List.getElem_mem hk, h⟩
theorem aeq_pr {x y : Pr} : aeqL [.str, .str] (prC x) (prC y) = some (decide (x = y), [], []) := by
  rw [← prC_eq]; rfl
theorem okE_f {e : En} (h : e.2.2 ≤ e.2.1 ∨ rightB e.1.1 = false ∨ rightB e.1.2 = false ∨ (rightB e.1.1 && rightB e.1.2) = false) : okE e = false := by
  rcases h with h | h | h | h
  · have : decide (e.2.1 < e.2.2) = false := by simp; omega
    rw [okE, this]; rfl
  · rw [okE, h]; simp
  · rw [okE, h]; simp
  · rw [okE, h]; simp
theorem okE_t {e : En} (h : e.2.1 < e.2.2) (h1 : rightB e.1.1 = true) (h2 : rightB e.1.2 = true) : okE e = true := by simp [okE, h, h1, h2]
theorem nextE_t {a b : En} : nextE a b = true ↔ ordE a b < 0 ∧ (a.1 = b.1 → a.2.2 ≤ b.2.1) := by
  simp only [nextE, Bool.and_eq_true, decide_eq_true_eq, Bool.not_eq_true', Bool.and_eq_false_iff, decide_eq_false_iff_not]
  refine and_congr_right fun _ => ?_
  by_cases e : a.1 = b.1
  · simp only [e, not_true_eq_false, false_or, forall_const]; omega
  · simp [e]
theorem nextE_f {a b : En} (h : ¬ ordE a b < 0 ∨ (a.1 = b.1 ∧ b.2.1 < a.2.2)) : nextE a b = false := by
  rw [Bool.eq_false_iff]; intro h0
  obtain ⟨h1, h2⟩ := nextE_t.1 h0
  rcases h with h | ⟨h, h3⟩
  · omega
  · have := h2 h; omega
theorem pr_ext {a b : Pr} (h1 : a.1.toList = b.1.toList) (h2 : a.2.toList = b.2.toList) : a = b := Prod.ext (toList_inj.1 h1) (toList_inj.1 h2)
theorem ne_fst {a b : Pr} (h : ¬ a.1.toList = b.1.toList) : a ≠ b := fun e => h (by rw [e])
theorem ne_snd {a b : Pr} (h : ¬ a.2.toList = b.2.toList) : a ≠ b := fun e => h (by rw [e])
theorem hasU_t {u : ByteArray} {e : En} (h : e.1.1.toList = u.toList ∨ e.1.2.toList = u.toList) : (!hasUB u e) = false := by
  simp only [toList_inj] at h
  rcases h with h | h <;> simp [hasUB, pairHasB, h]
theorem hasU_f {u : ByteArray} {e : En} (h1 : ¬ e.1.1.toList = u.toList) (h2 : ¬ e.1.2.toList = u.toList) : (!hasUB u e) = true := by
  simp only [toList_inj] at h1 h2
  simp [hasUB, pairHasB, h1, h2]
end Go.Abs
