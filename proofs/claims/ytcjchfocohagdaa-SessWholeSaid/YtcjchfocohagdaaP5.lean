import Derived.Test.YtcjchfocohagdaaP
set_option linter.unusedVariables false
set_option linter.unusedSimpArgs false
namespace Go.Abs
open Go
theorem pair_cases (a b c d : ByteArray) : (aheadB a b c d = true ∧ aheadB c d a b = false ∧ pairCmp a b c d = -1 ∧ pairCmp c d a b = 1)
    ∨ (aheadB a b c d = false ∧ aheadB c d a b = true ∧ pairCmp a b c d = 1 ∧ pairCmp c d a b = -1)
    ∨ (aheadB a b c d = false ∧ aheadB c d a b = false ∧ pairCmp a b c d = 0 ∧ pairCmp c d a b = 0) := by
  have h1 := cmpB_swap a c
  have h2 := cmpB_swap b d
  unfold aheadB pairCmp
  rw [h1, h2]
  rcases cmpB_range a c with e | e | e <;> rcases cmpB_range b d with e' | e' | e' <;> rw [e, e'] <;> decide
theorem has_t {a b s : ByteArray} (h : s.toList = a.toList) : pairHasB a b s = true := by
  rw [toList_inj] at h; subst h; simp [pairHasB]
theorem has_f {a b s : ByteArray} (h : ¬ s.toList = a.toList) : pairHasB a b s = (s.toList == b.toList) := by
  rw [toList_inj] at h
  have e : decide (a = s) = false := by simp; exact fun e => h e.symm
  rw [pairHasB, e, Bool.false_or, Bool.eq_iff_iff, decide_eq_true_eq, beq_iff_eq, toList_inj]
  exact eq_comm
end Go.Abs
