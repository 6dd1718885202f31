import Derived.Test.YtkjniggdldpnoaaW8
import Derived.Test.YtkjniggdldpnoaaS3
set_option linter.unusedVariables false
set_option linter.unusedSimpArgs false
namespace Go.Proofs.Ytkjniggdldpnoaa
open Go Go.Abs

theorem sameT_den (a b : List Sp) (h : a = b) (ha : a.length ≤ 9223372036854775807) : Den Try.prog 26 [.sl 2 (a.map spC), .sl 2 (b.map spC)] (· = .s (.bool true)) := by
  subst h
  exact (same7_den a a ha ha).mono fun r h => h.trans (by simp)
theorem refSameT_den (a b : List Sp) (h : a = b) (ha : a.length ≤ 9223372036854775807) : Den Try.prog 22 [.sl 2 (a.map spC), .sl 2 (b.map spC)] (· = .s (.bool true)) := by
  subst h
  exact (same_den a a ha ha).mono fun r h => h.trans (by simp)
theorem joinT_den (a b : List Sp) (h : (a.length + b.length) * 16 ≤ 140737488355328) : Den Try.prog 24 [.sl 1 [[.sl 2 (a.map spC)], [.sl 2 (b.map spC)]]] (· = .sl 2 (normL (List.flatten [a, b]) |>.map spC)) :=
  join_den [a, b] (by simp) (by simp; omega)
end Go.Proofs.Ytkjniggdldpnoaa
