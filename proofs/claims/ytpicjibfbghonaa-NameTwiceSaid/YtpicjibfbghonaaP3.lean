import Derived.Test.YtpicjibfbghonaaP2
set_option linter.unusedVariables false
set_option linter.unusedSimpArgs false
namespace Go.Proofs.Ytpicjibfbghonaa
open Go Go.Abs
def leastB : List ByteArray → ByteArray
  | [] => ⟨#[]⟩
  | x :: xs => xs.foldl minStep x
theorem leastB_is (l : List ByteArray) (h : l ≠ []) : leastB l ∈ l ∧ ∀ y ∈ l, cmpB (leastB l) y ≤ 0 := by
  cases l with
  | nil => exact absurd rfl h
  | cons x xs => exact min_mem x xs
theorem least_app (a b : List ByteArray) (ha : a ≠ []) (hb : b ≠ []) : leastB (a ++ b) = minStep (leastB a) (leastB b) := by
  have h1 := leastB_is a ha
  have h2 := leastB_is b hb
  have h3 := leastB_is (a ++ b) (by simp [ha])
  have h := minStep_le (leastB a) (leastB b)
  refine min_is (a ++ b) _ _ h3.1 h3.2 ?_ fun y hy => ?_
  · rcases h.2.2 with e | e <;> rw [e] <;> simp [h1.1, h2.1]
  · rcases List.mem_append.1 hy with hy | hy
    · exact cmpB_le_trans h.1 (h1.2 y hy)
    · exact cmpB_le_trans h.2.1 (h2.2 y hy)
end Go.Proofs.Ytpicjibfbghonaa
