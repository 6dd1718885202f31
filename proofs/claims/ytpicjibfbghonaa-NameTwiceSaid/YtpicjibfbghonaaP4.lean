import Derived.Test.YtpicjibfbghonaaP3
set_option linter.unusedVariables false
set_option linter.unusedSimpArgs false
namespace Go.Proofs.Ytpicjibfbghonaa
open Go Go.Abs
/-- How often s stands in a row. -/
def cntB (s : ByteArray) (l : List ByteArray) : Nat := l.countP fun t => decide (t = s)
theorem cnt_take (s : ByteArray) (l : List ByteArray) (k : Nat) (h : k < l.length) : cntB s (l.take (k + 1)) = cntB s (l.take k) + if l[k] = s then 1 else 0 := by
  unfold cntB
  rw [List.take_add_one, List.getElem?_eq_getElem h, List.countP_append]
  simp [List.countP_cons]
theorem cnt_le (s : ByteArray) (l : List ByteArray) : cntB s l ≤ l.length := List.countP_le_length
theorem rising_cnt (s : ByteArray) : ∀ l : List ByteArray, Rising l → s ∈ l → cntB s l = 1
  | [], _, h => by simp at h
  | x :: r, hr, h => by
    have hr' := List.pairwise_cons.1 hr
    have hself := (cmpB_eq s s).2 rfl
    unfold cntB
    rw [List.countP_cons]
    by_cases e : x = s
    · subst e
      have : (r.countP fun t => decide (t = x)) = 0 := by
        rw [List.countP_eq_zero]
        intro y hy
        have := hr'.1 y hy
        simp only [decide_eq_true_eq]
        intro e; subst e; omega
      rw [this]; simp
    · have hs : s ∈ r := by
        rcases List.mem_cons.1 h with h | h
        · exact absurd h.symm e
        · exact h
      have ih := rising_cnt s r hr'.2 hs
      unfold cntB at ih
      rw [ih]; simp [e]
theorem sorted_same (a b : List ByteArray) (h : ∀ x, x ∈ a ↔ x ∈ b) : sortedL a = sortedL b := by
  have ha := sorted_is a
  have hb := sorted_is b
  exact rising_unique _ _ ha.1 hb.1 fun x => by rw [ha.2 x, hb.2 x, h x]
theorem sorted_again (l : List ByteArray) : sortedL (sortedL l ++ l) = sortedL l := sorted_same _ _ fun x => by rw [List.mem_append, (sorted_is l).2 x]; simp
theorem sorted_more (l : List ByteArray) (s : ByteArray) : sortedL (sortedL l ++ [s]) = putL (sortedL l) s := by
  have h := sorted_is (sortedL l ++ [s])
  have hp := putL_rising s (sortedL l) (sorted_is l).1
  exact rising_unique _ _ h.1 hp.1 fun x => by rw [h.2 x, hp.2 x]; simp [or_comm]
theorem putRest_ge (s : ByteArray) : ∀ (l : List ByteArray) (d : Bool), l.length ≤ (putRest s l d).length
  | [], d => by simp
  | x :: r, d => by
    simp only [putRest]
    split
    · have := putRest_ge s r true; simp; omega
    · have := putRest_ge s r (d || decide (cmpB s x = 0)); simp; omega
end Go.Proofs.Ytpicjibfbghonaa
