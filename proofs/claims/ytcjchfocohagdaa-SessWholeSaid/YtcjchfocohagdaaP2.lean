import Derived.Test.YtcjchfocohagdaaP
set_option linter.unusedVariables false
set_option linter.unusedSimpArgs false
namespace Go.Abs
open Go
theorem minStep_le (m x : ByteArray) : cmpB (minStep m x) m ≤ 0 ∧ cmpB (minStep m x) x ≤ 0 ∧ (minStep m x = m ∨ minStep m x = x) := by
  have hs : ∀ z, cmpB z z = 0 := fun z => (cmpB_eq z z).2 rfl
  have e := cmpB_swap x m
  unfold minStep
  split
  · exact ⟨by omega, by rw [hs]; omega, .inr rfl⟩
  · exact ⟨by rw [hs]; omega, by omega, .inl rfl⟩
theorem min_least : ∀ (xs : List ByteArray) (m : ByteArray), cmpB (xs.foldl minStep m) m ≤ 0 ∧ (∀ y ∈ xs, cmpB (xs.foldl minStep m) y ≤ 0) ∧ (xs.foldl minStep m = m ∨ xs.foldl minStep m ∈ xs)
  | [], m => ⟨by have := (cmpB_eq m m).2 rfl; simp [this], by simp, .inl rfl⟩
  | x :: xs, m => by
    have h := minStep_le m x
    have ih := min_least xs (minStep m x)
    rw [List.foldl_cons]
    refine ⟨cmpB_le_trans ih.1 h.1, fun y hy => ?_, ?_⟩
    · rcases List.mem_cons.1 hy with e | e
      · subst e; exact cmpB_le_trans ih.1 h.2.1
      · exact ih.2.1 y e
    · rcases ih.2.2 with e | e
      · rcases h.2.2 with e' | e'
        · exact .inl (e.trans e')
        · exact .inr (by rw [e, e']; simp)
      · exact .inr (by simp [e])
theorem min_is (l : List ByteArray) (m m' : ByteArray) (h1 : m ∈ l) (h2 : ∀ y ∈ l, cmpB m y ≤ 0) (h3 : m' ∈ l) (h4 : ∀ y ∈ l, cmpB m' y ≤ 0) : m = m' := by
  have e := cmpB_swap m m'
  have a := h2 m' h3
  have b := h4 m h1
  exact (cmpB_eq m m').1 (by omega)
theorem min_mem (x : ByteArray) (xs : List ByteArray) : xs.foldl minStep x ∈ x :: xs ∧ ∀ y ∈ x :: xs, cmpB (xs.foldl minStep x) y ≤ 0 := by
  have h := min_least xs x
  refine ⟨by rcases h.2.2 with e | e <;> simp [e], fun y hy => ?_⟩
  rcases List.mem_cons.1 hy with e | e
  · subst e; exact h.1
  · exact h.2.1 y e
theorem least_first (x : ByteArray) (xs : List ByteArray) : (strs (sortedL (x :: xs)))[((0 : Nat) : Int).toNat]? = some [.s (.string (xs.foldl minStep x))] := by
  have h := sorted_is (x :: xs)
  have hm := min_mem x xs
  cases hs : sortedL (x :: xs) with
  | nil => have := (h.2 x).2 (by simp); rw [hs] at this; simp at this
  | cons y r =>
    have hy : y ∈ x :: xs := (h.2 y).1 (by rw [hs]; simp)
    have hr := h.1
    rw [hs] at hr
    have hy2 : ∀ z ∈ x :: xs, cmpB y z ≤ 0 := fun z hz => by
      have hz' := (h.2 z).2 hz
      rw [hs] at hz'
      rcases List.mem_cons.1 hz' with e | e
      · subst e; have := (cmpB_eq z z).2 rfl; omega
      · exact Int.le_of_lt ((List.pairwise_cons.1 hr).1 z e)
    have := min_is (x :: xs) y (xs.foldl minStep x) hy hy2 hm.1 hm.2
    subst this
    rfl
theorem strs_ref {l : List ByteArray} {k : Nat} (h : k < l.length) : ((AM.buf 1 (strs l)).at 1 (0 + ((k : Nat) : Int).toNat) 0)[0]? = some (.s (.string l[k])) := by
  have : (strs l)[k]? = some [.s (.string l[k])] := by have := strs_at h; rwa [Int.toNat_natCast] at this
  simp [AM.at, this]
theorem sortedL_len (l : List ByteArray) : (sortedL l).length ≤ l.length := by
  have key : ∀ (l acc : List ByteArray), (l.foldl putL acc).length ≤ acc.length + l.length := by
    intro l
    induction l with
    | nil => intro acc; simp
    | cons s l ih =>
      intro acc
      have h1 := ih (putL acc s)
      have h2 := putL_len acc s
      simp only [List.foldl_cons, List.length_cons]; omega
  have := key l []
  simpa [sortedL] using this
end Go.Abs
