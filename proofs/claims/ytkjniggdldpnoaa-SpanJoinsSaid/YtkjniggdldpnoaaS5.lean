import Derived.Test.YtkjniggdldpnoaaS3
set_option linter.unusedVariables false
namespace Go.Abs
/-- All ends are near enough. -/
def okL (l : List Sp) : Bool := l.all fun s => decide (s.1 ≤ 2199023255552) && decide (-2199023255552 ≤ s.1) && decide (s.2 ≤ 2199023255552) && decide (-2199023255552 ≤ s.2)
theorem okL_iff {l : List Sp} : okL l = true ↔ ∀ s ∈ l, s.1 ≤ 2199023255552 ∧ -2199023255552 ≤ s.1 ∧ s.2 ≤ 2199023255552 ∧ -2199023255552 ≤ s.2 := by
  simp [okL, and_assoc]
theorem ok_next {l : List Sp} {k : Nat} (h : okL (l.take k) = true) (hk : k < l.length) (h1 : l[k].1 ≤ 2199023255552) (h2 : -2199023255552 ≤ l[k].1) (h3 : l[k].2 ≤ 2199023255552) (h4 : -2199023255552 ≤ l[k].2) : okL (l.take (k + 1)) = true := by
  rw [okL_iff] at *
  intro s hs
  rw [← List.take_append_getElem hk, List.mem_append] at hs
  rcases hs with hs | hs
  · exact h s hs
  · simp only [List.mem_singleton] at hs; subst hs; exact ⟨h1, h2, h3, h4⟩
theorem ok_not {l : List Sp} {k : Nat} (hk : k < l.length) (h : 2199023255552 < l[k].1 ∨ l[k].1 < -2199023255552 ∨ 2199023255552 < l[k].2 ∨ l[k].2 < -2199023255552) : okL l = false := by
  rw [Bool.eq_false_iff]
  intro h0
  have := okL_iff.1 h0 _ (List.getElem_mem hk)
  omega
/-- Moved, if all ends are near enough. -/
def mvL (d : Int) (l : List Sp) : List Sp := if okL l = true then moveL d l else []
theorem mv_t {d : Int} {l : List Sp} (h : okL l = true) : mvL d l = moveL d l := if_pos h
theorem mv_f {d : Int} {l : List Sp} (h : okL l = false) : mvL d l = [] := if_neg (by simp [h])
theorem mv_next (d : Int) (l : List Sp) (k : Nat) (hk : k < l.length) : moveL d (l.take (k + 1)) = moveL d (l.take k) ++ [(l[k].1 + d, l[k].2 + d)] := by
  unfold moveL
  rw [← List.take_append_getElem hk, List.map_append]; rfl
theorem mv_len (d : Int) (l : List Sp) : (moveL d l).length = l.length := by simp [moveL]
theorem ok_within {e l : List Sp} (h : okL e = true) (hw : within (endsL e) l) : okL l = true := by
  rw [okL_iff] at *
  intro s hs
  obtain ⟨h1, h2⟩ := hw s hs
  obtain ⟨x, hx, e1⟩ := (ends_mem e s.1).1 h1
  obtain ⟨y, hy, e2⟩ := (ends_mem e s.2).1 h2
  have := h x hx
  have := h y hy
  omega
theorem ok_append {a b : List Sp} (ha : okL a = true) (hb : okL b = true) : okL (a ++ b) = true := by
  rw [okL_iff] at *
  intro s hs
  rcases List.mem_append.1 hs with hs | hs
  · exact ha s hs
  · exact hb s hs
theorem ok_norm {a : List Sp} (ha : okL a = true) : okL (normL a) = true := ok_within ha (norm_within a)
theorem ok_meet {a b : List Sp} (ha : okL a = true) (hb : okL b = true) : okL (meetL a b) = true := ok_within (ok_append ha hb) (meet_within a b)
theorem ok_less {a b : List Sp} (ha : okL a = true) (hb : okL b = true) : okL (lessL a b) = true := ok_within (ok_append ha hb) (less_within a b)
theorem mvs_norm (d : Int) {a : List Sp} (ha : okL a = true) : normL (moveL d a) = mvL d (normL a) := by rw [mv_t (ok_norm ha), norm_move]
theorem mvs_meet (d : Int) {a b : List Sp} (ha : okL a = true) (hb : okL b = true) : meetL (moveL d a) (moveL d b) = mvL d (meetL a b) := by rw [mv_t (ok_meet ha hb), meet_move]
theorem mvs_less (d : Int) {a b : List Sp} (ha : okL a = true) (hb : okL b = true) : lessL (moveL d a) (moveL d b) = mvL d (lessL a b) := by rw [mv_t (ok_less ha hb), less_move]
end Go.Abs
