import Derived.Test.YtcjchfocohagdaaU2
import Derived.Test.YtcjchfocohagdaaQ4
set_option linter.unusedVariables false
set_option linter.unusedSimpArgs false
namespace Go.Abs
open Go Go.RowKit
variable {P : Program}
theorem den_is {f : Nat} {args : List AV} {x y : AV} (h : Den P f args (· = x)) (e : x = y) : Den P f args (· = y) := e ▸ h
theorem den_nilh {f k : Nat} {rest : List AV} {Q : AV → Prop} (h : Den P f (.sl k [] :: rest) Q) : Den P f (.s (.slice none 0 0) :: rest) Q := by
  intro A w vals hA hr
  refine h A w vals hA ⟨by simpa using hr.1, fun i c v hc hv => ?_⟩
  match i, hc with
  | 0, hc =>
    cases hc
    have := hr.2 0 _ v rfl hv
    cases this
    exact .sln k none 0 (by simp [maxLen])
  | i + 1, hc => exact hr.2 (i + 1) c v hc hv
/-- Rising, said of any two. -/
def RisR (a b : En) : Prop := ordE a b < 0 ∧ (a.1 = b.1 → a.2.2 ≤ b.2.1)
theorem RisR.trans {a b c : En} (hb : okE b = true) (h1 : RisR a b) (h2 : RisR b c) : RisR a c := by
  refine ⟨ordE_tri.lt_tr h1.1 h2.1, fun e => ?_⟩
  have hab : pairC a.1 b.1 ≤ 0 := by
    have := h1.1; rw [ordE_lex] at this; unfold lexC at this; split at this <;> simp only [] at * <;> omega
  have hbc : pairC b.1 c.1 ≤ 0 := by
    have := h2.1; rw [ordE_lex] at this; unfold lexC at this; split at this <;> simp only [] at * <;> omega
  have hba : pairC b.1 a.1 ≤ 0 := by rw [e]; exact hbc
  have h0 : pairC a.1 b.1 = 0 := by have := pairC_tri.swap a.1 b.1; omega
  have e1 := pairC_eq.1 h0
  have g1 := h1.2 e1
  have g2 := h2.2 (e1 ▸ e)
  have g3 : b.2.1 < b.2.2 := by
    simp only [okE, Bool.and_eq_true, decide_eq_true_eq] at hb; exact hb.1
  omega
theorem risE_iff (l : List En) : risE l = true ↔ (∀ x ∈ l, okE x = true) ∧ l.Pairwise RisR := by
  rw [risE, ris_pair RisR (fun x y => nextE_t) (fun x y z hy h1 h2 => RisR.trans hy h1 h2)]
  simp
theorem risE_filter {l : List En} (q : En → Bool) (h : risE l = true) : risE (l.filter q) = true := by
  rw [risE_iff] at *
  exact ⟨fun x hx => h.1 x (List.mem_filter.1 hx).1, h.2.filter q⟩
theorem erased_none {l : List En} {u : ByteArray} {p : Pr} (h : p.1.toList = u.toList ∨ p.2.toList = u.toList) : (l.filter fun e => !hasUB u e).filter (ofB p) = [] := by
  rw [List.filter_filter, List.filter_eq_nil_iff]
  intro e _ h0
  simp only [Bool.and_eq_true, ofB, decide_eq_true_eq] at h0
  have := hasU_t (u := u) (e := e) (by rw [h0.1]; exact h)
  rw [this] at h0; simp at h0
theorem erased_periods {l : List En} {u : ByteArray} {p : Pr} (h : p.1.toList = u.toList ∨ p.2.toList = u.toList) : periodsL (l.filter fun e => !hasUB u e) p = [] := by
  rw [periodsL, erased_none h]; rfl
theorem erased_on {l : List En} {u : ByteArray} {p : Pr} (h : p.1.toList = u.toList ∨ p.2.toList = u.toList) : onB (l.filter fun e => !hasUB u e) p = false := by
  rw [Bool.eq_false_iff]
  intro h0
  obtain ⟨e, he, h1, _⟩ := onB_iff.1 h0
  have : e ∈ (l.filter fun e => !hasUB u e).filter (ofB p) := List.mem_filter.2 ⟨he, by simp [ofB, h1]⟩
  rw [erased_none h] at this; simp at this
theorem erased_others {l : List En} {u : ByteArray} {p : Pr} (h1 : ¬ p.1.toList = u.toList) (h2 : ¬ p.2.toList = u.toList) : periodsL (l.filter fun e => !hasUB u e) p = periodsL l p := by
  unfold periodsL
  congr 2
  rw [List.filter_filter]
  apply List.filter_congr
  intro e _
  by_cases e1 : e.1 = p
  · rw [hasU_f (by rw [e1]; exact h1) (by rw [e1]; exact h2), Bool.and_true]
  · simp [ofB, e1]
theorem periods_len (l : List En) (p : Pr) : (periodsL l p).length ≤ 2 * l.length := by
  have h1 := norm_len ((l.filter (ofB p)).map Prod.snd)
  have h2 := List.length_filter_le (ofB p) l
  rw [List.length_map] at h1
  show (normL _).length ≤ _
  omega
end Go.Abs
