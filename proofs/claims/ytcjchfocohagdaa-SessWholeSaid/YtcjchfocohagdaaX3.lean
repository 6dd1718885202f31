import Derived.Test.YtcjchfocohagdaaX2
set_option linter.unusedVariables false
set_option linter.unusedSimpArgs false
namespace Go.Abs
open Go
theorem chg_opn {e : Se} {st t : Int} : ∀ {l : List Se}, hasN l e.1.1 = false → chgL (opnL l e) e.1.1 st t = opnL l (e.1, (st, t))
  | [], _ => by simp [opnL, insG, chgL, isN]
  | x :: l, h => by
    simp only [hasN, List.any_cons, Bool.or_eq_false_iff] at h
    have ih := chg_opn (e := e) (st := st) (t := t) (l := l) h.2
    have hx : ¬ isN e.1.1 x = true := by simp [h.1]
    rw [opnL] at ih ⊢
    rw [insG, opnL, insG]
    by_cases hq : aboveN e.1.1 x = true
    · rw [if_pos hq, if_pos hq, chgL, if_pos (by simp [isN])]
    · rw [if_neg hq, if_neg hq, chgL, if_neg hx, ih]; rfl
theorem whole_at {l : List Se} {e : Se} {s0 a st t : Int} (h : hasN l e.1.1 = false) : chgR (opnL l (e.1, (s0, a))) e.1.1 e.1.2 st t = opnL l (e.1, (st, t)) ∧ clsR (opnL l (e.1, (s0, a))) e.1.1 e.1.2 = l ∧ stR (opnL l (e.1, (s0, a))) e.1.1 e.1.2 t = ((a, t), (e.1.1, s0)) ∧ codeS (opnL l (e.1, (s0, a))) e.1.1 e.1.2 = 0 := by
  obtain ⟨e1, e2, e3⟩ := opn_cls (l := l) (e := (e.1, (s0, a))) h
  have e4 := chg_opn (l := l) (e := (e.1, (s0, a))) (st := st) (t := t) h
  simp only at e1 e2 e3 e4
  exact ⟨by rw [chgR, if_pos e2, e4], by rw [clsR, if_pos e2, e1], by rw [stR, if_pos e2, e3]; rfl, e2⟩
theorem whole_none {y : Stay} {a t : Int} (h : y.1.2 ≤ a) : decide ((meet1 y.1 (a, t)).2 ≤ (meet1 y.1 (a, t)).1) = true := by
  rw [decide_eq_true_eq]
  show min y.1.2 t ≤ max y.1.1 a
  omega
theorem opn_len (l : List Se) (e : Se) : (opnL l e).length ≤ l.length + 1 := by rw [opnL, insG_len]; omega
theorem whole_code {l : List Se} {e : Se} (h : hasN l e.1.1 = false) : codeS l e.1.1 e.1.2 = 101 := by
  refine (at_none e.1.1 e.1.2 l fun j hj => ?_).2.1
  rw [hasN, List.any_eq_false] at h
  exact Bool.eq_false_iff.2 (h _ (List.getElem_mem hj))
def coverS (sp : List Sp) (f a : Int) : Prop := ∀ τ : Int, hasB sp τ = (decide (f ≤ τ) && decide (τ < a))
theorem cover_nil (f : Int) : coverS [] f f := by
  intro τ
  rw [hasB_nil, Bool.eq_iff_iff]
  simp only [Bool.and_eq_true, decide_eq_true_eq, Bool.false_eq_true, false_iff]
  omega
theorem cover_next {sp : List Sp} {f a t : Int} (h : coverS sp f a) (h1 : f ≤ a) (h2 : a ≤ t) : coverS (sp ++ [(a, t)]) f t := by
  intro τ
  rw [hasB_append, h τ, hasB_cons, hasB_nil, Bool.eq_iff_iff]
  simp only [Bool.and_eq_true, decide_eq_true_eq, Bool.or_eq_true, Bool.false_eq_true, or_false]
  omega
theorem cover_norm {sp : List Sp} {f a : Int} (h : coverS sp f a) : normL sp = normL [(f, a)] := by
  refine norm_ext _ _ (norm_spec sp).1 (norm_spec _).1 fun τ => ?_
  rw [(norm_spec sp).2, (norm_spec _).2, h τ, hasB_cons, hasB_nil, Bool.or_false]
structure WholeI (e : Se) (k : Nat) (a : Int) (stays : List Stay) (sp : List Sp) (n : Nat) : Prop where
  le : k ≤ n
  ge : e.2.2 ≤ a
  l1 : stays.length = k
  l2 : sp.length = k
  ends : ∀ y ∈ stays, y.1.2 ≤ a
  cov : coverS sp e.2.2 a
theorem WholeI.start (e : Se) (n : Nat) : WholeI e 0 e.2.2 [] [] n := ⟨Nat.zero_le _, Int.le_refl _, rfl, rfl, by simp, cover_nil _⟩
theorem WholeI.next {e : Se} {k n : Nat} {a t s0 : Int} {stays : List Stay} {sp : List Sp} (h : WholeI e k a stays sp n) (hk : k < n) (ht : a ≤ t) : WholeI e (k + 1) t (stays ++ [((a, t), (e.1.1, s0))]) (sp ++ [(a, t)]) n := by
  refine ⟨hk, Int.le_trans h.ge ht, by rw [List.length_append, h.l1]; rfl, by rw [List.length_append, h.l2]; rfl, fun y hy => ?_, cover_next h.cov h.ge ht⟩
  rcases List.mem_append.1 hy with hy | hy
  · exact Int.le_trans (h.ends y hy) ht
  · rw [List.mem_singleton.1 hy]; exact Int.le_refl _
theorem ty_ints {c : AV} (h : Ty (.sl 8 (.int .i64)) [c]) : ∃ l : List Int, c = .sl 1 (ints l) ∧ l.length * 8 ≤ 140737488351232 := by
  simp only [Ty] at h
  obtain ⟨xs, hx, _, hl, hxs⟩ := h
  obtain ⟨l, rfl, _⟩ := ty_list (fun n : Int => [AV.s (.int .i64 n)]) (fun _ => True) (d := .int .i64) (fun cs h => by
    simp only [Ty] at h
    obtain ⟨n, hn, _⟩ := h
    exact ⟨n, hn, trivial⟩) (xs := xs) (fun x hx => by simp only [Ty]; exact hxs x hx)
  simp only [List.cons.injEq, and_true] at hx
  exact ⟨l, hx, by simpa using hl⟩
variable {P : Program}
theorem neint_f {t : TypeId} {k : IntKind} {a b : Int} (h : a = b) : abin P .neq t (.int k a) (.int k b) = some (.bool false) := by
  subst h; simp [abin, aint]
theorem rem_nat {t : TypeId} (k c : Nat) (hc : c ≠ 0) : abin P .rem t (.int .i64 (k : Nat)) (.int .i64 (c : Nat)) = some (.int .i64 ((k % c : Nat) : Int)) := by
  have : ¬ ((c : Nat) : Int) = 0 := by omega
  simp only [abin, aint, if_true, if_neg this]
  rfl
end Go.Abs
