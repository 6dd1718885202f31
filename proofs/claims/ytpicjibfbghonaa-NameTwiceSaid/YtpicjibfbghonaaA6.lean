import Derived.Test.YtpicjibfbghonaaA5
set_option linter.unusedVariables false
set_option linter.unusedSimpArgs false
namespace Go.Abs
open Go Go.RowKit
variable {P : Program} {w0 : World} {p0 : Hp}

def AV.one : AV → Bool
  | .s v => v.oneCell'
  | .agg _ | .tup _ | .bad => false
  | _ => true
theorem AV.one_of_leaf {c : AV} (h : c.leaf = true) : c.one = true := by cases c <;> first | exact h | rfl | (simp [AV.leaf] at h)
/-- The cells of a value. -/
def AV.cells : AV → List AV
  | .agg cs => cs
  | a => [a]

theorem RelV.one {w : World} {p : Hp} {c : AV} {v : Value} (h : RelV w p c v) (h1 : c.one = true) : v.oneCell' = true := by
  cases h <;> first | exact h1 | (simp [AV.one] at h1; done) | rfl

theorem RelV.cells {w : World} {p : Hp} {a : AV} {v : Value} (h : RelV w p a v) (h1 : ∀ c ∈ a.cells, c.one = true) :
    a.cells.length = v.cells.size ∧ ∀ (i : Nat) c, a.cells[i]? = some c → ∃ u, v.cells[i]? = some u ∧ RelV w p c u := by
  by_cases hagg : ∃ cs, a = .agg cs
  · obtain ⟨cs, rfl⟩ := hagg
    cases h with
    | agg _ vs hl h =>
      refine ⟨hl, fun i c hi => ?_⟩
      simp only [AV.cells] at hi
      have hlt : i < vs.size := by rw [← hl]; exact (List.getElem?_eq_some_iff.1 hi).1
      exact ⟨vs[i], by simp [Value.cells, hlt], h i c _ hi (by simp [hlt])⟩
  · have e : a.cells = [a] := by cases a <;> first | rfl | (exact absurd ⟨_, rfl⟩ hagg)
    have h2 := h.one (h1 a (by simp [e]))
    have e2 : v.cells = #[v] := by cases v <;> first | rfl | (simp [Value.oneCell'] at h2)
    rw [e, e2]
    refine ⟨rfl, fun i c hi => ?_⟩
    cases i with
    | zero => simp at hi; exact ⟨v, rfl, hi ▸ h⟩
    | succ i => simp at hi

/-- A cell of a block of this call's own. -/
theorem cell_of_heap {w : World} {b : Nat} {cur : Array Value} {T : TypeId} {z : Nat × Nat} (h : w.heap[b]? = some (.cells cur T z)) (i : Nat) : w.cell? ⟨b, i, none⟩ = cur[i]? := by
  simp [World.cell?, h]

/-- What stands at element j, from cell f on, of a block. -/
def AM.at (m : AM) (k j f : Nat) : List AV :=
  match m with
  | .box cs => if j = 0 then cs.drop f else []
  | .buf k' xs => if k' = k then ((xs[j]?).getD []).drop f else []

theorem AMRel.at {w : World} {p : Hp} {g : Nat} {m : AM} (h : AMRel w p g m) {k j f b : Nat} (hg : p.o g = some (some b)) (i : Nat) (c : AV) (hc : (m.at k j f)[i]? = some c) :
    ∃ v, w.cell? ⟨b, j * k + f + i, none⟩ = some v ∧ RelV w p c v := by
  cases m with
  | box cs =>
    simp only [AM.at] at hc
    split at hc
    · rename_i hj; subst hj
      obtain ⟨b', cur, T, h1, h2, h3, h4⟩ := h
      rw [hg] at h1; cases h1
      rw [List.getElem?_drop] at hc
      obtain ⟨v, hv, hr⟩ := h4 _ c hc
      exact ⟨v, by rw [cell_of_heap h2, Nat.zero_mul, Nat.zero_add]; exact hv, hr⟩
    · simp at hc
  | buf k' xs =>
    simp only [AM.at] at hc
    split at hc
    · rename_i hk; subst hk
      cases hx : xs[j]? with
      | none => simp [hx] at hc
      | some x =>
        simp only [hx, Option.getD_some, List.getElem?_drop] at hc
        rcases h with ⟨rfl, h1⟩ | ⟨b', cur, T, h1, h2, h3, h4, h5⟩
        · simp at hx
        · rw [hg] at h1; cases h1
          obtain ⟨v, hv, hr⟩ := h5 j x _ c hx hc
          exact ⟨v, by rw [cell_of_heap h2, Nat.add_assoc]; exact hv, hr⟩
    · simp at hc

theorem pure_load_ref {o : Oper} {σ : St} {x : Operand} {t : TypeId} {g k j f : Nat} {m : AM} {c : AV} (ho : o.op = .load t x) (ht : agg? P t = some false) (hx : σ.ev x = .ref g k j f) (hm : look σ.mem g = some m)
    (hc : (m.at k j f)[0]? = some c) : PureOp P o σ c := by
  intro act w p hs hmem
  have h1 := ev_rel hs x
  rw [hx] at h1
  generalize hv : act.eval x = v at *
  cases h1 with
  | ref _ _ _ _ b hg =>
    obtain ⟨v, hv', hr⟩ := (hmem.holds g m hm).at hg 0 c hc
    simp only [Nat.add_zero] at hv'
    exact ⟨v, by simp [execOp, ho, hv, Instr.loadAt, Instr.sureAddr, loadVar, run_agg ht, hv'], hr⟩

theorem pure_load_refs {o : Oper} {σ : St} {x : Operand} {t : TypeId} {g k j f n : Nat} {m : AM} (ho : o.op = .load t x) (ht : agg? P t = some true) (hk : cells? P t = some n) (hx : σ.ev x = .ref g k j f) (hm : look σ.mem g = some m)
    (hn : n ≤ (m.at k j f).length) : PureOp P o σ (.agg ((m.at k j f).take n)) := by
  intro act w p hs hmem
  have h1 := ev_rel hs x
  rw [hx] at h1
  generalize hv : act.eval x = v at *
  cases h1 with
  | ref _ _ _ _ b hg =>
    have hall : ∀ i, i < n → ∃ u, w.cell? ⟨b, j * k + f + i, none⟩ = some u ∧ ∀ c, (m.at k j f)[i]? = some c → RelV w p c u := fun i hi => by
      have e := List.getElem?_eq_getElem (l := m.at k j f) (i := i) (by omega)
      obtain ⟨u, h1, h2⟩ := (hmem.holds g m hm).at hg i _ e
      exact ⟨u, h1, fun c hc => by rw [e] at hc; cases hc; exact h2⟩
    let F : Nat → Value := fun i => if h : i < n then (hall i h).choose else undef
    have hF : ∀ i, (h : i < n) → w.cell? ⟨b, j * k + f + i, none⟩ = some (F i) ∧ ∀ c, (m.at k j f)[i]? = some c → RelV w p c (F i) := fun i h => by
      have := (hall i h).choose_spec
      simpa [F, h] using this
    refine ⟨.agg ((List.range n).map F).toArray, ?_, .agg _ _ (by simp; omega) (fun i c u hi hu => ?_)⟩
    · have := run_loadCells (P := P) (w := w) (⟨b, j * k + f, none⟩ : Addr) n F (fun i hi => by rw [add_at]; exact (hF i hi).1)
      simp [execOp, ho, hv, Instr.loadAt, Instr.sureAddr, loadVar, run_agg ht, run_size hk, this]
    · rw [List.getElem?_take] at hi
      split at hi
      · rename_i hlt
        simp [hlt] at hu
        rw [← hu]; exact (hF i hlt).2 c hi
      · cases hi

end Go.Abs
