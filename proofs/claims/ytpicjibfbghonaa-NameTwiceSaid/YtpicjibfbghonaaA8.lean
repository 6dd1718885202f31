import Derived.Test.YtpicjibfbghonaaA7
set_option linter.unusedVariables false
set_option linter.unusedSimpArgs false
namespace Go.Abs
open Go Go.RowKit
variable {P : Program} {w0 : World} {p0 : Hp}

theorem aop_box {o : Oper} {σ : St} {K : St → Prop} (hf : Fit w0 p0) {elem : TypeId} {x : Operand} {d : Nat} {av : AV} (ho : o.op = .box elem x) (hdst : o.dst = some d) (hd : d < σ.n) (hfr : σ.fresh d) (hx : σ.ev x = av)
    (h1 : ∀ c ∈ av.cells, c.one = true) (hk : K ({ σ with mem := (d, .box av.cells) :: σ.mem }.put d (.ref d 0 0 0))) : AOp P w0 p0 o σ K := by
  subst hx
  intro a w next Q hr hn
  have hrun : (execOp a.eval o).run P w = .ok (.value (.pointer (some ⟨w.heap.size, 0, none⟩))) (w.alloc (.cells (a.eval x).cells elem)) := by
    simp [execOp, ho, Instr.box, newVar, newRow]
  unfold Oper.wp
  rw [hrun]
  refine hn _ _ _ hk ?_
  have := rel_alloc hf hr hfr o.dst (fun y hy => by rw [hdst] at hy; cases hy; exact hd) (a.eval x).cells elem (.box (σ.ev x).cells) (.ref d 0 0 0) (.pointer (some ⟨w.heap.size, 0, none⟩)) ?_ ?_
  · rw [hdst] at this ⊢; exact this
  · intro p hs hm hkp
    obtain ⟨hl, hc⟩ := ((ev_rel hs x).keep hkp).cells h1
    exact ⟨w.heap.size, _, elem, by simp [Hp.upd], heap_alloc_new w _, hl, hc⟩
  · intro p hm
    exact .ref d 0 0 0 w.heap.size (by simp [Hp.upd])

/-- Pointwise. -/
def RelL (w : World) (p : Hp) (cs : List AV) (vs : List Value) : Prop := cs.length = vs.length ∧ ∀ (i : Nat) c v, cs[i]? = some c → vs[i]? = some v → RelV w p c v

def splice {α : Type} (l : List α) (off : Nat) (r : List α) : List α := l.take off ++ r ++ l.drop (off + r.length)

theorem foldl_set (cells : Array Value) (off : Nat) : ∀ (vs : List Value) (n : Nat), off + n + vs.length ≤ cells.size →
    ((vs.zipIdx n).foldl (fun cs (cj : Value × Nat) => cs.setIfInBounds (off + cj.2) cj.1) cells).toList = splice cells.toList (off + n) vs := by
  intro vs
  induction vs generalizing cells with
  | nil => intro n h; simp [splice]
  | cons v vs ih =>
    intro n h
    simp only [List.length_cons] at h
    simp only [List.zipIdx_cons, List.foldl_cons]
    rw [ih _ (n + 1) (by simp; omega)]
    simp only [splice, Array.toList_setIfInBounds, List.length_cons]
    apply List.ext_getElem?
    intro i
    simp only [List.getElem?_append, List.getElem?_take, List.getElem?_drop, List.length_append, List.length_take, List.length_set, List.getElem?_set, Array.length_toList, List.getElem?_cons]
    grind

theorem RelL.splice {w : World} {p : Hp} {cs : List AV} {vs : List Value} (h : RelL w p cs vs) {off : Nat} {rs : List AV} {us : List Value} (hr : RelL w p rs us) (hoff : off + rs.length ≤ cs.length) : RelL w p (splice cs off rs) (splice vs off us) := by
  obtain ⟨h1, h2⟩ := h
  obtain ⟨h3, h4⟩ := hr
  refine ⟨by simp [Abs.splice, h1, h3], fun i c v hc hv => ?_⟩
  simp only [Abs.splice, List.getElem?_append, List.getElem?_take, List.getElem?_drop, List.length_append, List.length_take] at hc hv
  rw [← h1, ← h3] at hv
  split at hc
  · rename_i hlt
    rw [if_pos hlt] at hv
    split at hc
    · rename_i hlt2
      rw [if_pos hlt2] at hv
      split at hc
      · rename_i h5; rw [if_pos h5] at hv; exact h2 i c v hc hv
      · cases hc
    · rename_i hlt2
      rw [if_neg hlt2] at hv
      exact h4 _ c v hc hv
  · rename_i hlt
    rw [if_neg hlt] at hv
    exact h2 _ c v hc hv

end Go.Abs
