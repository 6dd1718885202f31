import Derived.Test.YtpicjibfbghonaaA27
set_option linter.unusedVariables false
set_option linter.unusedSimpArgs false
namespace Go.Abs
open Go Go.RowKit
variable {P : Program} {w0 : World} {p0 : Hp}

theorem aop_alloc {o : Oper} {σ : St} {K : St → Prop} (hf : Fit w0 p0) {elem : TypeId} {d : Nat} {zs : List Value} (ho : o.op = .alloc elem) (hdst : o.dst = some d) (hd : d < σ.n) (hfr : σ.fresh d) (hz : zeros? P elem = some zs)
    (hk : K ({ σ with mem := (d, .box (zs.map .s)) :: σ.mem }.put d (.ref d 0 0 0))) : AOp P w0 p0 o σ K := by
  intro a w next Q hr hn
  obtain ⟨z, hz1, hz2⟩ := zeros?_inv hz w
  have hrun : (execOp a.eval o).run P w = .ok (.value (.pointer (some ⟨w.heap.size, 0, none⟩))) (w.alloc (.cells z.cells elem)) := by
    simp [execOp, ho, Instr.alloc, hz1, newVar, newRow]
  unfold Oper.wp
  rw [hrun]
  refine hn _ _ _ hk ?_
  have := rel_alloc hf hr hfr o.dst (fun y hy => by rw [hdst] at hy; cases hy; exact hd) z.cells elem (.box (zs.map .s)) (.ref d 0 0 0) (.pointer (some ⟨w.heap.size, 0, none⟩)) ?_ ?_
  · rw [hdst] at this ⊢; exact this
  · intro p hs hm hkp
    refine ⟨w.heap.size, _, elem, by simp [Hp.upd], heap_alloc_new w _, by rw [← hz2]; simp, fun i c hc => ?_⟩
    rw [List.getElem?_map] at hc
    cases hzi : zs[i]? with
    | none => simp [hzi] at hc
    | some v =>
      simp [hzi] at hc
      subst hc
      exact ⟨v, by rw [← Array.getElem?_toList, hz2, hzi], .s v⟩
  · intro p hm
    exact .ref d 0 0 0 w.heap.size (by simp [Hp.upd])
section
variable {n : Nat} {sl : List (Nat × AV)} {m : Mem} {ops : Array Oper} {rest : List Oper} {Q : Exit → St → Prop} {d ty : Nat} {ps : String} {af : Array Edge}
theorem x_alloc (hf : Fit w0 p0) {t : Nat} {zs : List Value} (hd : lt d n = true) (hE : lt d E0 = true) (hl : lk m d = none) (hz : zeros? P t = some zs) (hk : AOps P w0 p0 ops rest ⟨n, (d, .ref d 0 0 0) :: sl, (d, .box (zs.map .s)) :: m⟩ Q) :
    AOps P w0 p0 ops (⟨some d, .alloc t, ty, ps, af, none⟩ :: rest) ⟨n, sl, m⟩ Q :=
  aops_cons rfl (aop_alloc hf rfl rfl (lt_of hd) (fresh_of hE hl) hz hk)
end
/-- nil reads as a row of none. -/
theorem den_nil1 {f k : Nat} {Q : AV → Prop} (h : Den P f [.sl k []] Q) : Den P f [.s (.slice none 0 0)] Q := by
  intro A w vals hA hr
  refine h A w vals hA ⟨by simpa using hr.1, fun i c v hc hv => ?_⟩
  match i, hc with
  | 0, hc =>
    cases hc
    have := hr.2 0 _ v rfl hv
    cases this
    exact .sln k none 0 (by simp [maxLen])
theorem streq_t {t : TypeId} (a : ByteArray) : abin P .eql t (.string a) (.string a) = some (.bool true) := by simp [abin, astr]
end Go.Abs
