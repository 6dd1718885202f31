import Derived.Test.YtpicjibfbghonaaA8
set_option linter.unusedVariables false
set_option linter.unusedSimpArgs false
namespace Go.Abs
open Go Go.RowKit
variable {P : Program} {w0 : World} {p0 : Hp}

def afill (place : Nat → Option (Nat × Nat)) (cs : List AV) : List (Nat × AV) → Option (List AV)
  | [] => some cs
  | (i, a) :: r => match place i with
    | none => none
    | some (off, size) => if a.cells.length = size ∧ off + size ≤ cs.length then afill place (splice cs off a.cells) r else none

theorem fill_rel {w : World} {p : Hp} {σ : St} {act : Act} (hs : SlotsRel w p σ.slots act.tmps) (place : Nat → Option (Nat × Nat)) : ∀ (parts : List (Nat × Operand)) (cs cs' : List AV) (cells : Array Value),
    RelL w p cs cells.toList → (∀ x ∈ parts, ∀ c ∈ (σ.ev x.2).cells, c.one = true) → afill place cs (parts.map fun x => (x.1, σ.ev x.2)) = some cs' →
    ∃ cells', Instr.fill place cells (parts.map fun x => (x.1, act.eval x.2)) = some cells' ∧ RelL w p cs' cells'.toList := by
  intro parts
  induction parts with
  | nil => intro cs cs' cells h _ hf; simp [afill] at hf; subst hf; exact ⟨cells, rfl, h⟩
  | cons x parts ih =>
    intro cs cs' cells h h1 hf
    simp only [List.map_cons, afill] at hf
    cases hpl : place x.1 with
    | none => simp [hpl] at hf
    | some os =>
      obtain ⟨off, size⟩ := os
      simp only [hpl] at hf
      split at hf
      · rename_i hc
        obtain ⟨hlen, hoff⟩ := hc
        obtain ⟨e1, e2⟩ := (ev_rel hs x.2).cells (h1 x (by simp))
        have hrl : RelL w p (σ.ev x.2).cells (act.eval x.2).cells.toList := ⟨by simpa using e1, fun i c v hc hv => by
          obtain ⟨u, hu, hr⟩ := e2 i c hc
          simp only [Array.getElem?_toList] at hv
          rw [hu] at hv; cases hv; exact hr⟩
        have hsz : (act.eval x.2).cells.size = size := by rw [← e1]; exact hlen
        have hcs : off + size ≤ cells.size := by have := h.1; simp at this; omega
        have hset := foldl_set cells off (act.eval x.2).cells.toList 0 (by simp [hsz]; omega)
        obtain ⟨cells', hf', hr'⟩ := ih (splice cs off (σ.ev x.2).cells) cs' ((act.eval x.2).cells.zipIdx.foldl (fun cs (cj : Value × Nat) => cs.setIfInBounds (off + cj.2) cj.1) cells)
          (by
            have e : ((act.eval x.2).cells.zipIdx.foldl (fun cs (cj : Value × Nat) => cs.setIfInBounds (off + cj.2) cj.1) cells).toList = splice cells.toList off (act.eval x.2).cells.toList := by
              rw [← Array.foldl_toList, Array.toList_zipIdx]; simpa using hset
            rw [e]; exact h.splice hrl (by omega))
          (fun y hy => h1 y (by simp [hy])) hf
        refine ⟨cells', ?_, hr'⟩
        simp only [List.map_cons, Instr.fill, hpl]
        rw [if_neg (by simp [hsz]; omega)]
        exact hf'
      · cases hf

def zeros? (P : Program) (t : TypeId) : Option (List Value) := (P.info? t).bind fun i => i.zero.map fun z => z.cells.toList
def places? (P : Program) (t : TypeId) : Option (List (Nat × Nat)) := match P.underlying t with | some (.struct fs) => fs.toList.mapM fun f => (cells? P f.type).map fun n => (f.offset, n) | _ => none

theorem run_places (P : Program) (w : World) : ∀ (fs : List Field) (l : List (Nat × Nat)), (fs.mapM fun f => (cells? P f.type).map fun n => (f.offset, n)) = some l →
    (fs.mapM (m := Sem) fun f => Prod.mk f.offset <$> sizeOf f.type).run P w = .ok l w := by
  intro fs
  induction fs with
  | nil => intro l h; simp at h; subst h; rfl
  | cons f fs ih =>
    intro l h
    simp only [List.mapM_cons] at h ⊢
    cases hc : cells? P f.type with
    | none => simp [hc] at h
    | some n =>
      cases hm : (fs.mapM fun f => (cells? P f.type).map fun n => (f.offset, n)) with
      | none => simp [hc, hm] at h
      | some l' =>
        simp [hc, hm] at h
        subst h
        simp [Sem.run_bind, run_size hc, ih l' hm]

theorem zeros?_inv {t : TypeId} {zs : List Value} (h : zeros? P t = some zs) (w : World) : ∃ z, (zeroValue t).run P w = .ok z w ∧ z.cells.toList = zs := by
  unfold zeros? at h
  cases hi : P.info? t with
  | none => simp [hi] at h
  | some i =>
    cases hz : i.zero with
    | none => simp [hi, hz] at h
    | some z => simp [hi, hz] at h; exact ⟨z, by simp [zeroValue, typeInfo, hi, hz], h⟩

theorem pure_build {o : Oper} {σ : St} {t : TypeId} {parts : List (Nat × Operand)} {zs : List Value} {pl : List (Nat × Nat)} {cs : List AV} (ho : o.op = .build t parts.toArray) (hz : zeros? P t = some zs) (hp : places? P t = some pl)
    (h1 : ∀ x ∈ parts, ∀ c ∈ (σ.ev x.2).cells, c.one = true) (hc : afill (fun i => pl[i]?) (zs.map .s) (parts.map fun x => (x.1, σ.ev x.2)) = some cs) : PureOp P o σ (.agg cs) := by
  intro act w p hs _
  obtain ⟨z, hz1, hz2⟩ := zeros?_inv hz w
  have hu : ∃ fs, P.underlying t = some (.struct fs) ∧ fs.toList.mapM (fun f => (cells? P f.type).map fun n => (f.offset, n)) = some pl := by
    unfold places? at hp
    split at hp
    · rename_i fs hu; exact ⟨fs, hu, hp⟩
    · cases hp
  obtain ⟨fs, hu, hm⟩ := hu
  have hzr : RelL w p (zs.map .s) z.cells.toList := by
    rw [hz2]
    refine ⟨by simp, fun i c v hc hv => ?_⟩
    simp [hv] at hc; subst hc; exact .s v
  obtain ⟨cells', hf, hr⟩ := fill_rel hs (fun i => pl[i]?) parts (zs.map .s) cs z.cells hzr h1 hc
  refine ⟨.agg cells', ?_, .agg _ _ (by simpa using hr.1) (fun i c v hc hv => hr.2 i c v hc (by simpa using hv))⟩
  have hpl := run_places P w fs.toList pl hm
  have hpl2 : (fs.mapM (m := Sem) fun f => Prod.mk f.offset <$> sizeOf f.type).run P w = .ok pl.toArray w := by
    rw [Array.mapM_eq_mapM_toList, map_eq_pure_bind, Sem.run_bind, hpl]
    rfl
  simp only [execOp, ho, Instr.build]
  simp [Sem.run_bind, hz1, run_underlying hu, hpl2]
  rw [hf]
  simp

end Go.Abs
