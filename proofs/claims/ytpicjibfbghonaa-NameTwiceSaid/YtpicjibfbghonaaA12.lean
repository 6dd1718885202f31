import Derived.Test.YtpicjibfbghonaaA11
set_option linter.unusedVariables false
set_option linter.unusedSimpArgs false
namespace Go.Abs
open Go Go.RowKit
variable {P : Program} {w0 : World} {p0 : Hp}

/-- What a result variable holds. -/
def aresult (P : Program) (σ : St) : ResultVar → Option AV
  | .tmp t => some (σ.get t)
  | .cell a t => match σ.get a with
    | .ref g k j f => match look σ.mem g with
      | some m => match agg? P t with
        | some false => (m.at k j f)[0]?
        | some true => match cells? P t with
          | some n => if n ≤ (m.at k j f).length then some (.agg ((m.at k j f).take n)) else none
          | none => none
        | none => none
      | none => none
    | _ => none
def ares (P : Program) (fn : Func) (σ : St) : Option AV := match fn.results.toList.mapM (aresult P σ) with
  | some [a] => some a
  | some l => some (.tup l)
  | none => none

def rv1 (tmps : Array Value) (rv : ResultVar) : Sem Value := match rv with | .tmp t => pure (tmps.getD t undef) | .cell a t => do loadVar t (← asAddr (tmps.getD a undef))
theorem results_rv1 (fn : Func) (tmps : Array Value) : results fn tmps = (do let vs ← fn.results.mapM (rv1 tmps); pure (if h : vs.size = 1 then vs[0] else .tuple vs)) := by
  unfold results
  congr 1

theorem aresult_run {σ : St} {tmps : Array Value} {w : World} {p : Hp} (hs : SlotsRel w p σ.slots tmps) (hm : MemRel w p σ.mem) (rv : ResultVar) (r : AV) (h : aresult P σ rv = some r) :
    ∃ v, (rv1 tmps rv).run P w = .ok v w ∧ RelV w p r v := by
  cases rv with
  | tmp t =>
    simp only [aresult, Option.some.injEq] at h
    subst h
    exact ⟨_, rfl, ev_rel (a := ⟨tmps, []⟩) hs (.tmp t)⟩
  | cell a t =>
    simp only [aresult] at h
    have h1 := ev_rel (a := ⟨tmps, []⟩) (σ := σ) hs (.tmp a)
    simp only [St.ev, Act.eval] at h1
    generalize hv : tmps.getD a undef = u at h1
    split at h
    · rename_i g k j f hget
      rw [hget] at h1
      cases h1 with
      | ref _ _ _ _ b hg =>
        split at h
        · rename_i m hl
          split at h
          · rename_i hagg
            obtain ⟨v, hv', hr⟩ := (hm.holds g m hl).at hg 0 r h
            simp only [Nat.add_zero] at hv'
            exact ⟨v, by simp only [rv1, hv]; simp [asAddr, loadVar, run_agg hagg, hv'], hr⟩
          · rename_i hagg
            split at h
            · rename_i n hn
              split at h
              · rename_i hlen
                cases h
                have ho : ({ dst := none, op := .load t (.tmp a), type := 0, pos := "", after := #[], guard := none } : Oper).op = .load t (.tmp a) := rfl
                obtain ⟨v, hv2, hr⟩ := pure_load_refs (P := P) (σ := σ) ho hagg hn hget hl hlen ⟨tmps, []⟩ w p hs hm
                refine ⟨v, ?_, hr⟩
                simp only [execOp, Instr.loadAt, Act.eval, hv, Instr.sureAddr] at hv2
                simp only [rv1, hv, asAddr]
                simp at hv2 ⊢
                cases hrun : Sem.run P (loadVar t { block := b, off := j * k + f }) w with
                | ok v' w' => simp [hrun] at hv2; simp [hv2]
                | halt x w' => simp [hrun] at hv2
              · cases h
            · cases h
          · cases h
        · cases h
    · cases h

theorem ares_run {fn : Func} {σ : St} {tmps : Array Value} {w : World} {p : Hp} (hs : SlotsRel w p σ.slots tmps) (hm : MemRel w p σ.mem) (r : AV) (h : ares P fn σ = some r) :
    ∃ v, (results fn tmps).run P w = .ok v w ∧ RelV w p r v := by
  have key : ∀ (l : List ResultVar) (rs : List AV), l.mapM (aresult P σ) = some rs →
      ∃ vs : List Value, (l.mapM (m := Sem) (rv1 tmps)).run P w = .ok vs w ∧ RelL w p rs vs := by
    intro l
    induction l with
    | nil => intro rs h; simp at h; subst h; exact ⟨[], rfl, rfl, by simp⟩
    | cons x l ih =>
      intro rs h
      simp only [List.mapM_cons] at h
      cases hx : aresult P σ x with
      | none => simp [hx] at h
      | some r1 =>
        cases hl : l.mapM (aresult P σ) with
        | none => simp [hx, hl] at h
        | some rs' =>
          simp [hx, hl] at h
          subst h
          obtain ⟨v, hv, hr⟩ := aresult_run hs hm x r1 hx
          obtain ⟨vs, hvs, hrs1, hrs2⟩ := ih rs' hl
          refine ⟨v :: vs, ?_, by simp [hrs1], fun i c u hc hu => ?_⟩
          · rw [List.mapM_cons, Sem.run_bind, hv, Result.andThen_ok, Sem.run_bind, hvs]; rfl
          · cases i with
            | zero => simp at hc hu; subst hc; subst hu; exact hr
            | succ i => simp at hc hu; exact hrs2 i c u hc hu
  unfold ares at h
  cases hm' : fn.results.toList.mapM (aresult P σ) with
  | none => simp [hm'] at h
  | some rs =>
    obtain ⟨vs, h1, h2, h3⟩ := key _ _ hm'
    have hrun : (results fn tmps).run P w = .ok (if h : vs.toArray.size = 1 then vs.toArray[0] else .tuple vs.toArray) w := by
      rw [results_rv1, Sem.run_bind, Array.mapM_eq_mapM_toList, map_eq_pure_bind, Sem.run_bind, h1]
      rfl
    match rs, hm', h2, h3, h with
    | [a], hm', h2, h3, h =>
      simp [hm'] at h
      subst h
      match vs, h2 with
      | [v], _ => exact ⟨v, by rw [hrun]; rfl, h3 0 a v rfl rfl⟩
    | [], hm', h2, h3, h =>
      simp [hm'] at h
      subst h
      match vs, h2 with
      | [], _ => exact ⟨_, by rw [hrun]; rfl, .tup _ _ rfl (by simp)⟩
    | a :: b :: l, hm', h2, h3, h =>
      simp [hm'] at h
      subst h
      match vs, h2 with
      | v1 :: v2 :: vs', h2 =>
        refine ⟨.tuple (v1 :: v2 :: vs').toArray, by rw [hrun]; rfl, .tup _ _ (by simpa using h2) (fun i c v hc hv => h3 i c v hc (by simpa using hv))⟩

end Go.Abs
