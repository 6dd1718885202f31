import Derived.Test.YtpicjibfbghonaaA18
set_option linter.unusedVariables false
set_option linter.unusedSimpArgs false
namespace Go.Abs
open Go Go.RowKit
variable {P : Program} {w0 : World} {p0 : Hp}

def setMem (g : Nat) (m : AM) : Mem → Mem
  | [] => []
  | (g', m') :: r => if g' = g then (g, m) :: r else (g', m') :: setMem g m r
theorem look_setMem (g : Nat) (m : AM) : ∀ (l : Mem), (look l g).isSome = true → ∀ t, look (setMem g m l) t = if t = g then some m else look l t
  | [], h, _ => by simp [look] at h
  | (d, m') :: r, h, t => by
    simp only [setMem]
    by_cases e : d = g
    · rw [if_pos e]
      simp only [look]
      subst e
      by_cases e2 : t = d
      · subst e2; simp
      · rw [if_neg (fun h => e2 h.symm), if_neg e2, if_neg (fun h => e2 h.symm)]
    · rw [if_neg e]
      simp only [look, if_neg e] at h ⊢
      by_cases e2 : d = t
      · subst e2; simp [e]
      · rw [if_neg e2, if_neg e2]; exact look_setMem g m r h t

/-- What a store makes of a block's contents. -/
def AM.store (m : AM) (k j f : Nat) (rs : List AV) : Option AM :=
  match m with
  | .box cs => if j = 0 ∧ f + rs.length ≤ cs.length then some (.box (splice cs f rs)) else none
  | .buf k' xs => match xs[j]? with
    | some x => if k' = k ∧ f + rs.length ≤ k then some (.buf k (xs.set j (splice x f rs))) else none
    | none => none

theorem splice_get {α : Type} (l r : List α) (off : Nat) (h : off + r.length ≤ l.length) (i : Nat) : (splice l off r)[i]? = if off ≤ i ∧ i < off + r.length then r[i - off]? else l[i]? := by
  unfold splice
  simp only [List.getElem?_append, List.getElem?_take, List.getElem?_drop, List.length_append, List.length_take]
  grind

theorem aop_store {o : Oper} {σ : St} {K : St → Prop} (hf : Fit w0 p0) {t : TypeId} {x y : Operand} {g k j f n : Nat} {m m' : AM} (ho : o.op = .store t x y) (hdst : o.dst = none) (hx : σ.ev x = .ref g k j f) (hl : look σ.mem g = some m)
    (hn : cells? P t = some n) (hlen : (σ.ev y).cells.length = n) (h1c : ∀ c ∈ (σ.ev y).cells, c.one = true) (hlf : ∀ k xs, m = .buf k xs → ∀ c ∈ (σ.ev y).cells, c.leaf = true) (hm' : m.store k j f (σ.ev y).cells = some m')
    (hK : K { σ with mem := setMem g m' σ.mem }) : AOp P w0 p0 o σ K := by
  intro a w next Q ⟨h1, h2, p, hE, hs, hm⟩ hnx
  have hr := ev_rel hs x
  rw [hx] at hr
  generalize hv : a.eval x = v at *
  cases hr with
  | ref _ _ _ _ b hg =>
    obtain ⟨e1, e2⟩ := (ev_rel hs y).cells h1c
    generalize hyv : a.eval y = yv at *
    generalize hya : (σ.ev y).cells = rs at *
    have hone : ∀ u ∈ yv.cells.toList, u.oneCell' = true := by
      intro u hu
      obtain ⟨i, hi⟩ := List.getElem?_of_mem hu
      have hlt := (List.getElem?_eq_some_iff.1 hi).1
      have hlt' : i < rs.length := by simp at hlt; omega
      obtain ⟨u', hu', hr'⟩ := e2 i _ (List.getElem?_eq_getElem hlt')
      simp only [Array.getElem?_toList] at hi
      rw [hi] at hu'; cases hu'
      exact hr'.one (h1c _ (List.getElem_mem hlt'))
    have hyl : yv.cells.toList.length = n := by simp; omega
    have hcur : ∃ cur T, w.heap[b]? = some (.cells cur T (0, 0)) ∧ j * k + f + n ≤ cur.size := by
      have := hm.holds g m hl
      cases m with
      | box cs =>
        obtain ⟨b', cur, T, d1, d2, d3, d4⟩ := this
        rw [hg] at d1; cases d1
        simp only [AM.store] at hm'
        split at hm'
        · rename_i hc; exact ⟨cur, T, d2, by rw [hc.1]; simp; omega⟩
        · cases hm'
      | buf k' xs =>
        simp only [AM.store] at hm'
        split at hm'
        · rename_i z hz
          split at hm'
          · rename_i hc
            rcases this with ⟨d0, d1⟩ | ⟨b', cur, T, d1, d2, d3, d4, d5⟩
            · rw [hg] at d1; cases d1
            · rw [hg] at d1; cases d1
              refine ⟨cur, T, d2, ?_⟩
              have hj := (List.getElem?_eq_some_iff.1 hz).1
              have : (j + 1) * k ≤ cur.size := by
                rw [← hc.1]; exact Nat.le_trans (Nat.mul_le_mul_right _ hj) d3
              rw [Nat.add_mul] at this
              omega
          · cases hm'
        · cases hm'
    obtain ⟨cur, T, hh, hfit⟩ := hcur
    generalize hcs : (cur.toList.take (j * k + f) ++ yv.cells.toList ++ cur.toList.drop (j * k + f + yv.cells.toList.length)).toArray = cs
    have hrun : (execOp a.eval o).run P w = .ok .skip (w.setRow b cs) := by
      have hst := run_storeCells_at P b (j * k + f) T yv.cells.toList 0 cur w hh (by rw [hyl]; simpa using hfit) hone
      simp only [Nat.add_zero] at hst
      rw [hcs] at hst
      have hsz : yv.cells.size = n := by simpa using hyl
      simp [execOp, ho, hv, hyv, Instr.storeAt, Instr.sureAddr, storeVar, run_size hn, hsz, hst]
    have hspl : cs.toList = splice cur.toList (j * k + f) yv.cells.toList := by rw [← hcs]; rfl
    have hcsz : cs.size = cur.size := by rw [← hcs]; simp; simp at hyl; omega
    have hbk : (w.setRow b cs).heap[b]? = some (.cells cs T (0, 0)) := setRow_heap w b cur cs T _ hh
    have hoth : ∀ b', b' ≠ b → (w.setRow b cs).heap[b']? = w.heap[b']? := fun b' hne => setRow_other w b b' cs hne
    have hwsz : (w.setRow b cs).heap.size = w.heap.size := by simp [World.setRow]
    have hkeep : Keeps w p (w.setRow b cs) p := by
      refine ⟨fun b' hb' => ?_, fun _ _ h => h, fun g' b' hg' cur2 T2 hh2 => ?_⟩
      · have hne : b' ≠ b := fun e => hb'.2.1 g (e ▸ hg)
        exact ⟨⟨by rw [hwsz]; exact hb'.1, hb'.2⟩, hoth b' hne⟩
      · by_cases hne : b' = b
        · subst hne; rw [hh] at hh2; cases hh2; exact ⟨cs, hbk, hcsz⟩
        · exact ⟨cur2, by rw [hoth b' hne]; exact hh2, rfl⟩
    have hE' : Ext w0 p0 (w.setRow b cs) p := hE.step hkeep rfl ⟨rfl, Nat.le_refl _⟩ rfl (by rw [hwsz]; exact Nat.le_refl _) rfl (fun b' _ hA => hoth b' (fun e => hm.avoid g b hg (e ▸ hA))) (fun g' h1 h2 => absurd h1 h2)
    have hget : ∀ i, cs[i]? = if j * k + f ≤ i ∧ i < j * k + f + n then yv.cells[i - (j * k + f)]? else cur[i]? := by
      intro i
      have := splice_get cur.toList yv.cells.toList (j * k + f) (by rw [hyl]; simpa using hfit) i
      rw [← hspl, hyl] at this
      simpa using this
    have hAM : AMRel (w.setRow b cs) p g m' := by
      have := hm.holds g m hl
      cases m with
      | box cells =>
        obtain ⟨b', cur', T', d1, d2, d3, d4⟩ := this
        rw [hg] at d1; cases d1
        rw [hh] at d2; cases d2
        simp only [AM.store] at hm'
        split at hm'
        · rename_i hc
          cases hm'
          obtain ⟨hj0, hfl⟩ := hc
          subst hj0
          simp only [Nat.zero_mul, Nat.zero_add] at hget
          refine ⟨b, cs, T, hg, hbk, by rw [hcsz, ← d3]; simp [splice]; omega, fun i c hc => ?_⟩
          rw [splice_get _ _ _ hfl] at hc
          rw [hget i, ← hlen]
          split at hc
          · rename_i hin
            rw [if_pos hin]
            obtain ⟨u, hu, hru⟩ := e2 _ c hc
            exact ⟨u, hu, hru.keep hkeep⟩
          · rename_i hin
            rw [if_neg hin]
            obtain ⟨u, hu, hru⟩ := d4 i c hc
            exact ⟨u, hu, hru.keep hkeep⟩
        · cases hm'
      | buf k' xs =>
        simp only [AM.store] at hm'
        split at hm'
        · rename_i z hz
          split at hm'
          · rename_i hc
            cases hm'
            obtain ⟨hkk, hfl⟩ := hc
            subst hkk
            rcases this with ⟨d0, d1⟩ | ⟨b', cur', T', d1, d2, d3, d4, d5⟩
            · rw [hg] at d1; cases d1
            · rw [hg] at d1; cases d1
              rw [hh] at d2; cases d2
              have hzk := d4 z (List.mem_of_getElem? hz)
              have hjl := (List.getElem?_eq_some_iff.1 hz).1
              refine .inr ⟨b, cs, T, hg, hbk, by rw [hcsz]; simpa using d3, fun x hx => ?_, fun j' x i c hj' hi => ?_⟩
              · rcases List.mem_or_eq_of_mem_set hx with hx | rfl
                · exact d4 x hx
                · refine ⟨by simp [splice]; omega, fun c hc => ?_⟩
                  simp only [splice, List.mem_append] at hc
                  rcases hc with (hc | hc) | hc
                  · exact hzk.2 c (List.mem_of_mem_take hc)
                  · exact hlf k' xs rfl c hc
                  · exact hzk.2 c (List.mem_of_mem_drop hc)
              · by_cases hjj : j' = j
                · subst hjj
                  rw [List.getElem?_set_self hjl] at hj'
                  cases hj'
                  rw [splice_get _ _ _ (by omega)] at hi
                  rw [hget]
                  by_cases hin : f ≤ i ∧ i < f + rs.length
                  · rw [if_pos hin] at hi
                    rw [if_pos ⟨by omega, by omega⟩]
                    obtain ⟨u, hu, hru⟩ := e2 _ c hi
                    have e : j' * k' + i - (j' * k' + f) = i - f := by omega
                    rw [e]
                    exact ⟨u, hu, hru.keep hkeep⟩
                  · rw [if_neg hin] at hi
                    rw [if_neg (by omega)]
                    obtain ⟨u, hu, hru⟩ := d5 j' z i c hz hi
                    exact ⟨u, hu, hru.keep hkeep⟩
                · rw [List.getElem?_set_ne (by omega)] at hj'
                  obtain ⟨u, hu, hru⟩ := d5 j' x i c hj' hi
                  have hil := (List.getElem?_eq_some_iff.1 hi).1
                  rw [(d4 x (List.mem_of_getElem? hj')).1] at hil
                  have hout : ¬ (j * k' + f ≤ j' * k' + i ∧ j' * k' + i < j * k' + f + n) := by
                    rintro ⟨a1, a2⟩
                    rcases Nat.lt_or_gt_of_ne hjj with h | h
                    · have : (j' + 1) * k' ≤ j * k' := Nat.mul_le_mul_right _ h
                      rw [Nat.add_mul] at this; omega
                    · have : (j + 1) * k' ≤ j' * k' := Nat.mul_le_mul_right _ h
                      rw [Nat.add_mul] at this; omega
                  exact ⟨u, by rw [hget, if_neg hout]; exact hu, hru.keep hkeep⟩
          · cases hm'
        · cases hm'
    unfold Oper.wp
    rw [hrun]
    simp only [Oper.upon, hdst]
    have hsome : (look σ.mem g).isSome = true := by rw [hl]; rfl
    refine hnx _ _ _ hK ⟨h1, h2, p, hE', hs.keep hkeep, ⟨fun g' hl' => ?_, fun g' m2 hl' => ?_, hm.inj, hm.avoid⟩⟩
    · rw [look_setMem g m' _ hsome] at hl'
      split at hl'
      · cases hl'
      · exact hm.dom g' hl'
    · rw [look_setMem g m' _ hsome] at hl'
      split at hl'
      · rename_i e; subst e; cases hl'; exact hAM
      · rename_i hne
        exact (hm.holds g' m2 hl').keep hkeep fun b' hb' => hoth b' (fun e => hne (hm.inj g' g b (e ▸ hb') hg))

end Go.Abs
