import Derived.Test.YtpicjibfbghonaaA15
set_option linter.unusedVariables false
set_option linter.unusedSimpArgs false
namespace Go.Abs
open Go Go.RowKit
variable {P : Program} {w0 : World} {p0 : Hp}

/-- What names g is forgotten. -/
def AV.kill (g : Nat) (a : AV) : AV := if a.clean (fun x => x != g) = true then a else .bad
def killSlots (g : Nat) : List (Nat × AV) → List (Nat × AV)
  | [] => []
  | (t, a) :: r => (t, a.kill g) :: killSlots g r
def killMem (g : Nat) : Mem → Mem
  | [] => []
  | (g', m) :: r => if g' = g then killMem g r else (g', match m with | .box cs => .box (cs.map (AV.kill g)) | m => m) :: killMem g r

theorem look_killSlots (g : Nat) : ∀ (l : List (Nat × AV)) (t : Nat), look (killSlots g l) t = (look l t).map (AV.kill g)
  | [], _ => rfl
  | (d, a) :: r, t => by
    simp only [killSlots, look]
    split
    · rfl
    · exact look_killSlots g r t
theorem look_killMem (g : Nat) : ∀ (l : Mem) (t : Nat), t ≠ g → look (killMem g l) t = (look l t).map (fun m => match m with | .box cs => .box (cs.map (AV.kill g)) | m => m)
  | [], _, _ => rfl
  | (d, m) :: r, t, h => by
    simp only [killMem, look]
    by_cases e : d = g
    · rw [if_pos e, look_killMem g r t h, if_neg (by rw [e]; exact fun h' => h h'.symm)]
    · rw [if_neg e]
      simp only [look]
      split
      · rfl
      · exact look_killMem g r t h

theorem RelV.kill {w : World} {p : Hp} {w' : World} {q : Hp} {g : Nat} (hmv : ∀ a v, RelV w p a v → a.clean (fun x => x != g) = true → RelV w' q a v) {a : AV} {v : Value} (h : RelV w p a v) : RelV w' q (a.kill g) v := by
  unfold AV.kill
  split
  · rename_i hc; exact hmv a v h hc
  · exact .bad v

/-- A name's block changes: what it held is forgotten, what it holds now is said anew. -/
theorem rel_rebind {σ : St} {a : Act} {w : World} {p : Hp} (h1 : a.defers = []) (h2 : a.tmps.size = σ.n) (hs : SlotsRel w p σ.slots a.tmps) (hm : MemRel w p σ.mem) (g : Nat) {w' : World} {q : Hp} (hE : Ext w0 p0 w' q)
    (hmv : ∀ a v, RelV w p a v → a.clean (fun x => x != g) = true → RelV w' q a v) (hno : ∀ g', g' ≠ g → q.o g' = p.o g') (hheap : ∀ b g', g' ≠ g → p.o g' = some (some b) → w'.heap[b]? = w.heap[b]?)
    {m : AM} (hAM : AMRel w' q g m) (hinj : ∀ g' b, g' ≠ g → q.o g = some (some b) → p.o g' ≠ some (some b)) (hav : ∀ b, q.o g = some (some b) → ¬ q.A b) (hA : q.A = p.A)
    {d : Nat} (hd : d < σ.n) {av : AV} {v : Value} (hv : RelV w' q av v) : Rel w0 p0 ⟨σ.n, (d, av) :: killSlots g σ.slots, (g, m) :: killMem g σ.mem⟩ (a.put (some d) v) w' := by
  refine ⟨h1, by simpa [Act.put] using h2, q, hE, SlotsRel.put (fun t b hb => ?_) (by rw [h2]; exact hd) hv, ⟨fun g' hl => ?_, fun g' m' hl => ?_, fun g1 g2 b e1 e2 => ?_, fun g' b e => ?_⟩⟩
  · rw [look_killSlots] at hb
    cases hl : look σ.slots t with
    | none => simp [hl] at hb
    | some c =>
      simp [hl] at hb; subst hb
      obtain ⟨u, hu, hr⟩ := hs t c hl
      exact ⟨u, hu, hr.kill hmv⟩
  · rw [look_cons] at hl
    split at hl
    · cases hl
    · rename_i hne
      have hne' : g' ≠ g := fun e => hne e.symm
      rw [look_killMem g _ _ hne'] at hl
      rw [hno g' hne']
      refine hm.dom g' ?_
      cases h : look σ.mem g' with
      | none => rfl
      | some m => rw [h] at hl; cases hl
  · rw [look_cons] at hl
    split at hl
    · rename_i e; subst e; cases hl; exact hAM
    · rename_i hne
      have hne' : g' ≠ g := fun e => hne e.symm
      rw [look_killMem g _ _ hne'] at hl
      cases h : look σ.mem g' with
      | none => simp [h] at hl
      | some m0 =>
        rw [h] at hl
        have := hm.holds g' m0 h
        cases m0 with
        | box cs =>
          simp at hl; subst hl
          obtain ⟨b, cur, T, e1, e2, e3, e4⟩ := this
          refine ⟨b, cur, T, by rw [hno g' hne']; exact e1, by rw [hheap b g' hne' e1]; exact e2, by simpa using e3, fun i c hc => ?_⟩
          rw [List.getElem?_map] at hc
          cases hi : cs[i]? with
          | none => simp [hi] at hc
          | some c' =>
            simp [hi] at hc; subst hc
            obtain ⟨u, hu, hr⟩ := e4 i c' hi
            exact ⟨u, hu, hr.kill hmv⟩
        | buf k xs =>
          simp at hl; subst hl
          rcases this with ⟨e0, e1⟩ | ⟨b, cur, T, e1, e2, e3, e4, e5⟩
          · exact .inl ⟨e0, by rw [hno g' hne']; exact e1⟩
          · exact .inr ⟨b, cur, T, by rw [hno g' hne']; exact e1, by rw [hheap b g' hne' e1]; exact e2, e3, e4, fun j x i c hx hc => by
              obtain ⟨u, hu, hr⟩ := e5 j x i c hx hc
              exact ⟨u, hu, hmv c u hr (AV.clean_of_leaf ((e4 x (List.mem_of_getElem? hx)).2 c (List.mem_of_getElem? hc)))⟩⟩
  · by_cases c1 : g1 = g <;> by_cases c2 : g2 = g
    · rw [c1, c2]
    · subst c1; rw [hno g2 c2] at e2; exact absurd e2 (hinj g2 b c2 e1)
    · subst c2; rw [hno g1 c1] at e1; exact absurd e1 (hinj g1 b c1 e2)
    · rw [hno g1 c1] at e1; rw [hno g2 c2] at e2; exact hm.inj g1 g2 b e1 e2
  · by_cases c1 : g' = g
    · subst c1; exact hav b e
    · rw [hno g' c1] at e; rw [hA]; exact hm.avoid g' b e

theorem run_append_zero {t ty e : TypeId} {k : Nat} (ht : elem? P t = some e) (hk : cells? P e = some k) (base ax : Option Addr) (n cap c : Nat) (hn : n ≤ cap) (w : World) :
    (Builtin.append_ #[t, t] ty #[.slice base n cap, .slice ax 0 c]).run P w = .ok (.slice base n cap) w := by
  have hu := elem?_inv ht
  cases ax with
  | none => cases base <;> simp [Builtin.append_, run_underlying hu, run_size hk, Builtin.lenOf, hn, Builtin.firstCells, storeCells]
  | some a => cases base <;> simp [Builtin.append_, run_underlying hu, run_size hk, Builtin.lenOf, hn, Builtin.firstCells, loadCells, loadCellsFrom, storeCells]

theorem run_append_roomT {t ty e : TypeId} {k : Nat} (ht : elem? P t = some e) (hk : cells? P e = some k) {w : World} {T : TypeId}
    (g sLen sCap : Nat) (cur : Array Value) (hg : w.heap[g]? = some (.cells cur T (0, 0)))
    (a : Addr) (m c : Nat) (news : List Value) (hl : news.length = m * k) (hnews : ∀ j u, news[j]? = some u → w.cell? (a.add j) = some u) (h1 : ∀ u ∈ news, u.oneCell' = true)
    (hroom : sLen + m ≤ sCap) (hfit : sLen * k + news.length ≤ cur.size) :
    (Builtin.append_ #[t, t] ty #[.slice (some ⟨g, 0, none⟩) sLen sCap, .slice (some a) m c]).run P w =
      .ok (.slice (some ⟨g, 0, none⟩) (sLen + m) sCap) (w.setRow g (cur.toList.take (sLen * k) ++ news ++ cur.toList.drop (sLen * k + news.length)).toArray) := by
  have hf := run_firstCells_some (P := P) w k m a m c news hl hnews
  have hst := run_storeCells_at P g (sLen * k) T news 0 cur w hg (by simpa using hfit) h1
  simp only [Nat.add_zero] at hst
  simp [Builtin.append_, run_underlying (elem?_inv ht), run_size hk, Builtin.lenOf, hroom, hf, Addr.add_lit, hst]

end Go.Abs
