import Derived.Test.YtpicjibfbghonaaA23
set_option linter.unusedVariables false
set_option linter.unusedSimpArgs false
namespace Go.Abs
open Go Go.RowKit
variable {P : Program} {w0 : World} {p0 : Hp}

/-- The operation leaves this value, and at most lays new blocks that nobody writes into. -/
def RStep (P : Program) (o : Oper) (σ : St) (av : AV) : Prop :=
  ∀ (act : Act) (w : World) (p : Hp), SlotsRel w p σ.slots act.tmps → MemRel w p σ.mem → (∀ b, p.A b → b < w.heap.size) →
    ∀ (next : Act → World → Prop) (Q : Exit → Act → World → Prop), (∀ v w', Grow w w' → RelV w' p av v → next (act.put o.dst v) w') → o.wp P act w next Q

theorem RStep.of_pure {o : Oper} {σ : St} {av : AV} (h : PureOp P o σ av) : RStep P o σ av := by
  intro act w p hs hm hA next Q hn
  obtain ⟨v, hv, hr⟩ := h act w p hs hm
  unfold Oper.wp
  rw [hv]
  exact hn v w (Grow.refl w) hr

theorem Grow.alloc (w : World) (o : Obj) : Grow w (w.alloc o) := ⟨rfl, ⟨rfl, Nat.le_refl _⟩, rfl, by simp, fun b hb => Below.heap_alloc _ _ _ hb⟩
theorem stable_new {w : World} {p : Hp} {mem : Mem} (hm : MemRel w p mem) (hA : ∀ b, p.A b → b < w.heap.size) (o : Obj) : Stable (w.alloc o) p w.heap.size :=
  ⟨by simp, (fun g hg => absurd (hm.lt hg) (Nat.lt_irrefl _)), fun h => absurd (hA _ h) (Nat.lt_irrefl _)⟩

/-- A variable that is never written again. -/
theorem rstep_box {o : Oper} {σ : St} {elem : TypeId} {x : Operand} {av : AV} (ho : o.op = .box elem x) (hx : σ.ev x = av) (h1 : ∀ c ∈ av.cells, c.leaf = true) : RStep P o σ (.adr av.cells) := by
  subst hx
  intro a w p hs hm hA next Q hn
  have hrun : (execOp a.eval o).run P w = .ok (.value (.pointer (some ⟨w.heap.size, 0, none⟩))) (w.alloc (.cells (a.eval x).cells elem)) := by
    simp [execOp, ho, Instr.box, newVar, newRow]
  unfold Oper.wp
  rw [hrun]
  have hg := Grow.alloc w (.cells (a.eval x).cells elem)
  have hk := hg.keeps hm
  refine hn _ _ hg ?_
  obtain ⟨hl, hc⟩ := ((ev_rel hs x).keep hk).cells (fun c hc => AV.one_of_leaf (h1 c hc))
  refine .adr _ w.heap.size 0 (fun i => ((a.eval x).cells[i]?).getD undef) (stable_new hm hA _) h1 (fun i c hi => ?_) (fun i c hi => ?_)
  · obtain ⟨u, hu, hr⟩ := hc i c hi
    rw [Nat.zero_add, cell_of_heap (heap_alloc_new w _), hu]; rfl
  · obtain ⟨u, hu, hr⟩ := hc i c hi
    rw [hu]; exact hr

/-- A slice literal that is never written again. -/
theorem rstep_buildSlice {o : Oper} {σ : St} {t e k by_ len : Nat} {parts : List (Nat × Operand)} {xs : List (List AV)} (ho : o.op = .buildSlice t len parts.toArray)
    (ht : appT? P t = some (e, k, by_)) (hidx : parts.map (·.1) = List.range len) (hbig : len * k ≤ 2 ^ 24)
    (hxs : (parts.map fun x => (σ.ev x.2).cells) = xs) (hx : ∀ x ∈ xs, x.length = k ∧ ∀ c ∈ x, c.leaf = true) : RStep P o σ (.sl k xs) := by
  intro a w p hs hm hA next Q hn
  obtain ⟨he, hk, hk0, i, z, hi, hz, _, _, hzc⟩ := appT?_inv ht
  have hz1 : (zeroValue e).run P w = .ok z w := by simp [zeroValue, typeInfo, hi, hz]
  have hlen : parts.length = len := by have := congrArg List.length hidx; simpa using this
  let z0 : Array Value := if len * k = 0 then #[] else z.cells
  let init : Array Value := (Array.range (len * k)).map (fun i => z0[i % z0.size]!)
  have hinit : init.size = len * k := by simp [init]
  have hxs' : ∀ x ∈ (parts.map fun x => (x.1, σ.ev x.2)), x.2.cells.length = k := by
    intro x hx'
    simp only [List.mem_map] at hx'
    obtain ⟨y, hy, rfl⟩ := hx'
    exact (hx _ (hxs ▸ List.mem_map.2 ⟨y, hy, rfl⟩)).1
  have hfill : ∃ cells', Instr.fill (fun i => some (i * k, k)) init (parts.map fun x => (x.1, a.eval x.2)) = some cells' ∧ RelL w p xs.flatten cells'.toList := by
    refine fill_rel hs _ parts (init.toList.map .s) _ init ⟨by simp, fun i c v hc hv => ?_⟩ (fun x hx' c hc => AV.one_of_leaf ((hx _ (hxs ▸ List.mem_map.2 ⟨x, hx', rfl⟩)).2 c hc)) ?_
    · simp only [List.getElem?_map, hv, Option.map_some, Option.some.injEq] at hc
      subst hc; exact .s v
    · have := afill_all (k := k) (parts.map fun x => (x.1, σ.ev x.2)) 0 (init.toList.map .s) (by simpa [List.map_map, Function.comp_def, hlen, List.range_eq_range'] using hidx) hxs' (by simp [hlen, hinit])
      rw [this]
      simp only [Nat.zero_mul, List.take_zero, List.nil_append, Nat.zero_add, List.length_map, hlen]
      rw [List.drop_eq_nil_of_le (by simp [hinit]), List.append_nil, ← hxs, List.map_map]
      rfl
  have hsz : xs.length = len := by rw [← hxs]; simpa using hlen
  have hall : ∀ x ∈ xs, x.length = k := fun x h => (hx x h).1
  obtain ⟨cells', hc1, hc2⟩ := hfill
  have hrun : (execOp a.eval o).run P w = .ok (.value (.slice (some ⟨w.heap.size, 0, none⟩) len len)) (w.alloc (.cells cells' e)) := by
    simp only [execOp, ho, Instr.buildSlice]
    by_cases h0 : len * k = 0
    · simp [Sem.run_bind, run_underlying (elem?_inv he), run_size hk, h0, newRow]
      have : init = #[] := by apply Array.eq_empty_of_size_eq_zero; rw [hinit, h0]
      rw [this] at hc1
      rw [show Array.map (fun _ => (default : Value)) (Array.range 0) = #[] from (by apply Array.eq_empty_of_size_eq_zero; simp), hc1]; simp
    · have hng : ¬ (16777216 < len * k) := by omega
      simp [Sem.run_bind, run_underlying (elem?_inv he), run_size hk, h0, hz1, hng, newRow]
      have : init = Array.map (fun i => z.cells[i % z.cells.size]!) (Array.range (len * k)) := by simp [init, z0, h0]
      rw [this] at hc1
      rw [hc1]; simp
  unfold Oper.wp
  rw [hrun]
  have hg := Grow.alloc w (.cells cells' e)
  have hkp := hg.keeps hm
  refine hn _ _ hg ?_
  have hcs : cells'.size = len * k := by have := hc2.1; rw [flatten_length hall, hsz] at this; simpa using this.symm
  have hmax : len ≤ maxLen := by
    have : len ≤ len * k := Nat.le_mul_of_pos_right _ hk0
    unfold maxLen; omega
  have key := RelV.slc (w := w.alloc (.cells cells' e)) (p := p) k xs w.heap.size 0 len (fun j i => (cells'[j * k + i]?).getD undef) (stable_new hm hA _) (by omega) hmax hx
    (fun j x i c hj hi => by
      have hfl := flatten_get hall hj hi
      have hlt : j * k + i < cells'.size := by
        have := (List.getElem?_eq_some_iff.1 hfl).1
        rw [hc2.1] at this; simpa using this
      rw [Nat.zero_add, cell_of_heap (heap_alloc_new w _)]
      simp [hlt])
    (fun j x i c hj hi => by
      have hfl := flatten_get hall hj hi
      have hlt : j * k + i < cells'.size := by
        have := (List.getElem?_eq_some_iff.1 hfl).1
        rw [hc2.1] at this; simpa using this
      have := (hc2.2 _ c cells'[j * k + i] hfl (by simp [hlt])).keep hkp
      simpa [hlt] using this)
  rwa [hsz] at key

theorem rstep_callA {o : Oper} {σ : St} {fo : Operand} {xs : List Operand} {ts : Array TypeId} {f : Nat} {cap : List AV} {r : AV} (ho : o.op = .call { callee := .value fo, args := xs.toArray, argTypes := ts })
    (hent : ∀ args w, (callFunc f args).run P w = .ok (.enter f args) w) (hfo : σ.ev fo = .fn f cap) (hcl : ∀ a ∈ xs.map σ.ev ++ cap, a.clean (fun _ => false) = true)
    (hden : Den P f (xs.map σ.ev ++ cap) (· = r)) : RStep P o σ r := by
  intro a w p hs hm hA0 next Q' hn
  obtain ⟨vals, hrun, hrel⟩ := call_run (P := P) ho hent hs hfo
  unfold Oper.wp
  rw [hrun]
  simp only [Oper.upon]
  have hA : ∀ b, p.all b → b < w.heap.size := fun b hb => by
    rcases hb with hb | ⟨g, hg⟩
    · exact hA0 b hb
    · exact hm.lt hg
  refine (hden p.all w vals hA ⟨hrel.1, fun i c v hc hv => (hrel.2 i c v hc hv).move (ok := fun _ => false) (fun b hb => ⟨⟨hb.1, (fun _ h => by cases h), ?_⟩, rfl⟩) (fun _ _ h => by cases h) (hcl c (List.mem_of_getElem? hc))⟩).mono ?_
  · rintro (h | ⟨g, hg⟩)
    · exact hb.2.2 h
    · exact hb.2.1 g hg
  · rintro e w' ⟨v, r', rfl, rfl, hE', hr⟩
    refine hn _ _ ⟨hE'.os, hE'.tape, hE'.output, hE'.size, fun b hb => ?_⟩ ?_
    · by_cases hA' : p.all b
      · exact hE'.others b hb hA'
      · exact (hE'.stab b ⟨hb, (fun g h => by cases h), hA'⟩).2
    · exact hr.move (p := none0 p.all) (q := p) (ok := fun _ => true) (fun b (hb : Stable w' (none0 p.all) b) => ⟨⟨hb.1, fun g hg => hb.2.2 (Or.inr ⟨g, hg⟩ : p.all b), fun h => hb.2.2 (Or.inl h : p.all b)⟩, rfl⟩) (fun _ _ _ h => by cases h) (AV.clean_true _)

theorem rstep_callB {o : Oper} {σ : St} {fo : Operand} {xs : List Operand} {ts : Array TypeId} {f : Nat} {cap : List AV} {r : AV} (ho : o.op = .call { callee := .value fo, args := xs.toArray, argTypes := ts })
    (hent : ∀ args w, (callFunc f args).run P w = .ok (.enter f args) w) (hfo : σ.ev fo = .fn f cap)
    (hden : Den P f ((xs.map σ.ev ++ cap).map (AV.conv σ.mem)) (· = r)) (hfl : r.flat = true) : RStep P o σ r := by
  intro a w p hs hm hA next Q' hn
  obtain ⟨vals, hrun, hrel⟩ := call_run (P := P) ho hent hs hfo
  unfold Oper.wp
  rw [hrun]
  simp only [Oper.upon]
  refine (hden p.A w vals hA ⟨by simpa using hrel.1, fun i c v hc hv => ?_⟩).mono ?_
  · rw [List.getElem?_map] at hc
    cases hi : (xs.map σ.ev ++ cap)[i]? with
    | none => simp [hi] at hc
    | some c' => simp [hi] at hc; subst hc; exact (hrel.2 i c' v hi hv).conv hm
  · rintro e w' ⟨v, r', rfl, rfl, hE', hr⟩
    refine hn _ _ ⟨hE'.os, hE'.tape, hE'.output, hE'.size, fun b hb => ?_⟩ (hr.flat _ _ hfl)
    by_cases hA' : p.A b
    · exact hE'.others b hb hA'
    · exact (hE'.stab b ⟨hb, (fun g h => by cases h), hA'⟩).2

section
variable {ops : Array Oper} {rest : List Oper} {n d ty : Nat} {ps : String} {af : Array Edge} {gd : Option (Nat × Bool)} {sl : List (Nat × AV)} {m : Mem} {Q : Exit → St → Prop}

theorem r_box {t : Nat} {x : Operand} {av : AV} {cs : List AV} (hx : ev sl x = some av) (hc : av.cells = cs) (h1 : ∀ c ∈ cs, c.leaf = true) : RStep P ⟨some d, .box t x, ty, ps, af, gd⟩ ⟨n, sl, m⟩ (.adr cs) :=
  hc ▸ rstep_box rfl (ev_eq hx) (hc ▸ h1)
theorem r_buildSlice {t e k by_ len : Nat} {parts : List (Nat × Operand)} {ps' : List (Nat × AV)} {xs : List (List AV)} (ht : appT? P t = some (e, k, by_)) (hps : evp sl parts = some ps') (hidx : ps'.map (·.1) = List.range len) (hbig : Nat.ble (len * k) 16777216 = true)
    (hxs : (ps'.map fun x => x.2.cells) = xs) (hx : ∀ x ∈ xs, x.length = k ∧ ∀ c ∈ x, c.leaf = true) : RStep P ⟨some d, .buildSlice t len parts.toArray, ty, ps, af, gd⟩ ⟨n, sl, m⟩ (.sl k xs) := by
  have h := evp_eq (n := n) (m := m) hps
  refine rstep_buildSlice rfl ht ?_ (Nat.le_of_ble_eq_true hbig) ?_ hx
  · rw [← h] at hidx; simpa [List.map_map, Function.comp_def] using hidx
  · rw [← h] at hxs; simpa [List.map_map, Function.comp_def] using hxs
theorem r_call {fo : Operand} {xs : List Operand} {ts : Array TypeId} {f : Nat} {cap args : List AV} {r : AV} (hfo : ev sl fo = some (.fn f cap)) (hargs : evs sl cap xs = some args)
    (hent : ∀ args w, (callFunc f args).run P w = .ok (.enter f args) w) (hcl : cleanL (fun _ => false) args = true) (hden : Den P f args (· = r)) : RStep P ⟨some d, .call { callee := .value fo, args := xs.toArray, argTypes := ts }, ty, ps, af, gd⟩ ⟨n, sl, m⟩ r := by
  have h := evs_eq (n := n) (m := m) hargs
  exact rstep_callA rfl hent (ev_eq hfo) (fun a ha => cleanL_mem (h ▸ hcl) a ha) (h ▸ hden)
theorem r_callB {fo : Operand} {xs : List Operand} {ts : Array TypeId} {f : Nat} {cap args args' : List AV} {r : AV} (hfo : ev sl fo = some (.fn f cap)) (hargs : evs sl cap xs = some args) (hconv : convL m args = args')
    (hent : ∀ args w, (callFunc f args).run P w = .ok (.enter f args) w) (hden : Den P f args' (· = r)) (hfl : r.flat = true) : RStep P ⟨some d, .call { callee := .value fo, args := xs.toArray, argTypes := ts }, ty, ps, af, gd⟩ ⟨n, sl, m⟩ r := by
  have h := evs_eq (n := n) (m := m) hargs
  exact rstep_callB rfl hent (ev_eq hfo) (by rw [h, ← convL_eq, hconv]; exact hden) hfl

theorem x_step {op : Op} {av : AV} (hf : Fit w0 p0) (hd : lt d n = true) (h : RStep P ⟨some d, op, ty, ps, af, none⟩ ⟨n, sl, m⟩ av) (hk : AOps P w0 p0 ops rest ⟨n, (d, av) :: sl, m⟩ Q) :
    AOps P w0 p0 ops (⟨some d, op, ty, ps, af, none⟩ :: rest) ⟨n, sl, m⟩ Q := by
  refine aops_cons rfl ?_
  intro a w next Q' ⟨h1, h2, p, hE, hs, hm⟩ hn
  refine h a w p hs hm (fun b hb => Nat.lt_of_lt_of_le (hf.others b (hE.A ▸ hb)) hE.size) _ _ fun v w' hg hv => ?_
  refine hn _ _ _ hk ?_
  have hkp := hg.keeps hm
  exact ⟨h1, by simpa [Act.put] using h2, p, hE.step hkp hg.os hg.tape hg.output hg.size rfl (fun b hb _ => hg.heap b hb) (fun g h1 h2 => absurd h1 h2), (hs.keep hkp).put (by rw [h2]; exact lt_of hd) hv,
    ⟨hm.dom, fun g m hl => (hm.holds g m hl).keep hkp fun b hb => hg.heap b (hm.lt hb), hm.inj, hm.avoid⟩⟩

theorem d_rstep {K : FS → Prop} {op : Op} {av : AV} {gd : Option (Nat × Bool)} (L : List (Nat × AV)) (hd : lt d n = true) (hw : wantedS ops ⟨some d, op, ty, ps, af, gd⟩ (fsl sl) = some true) (hL : looksL (Oper.looksAt ops ⟨some d, op, ty, ps, af, gd⟩) sl L) (hnb : noBad L = true)
    (h : RStep P ⟨some d, op, ty, ps, af, gd⟩ ⟨n, L, m⟩ av) (hk : lexG P ops n m K rest (fsl ((d, av) :: sl))) : lexG P ops n m K (⟨some d, op, ty, ps, af, gd⟩ :: rest) (fsl sl) := by
  refine d_step rfl hd hw (fun act w p hn hs hm hA next Q hnx => h act w p (fun t b hb => ?_) hm hA next Q hnx) hk
  have hcov : ∀ l, looksL (Oper.looksAt ops ⟨some d, op, ty, ps, af, gd⟩) sl l → covers (fun t => if t ∈ Oper.looksAt ops ⟨some d, op, ty, ps, af, gd⟩ then some (fsl sl t) else none) l := by
    intro l
    induction l with
    | nil => exact fun _ => trivial
    | cons x r ih => exact fun h => ⟨by simp only; rw [if_pos (inL_mem h.1.1)]; simp [fsl, h.1.2], ih h.2⟩
  have h1 := covers_look (hcov _ hL) t b hb
  split at h1
  · rename_i hmem
    cases h1
    rcases hs t hmem with h2 | h2
    · rw [h2] at hb; exact absurd hb (noBad_look hnb t)
    · exact h2
  · cases h1
end
end Go.Abs
