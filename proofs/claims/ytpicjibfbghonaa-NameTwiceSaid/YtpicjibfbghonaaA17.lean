import Derived.Test.YtpicjibfbghonaaA16
set_option linter.unusedVariables false
set_option linter.unusedSimpArgs false
namespace Go.Abs
open Go Go.RowKit
variable {P : Program} {w0 : World} {p0 : Hp}

/-- A slice type: its element's type, cells and bytes. -/
def appT? (P : Program) (t : TypeId) : Option (Nat × Nat × Nat) := match elem? P t with
  | some e => match P.info? e with
    | some i => match i.zero with
      | some z => if z.cells.size = i.size ∧ 0 < i.size then some (e, i.size, i.bytes) else none
      | none => none
    | none => none
  | none => none
theorem appT?_inv {t e k by_ : Nat} (h : appT? P t = some (e, k, by_)) : elem? P t = some e ∧ cells? P e = some k ∧ 0 < k ∧ ∃ i z, P.info? e = some i ∧ i.zero = some z ∧ i.size = k ∧ i.bytes = by_ ∧ z.cells.size = k := by
  unfold appT? at h
  split at h
  · rename_i e' he
    split at h
    · rename_i i hi
      split at h
      · rename_i z hz
        split at h
        · rename_i hc
          cases h
          exact ⟨he, by simp [cells?, hi], hc.2, i, z, hi, hz, rfl, rfl, hc.1⟩
        · cases h
      · cases h
    · cases h
  · cases h

theorem aop_append {o : Oper} {σ : St} {K : St → Prop} (hf : Fit w0 p0) {s x : Operand} {t e k by_ d g n : Nat} {xs ys : List (List AV)} {k' : Nat} (ho : o.op = .call { callee := .builtin .append, args := #[s, x], argTypes := #[t, t] }) (hdst : o.dst = some d) (hd : d < σ.n)
    (ht : appT? P t = some (e, k, by_)) (hg : g < E0) (hs : σ.ev s = .own g k 0 n) (hl : look σ.mem g = some (.buf k' xs)) (hk' : k' = k ∨ xs = []) (hn : n = xs.length) (hx : asrc σ k (σ.ev x) = some ys)
    (hmax : n + ys.length ≤ maxLen) (hby : (n + ys.length) * by_ ≤ 140737488355328)
    (hK : K ⟨σ.n, (d, .own g k 0 (n + ys.length)) :: killSlots g σ.slots, (g, .buf k (xs ++ ys)) :: killMem g σ.mem⟩) : AOp P w0 p0 o σ K := by
  intro a w next Q ⟨h1, h2, p, hE, hsl, hm⟩ hnx
  obtain ⟨he, hck, hk0, i, z, hi, hz, rfl, rfl, hzc⟩ := appT?_inv ht
  have hsrc := asrc_rel hsl hm hx
  obtain ⟨ax, c, news, ex, hnl, hyk, hny, hnr⟩ := hsrc
  have hse := ev_rel hsl s
  rw [hs] at hse
  have hexec : (execOp a.eval o).run P w = ((Builtin.append_ #[t, t] o.type #[a.eval s, .slice ax ys.length c]).run P w).andThen fun v w' => .ok (.value v) w' := by
    simp only [execOp, ho, resolve, invoke, builtin, Sem.run_bind, Sem.run_pure, Result.andThen_ok, List.map_toArray, List.map_cons, List.map_nil, ex]
  have hp0 : p0.o g = none := hf.names g hg
  have hAb : ∀ b, p.A b → b < w.heap.size := fun b hb => Nat.lt_of_lt_of_le (hf.others b (hE.A ▸ hb)) hE.size
  have h63 : n + ys.length ≤ 9223372036854775807 := by unfold maxLen at hmax; omega
  have hone : ∀ u ∈ news, u.oneCell' = true := by
    intro u hu
    obtain ⟨t', ht'⟩ := List.getElem?_of_mem hu
    have hlt := (List.getElem?_eq_some_iff.1 ht').1
    rw [hnl] at hlt
    have hj : t' / i.size < ys.length := Nat.div_lt_of_lt_mul (by rw [Nat.mul_comm]; exact hlt)
    have hxx : ys[t' / i.size]? = some ys[t' / i.size] := by simp [hj]
    have hxl := (hyk _ (List.mem_of_getElem? hxx)).1
    have hii : t' % i.size < (ys[t' / i.size]).length := by rw [hxl]; exact Nat.mod_lt _ hk0
    obtain ⟨u', hu', hr⟩ := hnr _ _ _ _ hxx (List.getElem?_eq_getElem hii)
    have et : t' / i.size * i.size + t' % i.size = t' := by rw [Nat.mul_comm]; exact Nat.div_add_mod t' i.size
    rw [et, ht'] at hu'
    cases hu'
    exact hr.one (AV.one_of_leaf ((hyk _ (List.mem_of_getElem? hxx)).2 _ (List.getElem_mem hii)))
  have hyall : ∀ x ∈ xs ++ ys, (∀ x ∈ xs, x.length = i.size ∧ ∀ c ∈ x, c.leaf = true) → x.length = i.size ∧ ∀ c ∈ x, c.leaf = true := fun x hx h => by
    rcases List.mem_append.1 hx with hx | hx
    · exact h x hx
    · exact hyk x hx
  unfold Oper.wp
  rw [hexec]
  -- a new block
  have grow : ∀ (olds : List Value) (cap : Nat), olds.length = n * i.size → n + ys.length ≤ cap → cap ≤ maxLen → (∀ x ∈ xs, x.length = i.size ∧ ∀ c ∈ x, c.leaf = true) →
      (∀ (j : Nat) x (i' : Nat) c, xs[j]? = some x → x[i']? = some c → ∃ u, olds[j * i.size + i']? = some u ∧ RelV w p c u) →
      o.upon P a next Q (.ok (.value (.slice (some ⟨w.heap.size, 0, none⟩) (n + ys.length) cap)) (w.drew.alloc (.cells (olds.toArray ++ news.toArray ++ Builtin.zeroCells z.cells (cap - (n + ys.length))) e))) := by
    intro olds cap holen hcap hcm hxk holds
    simp only [Oper.upon]
    generalize hw' : w.drew.alloc (.cells (olds.toArray ++ news.toArray ++ Builtin.zeroCells z.cells (cap - (n + ys.length))) e) = w'
    have hheap : ∀ b, b < w.heap.size → w'.heap[b]? = w.heap[b]? := fun b hb => by rw [← hw']; exact Below.heap_alloc w.drew _ b hb
    have hnew : w'.heap[w.heap.size]? = some (.cells (olds.toArray ++ news.toArray ++ Builtin.zeroCells z.cells (cap - (n + ys.length))) e (0, 0)) := by rw [← hw']; exact heap_alloc_new w.drew _
    have hsize : w'.heap.size = w.heap.size + 1 := by rw [← hw']; simp
    have hmv : ∀ a v, RelV w p a v → a.clean (fun x => x != g) = true → RelV w' (p.upd g (some (some w.heap.size))) a v := fun a v hr hc =>
      hr.move (p := p) (q := p.upd g (some (some w.heap.size))) (ok := fun x => x != g) (fun b hb => ⟨⟨by rw [hsize]; have := hb.1; omega, fun g' hg' => by
        simp only [Hp.upd] at hg'
        split at hg'
        · cases hg'; exact absurd hb.1 (Nat.lt_irrefl _)
        · exact hb.2.1 g' hg', hb.2.2⟩, hheap b hb.1⟩)
        (fun g' x hok hx => by
          have hne : g' ≠ g := by simpa using hok
          refine ⟨by simp only [Hp.upd]; rw [if_neg hne]; exact hx, fun b hb cur T hh => ⟨cur, ?_, rfl⟩⟩
          subst hb
          rw [hheap b (hm.lt hx)]; exact hh) hc
    have hE' : Ext w0 p0 w' (p.upd g (some (some w.heap.size))) := by
      refine ⟨?_, ?_, ?_, ?_, hE.A, fun b hb => ?_, fun b hb hA => ?_, fun g' x hx => ?_⟩
      · rw [← hw']; exact hE.os
      · rw [← hw']; exact ⟨hE.tape.1, Nat.le_trans hE.tape.2 (Nat.le_succ _)⟩
      · rw [← hw']; exact hE.output
      · rw [hsize]; have := hE.size; omega
      · have hst := (hE.stab b hb).1
        refine ⟨⟨by rw [hsize]; have := hst.1; omega, fun g' hg' => ?_, hst.2.2⟩, by rw [hheap b hst.1]; exact (hE.stab b hb).2⟩
        simp only [Hp.upd] at hg'
        split at hg'
        · cases hg'; exact absurd hst.1 (Nat.lt_irrefl _)
        · exact hst.2.1 g' hg'
      · rw [hheap b (Nat.lt_of_lt_of_le hb hE.size)]; exact hE.others b hb hA
      · have hne : g' ≠ g := fun e => by rw [e, hp0] at hx; cases hx
        simp only [Hp.upd]
        rw [if_neg hne]
        rcases hE.name g' x hx with h | ⟨h, h'⟩
        · exact .inl h
        · refine .inr ⟨h, fun b hb cur T hh => ?_⟩
          obtain ⟨c1, e1, s1⟩ := h' b hb cur T hh
          exact ⟨c1, by rw [hheap b (hm.lt (hb ▸ h))]; exact e1, s1⟩
    have hAM : AMRel w' (p.upd g (some (some w.heap.size))) g (.buf i.size (xs ++ ys)) := by
      refine .inr ⟨w.heap.size, _, e, by simp [Hp.upd], hnew, ?_, fun x hx => hyall x hx hxk, fun j x i' c hj hi' => ?_⟩
      · simp only [List.length_append, Array.size_append, List.size_toArray, holen, hnl, ← hn, Nat.add_mul]; omega
      · have hlf : ∀ c, c ∈ x → c.leaf = true := (hyall x (List.mem_of_getElem? hj) hxk).2
        have hcl := AV.clean_of_leaf (ok := fun x => x != g) (hlf c (List.mem_of_getElem? hi'))
        by_cases hlt : j < xs.length
        · rw [List.getElem?_append_left hlt] at hj
          obtain ⟨u, hu, hr⟩ := holds j x i' c hj hi'
          have hl1 := (List.getElem?_eq_some_iff.1 hu).1
          exact ⟨u, by rw [Array.append_assoc, Array.getElem?_append_left (by simpa using hl1)]; simpa using hu, hmv c u hr hcl⟩
        · rw [List.getElem?_append_right (by omega)] at hj
          obtain ⟨u, hu, hr⟩ := hnr _ x i' c hj hi'
          have hl1 := (List.getElem?_eq_some_iff.1 hu).1
          refine ⟨u, ?_, hmv c u hr hcl⟩
          have e1 : j * i.size + i' = olds.length + ((j - xs.length) * i.size + i') := by
            rw [holen, hn]
            have : j = xs.length + (j - xs.length) := by omega
            conv => lhs; rw [this, Nat.add_mul]
            omega
          rw [e1, Array.append_assoc, Array.getElem?_append_right (by simp)]
          simp only [List.size_toArray, Nat.add_sub_cancel_left]
          rw [Array.getElem?_append_left (by simpa using hl1)]
          simpa using hu
    refine hnx _ _ _ hK ?_
    rw [hdst]
    refine rel_rebind h1 h2 hsl hm g hE' hmv (fun g' hne => by simp only [Hp.upd]; rw [if_neg hne]) (fun b g' hne hb => hheap b (hm.lt hb)) hAM (fun g' b hne hb hb' => ?_) (fun b hb hA => ?_) rfl hd ?_
    · simp [Hp.upd] at hb; subst hb; exact absurd (hm.lt hb') (Nat.lt_irrefl _)
    · simp [Hp.upd] at hb; subst hb; exact absurd (hAb _ hA) (Nat.lt_irrefl _)
    · have := RelV.own (w := w') (p := p.upd g (some (some w.heap.size))) g i.size 0 (n + ys.length) w.heap.size cap _ e (by simp [Hp.upd]) hcap hcm hnew
        (by
          have e1 : n * i.size + ys.length * i.size + (cap - (n + ys.length)) * i.size = cap * i.size := by rw [← Nat.add_mul, ← Nat.add_mul]; congr 1; omega
          simp only [Array.size_append, List.size_toArray, holen, hnl, size_zeroCells, hzc, e1]; omega)
      simpa using this
  -- nothing new
  have same : ys.length = 0 → ∀ v, a.eval s = v → RelV w p (.own g i.size 0 n) v → o.upon P a next Q (.ok (.value v) w) := by
    intro hy v hv hr
    have hys : ys = [] := List.eq_nil_of_length_eq_zero hy
    subst hys
    simp only [Oper.upon]
    refine hnx _ _ _ hK ?_
    rw [hdst]
    have hst := hm.holds g _ hl
    have hAM : AMRel w p g (.buf i.size (xs ++ [])) := by
      rw [List.append_nil]
      rcases hk' with rfl | rfl
      · exact hst
      · rcases hst with h | ⟨b, cur, T, e1, e2, _⟩
        · exact .inl h
        · exact .inr ⟨b, cur, T, e1, e2, by simp, by simp, by simp⟩
    refine rel_rebind h1 h2 hsl hm g hE (fun a v h _ => h) (fun _ _ => rfl) (fun _ _ _ _ => rfl) hAM (fun g' b hne hb hb' => hne (hm.inj g' g b hb' hb)) (fun b hb => hm.avoid g b hb) rfl hd (by simpa using hr)
  generalize hv : a.eval s = v at *
  cases hse with
  | ownn _ _ hgn =>
    have hx0 : xs = [] := List.eq_nil_of_length_eq_zero hn.symm
    subst hx0
    by_cases hy0 : ys.length = 0
    · rw [hy0, run_append_zero he hck none ax 0 0 c (Nat.le_refl _) w]
      exact same hy0 _ rfl (.ownn g _ hgn)
    · obtain ⟨ad, rfl, hads⟩ := hny (by intro h; simp [h] at hy0)
      rw [run_append_nil (P := P) w t o.type e i z (elem?_inv he) hi hz ad ys.length c news hnl hads (by omega) (by omega) (by simp at hby; omega)]
      have := grow [] (grownCap w ys.length 0 e) (by simp) (by simpa using grownCap_ge w _ _ _) (grownCap_le_maxLen w _ _ _ (by simpa using hmax)) (by simp) (by simp)
      simpa using this
  | own0 _ _ _ b ad0 hgb =>
    have hx0 : xs = [] := List.eq_nil_of_length_eq_zero hn.symm
    subst hx0
    by_cases hy0 : ys.length = 0
    · rw [hy0, run_append_zero he hck _ ax 0 0 c (Nat.le_refl _) w]
      exact same hy0 _ rfl (.own0 g _ 0 b ad0 hgb)
    · obtain ⟨ad, rfl, hads⟩ := hny (by intro h; simp [h] at hy0)
      rw [run_append_grow (P := P) w t o.type e i z (elem?_inv he) hi hz ⟨b, ad0, none⟩ 0 0 [] (by simp) (by simp) ad ys.length c news hnl hads (by omega) (by omega) (growslice_fits (by omega) (by simpa using hby))]
      have := grow [] (grownCap w (0 + ys.length) 0 e) (by simp) (by simpa using grownCap_ge w _ _ _) (grownCap_le_maxLen w _ _ _ (by simpa using hmax)) (by simp) (by simp)
      simpa using this
  | own _ _ _ _ b cap cur T hgb hnc hcap hh hsz =>
    simp only [Nat.zero_mul, Nat.zero_add] at hsz hv ⊢
    rcases hm.holds g _ hl with ⟨hx0, e0⟩ | ⟨b', cur', T', e1, e2, e3, e4, e5⟩
    · rw [hgb] at e0; cases e0
    · rw [hgb] at e1; cases e1
      rw [hh] at e2; cases e2
      have hxk : ∀ x ∈ xs, x.length = i.size ∧ ∀ c ∈ x, c.leaf = true := by
        rcases hk' with rfl | rfl
        · exact e4
        · simp
      have hxr : ∀ (j : Nat) x (i' : Nat) c, xs[j]? = some x → x[i']? = some c → ∃ v, cur[j * i.size + i']? = some v ∧ RelV w p c v := by
        rcases hk' with rfl | rfl
        · exact e5
        · simp
      have hncur : n * i.size ≤ cur.size := Nat.le_trans (Nat.mul_le_mul_right _ hnc) hsz
      by_cases hy0 : ys.length = 0
      · rw [hy0, run_append_zero he hck _ ax n cap c hnc w]
        refine same hy0 _ ?_ ?_
        · simp
        · have := RelV.own (w := w) (p := p) g i.size 0 n b cap cur T hgb hnc hcap hh (by simpa using hsz)
          simpa using this
      · obtain ⟨ad, rfl, hads⟩ := hny (by intro h; simp [h] at hy0)
        by_cases hroom : n + ys.length ≤ cap
        · have hfit : n * i.size + news.length ≤ cur.size := by rw [hnl, ← Nat.add_mul]; exact Nat.le_trans (Nat.mul_le_mul_right _ hroom) hsz
          rw [run_append_roomT he hck b n cap cur hh ad ys.length c news hnl hads hone hroom hfit]
          simp only [Result.andThen_ok, Oper.upon]
          generalize hcs : (cur.toList.take (n * i.size) ++ news ++ cur.toList.drop (n * i.size + news.length)).toArray = cs
          have hcsz : cs.size = cur.size := by rw [← hcs]; simp; omega
          have hbk : (w.setRow b cs).heap[b]? = some (.cells cs T (0, 0)) := setRow_heap w b cur cs T _ hh
          have hoth : ∀ b', b' ≠ b → (w.setRow b cs).heap[b']? = w.heap[b']? := fun b' hne => setRow_other w b b' cs hne
          have hwsz : (w.setRow b cs).heap.size = w.heap.size := by simp [World.setRow]
          have hkeep : Keeps w p (w.setRow b cs) p := by
            refine ⟨fun b' hb' => ?_, fun _ _ h => h, fun g' b' hg' cur2 T2 hh2 => ?_⟩
            · have hne : b' ≠ b := fun e => hb'.2.1 g (e ▸ hgb)
              exact ⟨⟨by rw [hwsz]; exact hb'.1, hb'.2⟩, hoth b' hne⟩
            · by_cases hne : b' = b
              · subst hne; rw [hh] at hh2; cases hh2; exact ⟨cs, hbk, hcsz⟩
              · exact ⟨cur2, by rw [hoth b' hne]; exact hh2, rfl⟩
          have hE' : Ext w0 p0 (w.setRow b cs) p := hE.step hkeep rfl ⟨rfl, Nat.le_refl _⟩ rfl (by rw [hwsz]; exact Nat.le_refl _) rfl (fun b' _ hA => hoth b' (fun e => hm.avoid g b hgb (e ▸ hA))) (fun g' h1 h2 => absurd h1 h2)
          have hAM : AMRel (w.setRow b cs) p g (.buf i.size (xs ++ ys)) := by
            refine .inr ⟨b, cs, T, hgb, hbk, ?_, fun x hx => hyall x hx hxk, fun j x i' c hj hi' => ?_⟩
            · rw [hcsz, List.length_append, ← hn]; exact Nat.le_trans (Nat.mul_le_mul_right _ hroom) hsz
            · by_cases hlt : j < xs.length
              · rw [List.getElem?_append_left hlt] at hj
                obtain ⟨u, hu, hr⟩ := hxr j x i' c hj hi'
                refine ⟨u, ?_, hr.keep hkeep⟩
                have hil := (List.getElem?_eq_some_iff.1 hi').1
                rw [(hxk x (List.mem_of_getElem? hj)).1] at hil
                have hpos : j * i.size + i' < n * i.size := by
                  calc j * i.size + i' < j * i.size + i.size := by omega
                    _ = (j + 1) * i.size := by rw [Nat.add_mul]; omega
                    _ ≤ n * i.size := Nat.mul_le_mul_right _ (by omega)
                rw [← hcs]
                simp only [List.getElem?_toArray]
                rw [List.append_assoc, List.getElem?_append_left (by simp; omega), List.getElem?_take, if_pos hpos]
                simpa using hu
              · rw [List.getElem?_append_right (by omega)] at hj
                obtain ⟨u, hu, hr⟩ := hnr _ x i' c hj hi'
                refine ⟨u, ?_, hr.keep hkeep⟩
                have hl1 := (List.getElem?_eq_some_iff.1 hu).1
                have e1 : j * i.size + i' = n * i.size + ((j - xs.length) * i.size + i') := by
                  have : j = n + (j - xs.length) := by omega
                  conv => lhs; rw [this, Nat.add_mul]
                  omega
                rw [← hcs]
                simp only [List.getElem?_toArray]
                rw [e1, List.append_assoc, List.getElem?_append_right (by simp; omega)]
                have e2 : n * i.size + ((j - xs.length) * i.size + i') - (cur.toList.take (n * i.size)).length = (j - xs.length) * i.size + i' := by simp; omega
                rw [e2, List.getElem?_append_left hl1]
                exact hu
          refine hnx _ _ _ hK ?_
          rw [hdst]
          refine rel_rebind h1 h2 hsl hm g hE' (fun a v h _ => h.keep hkeep) (fun _ _ => rfl) (fun b' g' hne hb' => hoth b' (fun e => hne (hm.inj g' g b (e ▸ hb') hgb))) hAM (fun g' b' hne hb hb' => hne (hm.inj g' g b' hb' hb)) (fun b' hb => hm.avoid g b' hb) rfl hd ?_
          have := RelV.own (w := w.setRow b cs) (p := p) g i.size 0 (n + ys.length) b cap cs T hgb hroom hcap hbk (by rw [hcsz]; simpa using hsz)
          simpa using this
        · have hold : ∀ j u, (cur.toList.take (n * i.size))[j]? = some u → w.cell? ((⟨b, 0, none⟩ : Addr).add j) = some u := fun j u hu => by
            rw [List.getElem?_take] at hu
            split at hu
            · rw [add_at, Nat.zero_add, cell_of_heap hh]; simpa using hu
            · cases hu
          have holen : (cur.toList.take (n * i.size)).length = n * i.size := by simp; omega
          rw [run_append_grow (P := P) w t o.type e i z (elem?_inv he) hi hz ⟨b, 0, none⟩ n cap _ holen hold ad ys.length c news hnl hads (by omega) (by omega) (growslice_fits (by omega) hby)]
          refine grow _ _ holen (grownCap_ge w _ _ _) (grownCap_le_maxLen w _ _ _ hmax) hxk fun j x i' c hj hi' => ?_
          obtain ⟨u, hu, hr⟩ := hxr j x i' c hj hi'
          refine ⟨u, ?_, hr⟩
          have hil := (List.getElem?_eq_some_iff.1 hi').1
          rw [(hxk x (List.mem_of_getElem? hj)).1] at hil
          have hjl := (List.getElem?_eq_some_iff.1 hj).1
          have hpos : j * i.size + i' < n * i.size := by
            calc j * i.size + i' < j * i.size + i.size := by omega
              _ = (j + 1) * i.size := by rw [Nat.add_mul]; omega
              _ ≤ n * i.size := Nat.mul_le_mul_right _ (by omega)
          rw [List.getElem?_take, if_pos hpos]
          simpa using hu

end Go.Abs
