import Derived.Test.YtpicjibfbghonaaA9
set_option linter.unusedVariables false
set_option linter.unusedSimpArgs false
namespace Go.Abs
open Go Go.RowKit
variable {P : Program} {w0 : World} {p0 : Hp}

theorem flatten_length {α : Type} {k : Nat} : ∀ {xs : List (List α)}, (∀ x ∈ xs, x.length = k) → xs.flatten.length = xs.length * k
  | [], _ => by simp
  | x :: xs, h => by
    have := flatten_length (xs := xs) (fun y hy => h y (by simp [hy]))
    simp only [List.flatten_cons, List.length_append, List.length_cons, this, h x (by simp)]
    rw [Nat.add_mul]; omega

theorem flatten_get {α : Type} {k : Nat} : ∀ {xs : List (List α)}, (∀ x ∈ xs, x.length = k) → ∀ {j : Nat} {x : List α} {i : Nat} {c : α}, xs[j]? = some x → x[i]? = some c → xs.flatten[j * k + i]? = some c
  | [], _, _, _, _, _, hj, _ => by simp at hj
  | y :: xs, h, 0, x, i, c, hj, hi => by
    simp at hj; subst hj
    have hlt := (List.getElem?_eq_some_iff.1 hi).1
    simp only [List.flatten_cons, Nat.zero_mul, Nat.zero_add]
    rw [List.getElem?_append_left hlt]; exact hi
  | y :: xs, h, j + 1, x, i, c, hj, hi => by
    have hy := h y (by simp)
    simp only [List.flatten_cons]
    rw [List.getElem?_append_right (by rw [hy, Nat.add_mul]; omega)]
    have e : (j + 1) * k + i - y.length = j * k + i := by rw [hy, Nat.add_mul]; omega
    rw [e]
    exact flatten_get (fun z hz => h z (by simp [hz])) (by simpa using hj) hi

theorem afill_all {k : Nat} : ∀ (l : List (Nat × AV)) (n : Nat) (cs : List AV), l.map (·.1) = List.range' n l.length → (∀ x ∈ l, x.2.cells.length = k) → (n + l.length) * k ≤ cs.length →
    afill (fun i => some (i * k, k)) cs l = some (cs.take (n * k) ++ (l.map fun x => x.2.cells).flatten ++ cs.drop ((n + l.length) * k))
  | [], n, cs, _, _, _ => by simp [afill]
  | x :: l, n, cs, hm, hk, hl => by
    simp only [List.map_cons, List.length_cons, List.range'_succ, List.cons.injEq] at hm
    obtain ⟨h1, h2⟩ := hm
    have hx := hk x (by simp)
    have hnk : (n + (l.length + 1)) * k = n * k + k + l.length * k := by rw [Nat.add_mul, Nat.add_mul]; omega
    simp only [List.length_cons] at hl
    obtain ⟨i, a⟩ := x
    simp only at h1 hx
    subst h1
    simp only [afill]
    rw [if_pos ⟨hx, by omega⟩]
    have hs : (splice cs (i * k) a.cells).length = cs.length := by simp [splice, hx]; omega
    rw [afill_all l (i + 1) _ h2 (fun y hy => hk y (by simp [hy])) (by rw [hs]; have : (i + 1 + l.length) * k = (i + (l.length + 1)) * k := by congr 1; omega
                                                                       omega)]
    congr 1
    have e1 : (splice cs (i * k) a.cells).take ((i + 1) * k) = cs.take (i * k) ++ a.cells := by
      simp only [splice]
      rw [List.take_append_of_le_length (by simp [hx, Nat.add_mul]; omega)]
      rw [List.take_of_length_le (by simp [hx, Nat.add_mul]; omega)]
    have e2 : (splice cs (i * k) a.cells).drop ((i + 1 + l.length) * k) = cs.drop ((i + (l.length + 1)) * k) := by
      have e3 : (i + 1 + l.length) * k = i * k + k + l.length * k := by rw [Nat.add_mul, Nat.add_mul]; omega
      simp only [splice, e3]
      rw [List.drop_append]
      rw [List.drop_eq_nil_of_le (by simp [hx]; omega)]
      simp only [List.nil_append, List.drop_drop, List.length_append, List.length_take, hx]
      congr 1
      rw [hnk]; omega
    rw [e1, e2]
    simp [List.append_assoc]

theorem aop_buildSlice {o : Oper} {σ : St} {K : St → Prop} (hf : Fit w0 p0) {t e : TypeId} {len k d : Nat} {parts : List (Nat × Operand)} {xs : List (List AV)} (ho : o.op = .buildSlice t len parts.toArray) (hdst : o.dst = some d) (hd : d < σ.n) (hfr : σ.fresh d)
    (ht : elem? P t = some e) (hk : cells? P e = some k) (hk0 : 0 < k) (hz : (zeros? P e).isSome = true) (hidx : parts.map (·.1) = List.range len) (hbig : len * k ≤ 2 ^ 24)
    (hxs : (parts.map fun x => (σ.ev x.2).cells) = xs) (hx : ∀ x ∈ xs, x.length = k ∧ ∀ c ∈ x, c.leaf = true)
    (hK : K ({ σ with mem := (d, .buf k xs) :: σ.mem }.put d (.own d k 0 len))) : AOp P w0 p0 o σ K := by
  intro a w next Q hr hn
  obtain ⟨zs, hzs⟩ := Option.isSome_iff_exists.1 hz
  obtain ⟨z, hz1, hz2⟩ := zeros?_inv hzs w
  have hlen : parts.length = len := by have := congrArg List.length hidx; simpa using this
  -- the cells as they are before the parts are laid
  let z0 : Array Value := if len * k = 0 then #[] else z.cells
  let init : Array Value := (Array.range (len * k)).map (fun i => z0[i % z0.size]!)
  have hinit : init.size = len * k := by simp [init]
  have hxs' : ∀ x ∈ (parts.map fun x => (x.1, σ.ev x.2)), x.2.cells.length = k := by
    intro x hx'
    simp only [List.mem_map] at hx'
    obtain ⟨y, hy, rfl⟩ := hx'
    exact (hx _ (hxs ▸ List.mem_map.2 ⟨y, hy, rfl⟩)).1
  have hfill : ∀ p, SlotsRel w p σ.slots a.tmps → ∃ cells', Instr.fill (fun i => some (i * k, k)) init (parts.map fun x => (x.1, a.eval x.2)) = some cells' ∧ RelL w p xs.flatten cells'.toList := by
    intro p hs
    refine fill_rel hs _ parts (init.toList.map .s) _ init ⟨by simp, fun i c v hc hv => ?_⟩ (fun x hx' c hc => AV.one_of_leaf ((hx _ (hxs ▸ List.mem_map.2 ⟨x, hx', rfl⟩)).2 c hc)) ?_
    · simp only [List.getElem?_map, hv, Option.map_some, Option.some.injEq] at hc
      subst hc; exact .s v
    · have := afill_all (k := k) (parts.map fun x => (x.1, σ.ev x.2)) 0 (init.toList.map .s) (by simpa [List.map_map, Function.comp_def, hlen, List.range_eq_range'] using hidx) hxs' (by simp [hlen, hinit])
      rw [this]
      simp only [Nat.zero_mul, List.take_zero, List.nil_append, Nat.zero_add, List.length_map, hlen]
      rw [List.drop_eq_nil_of_le (by simp [hinit]), List.append_nil, ← hxs, List.map_map]
      rfl
  have hsz : xs.length = len := by rw [← hxs]; simpa using hlen
  have hall : ∀ x ∈ xs, x.length = k := fun x h => (hx x h).1
  obtain ⟨h1, h2, p, hE, hs, hm⟩ := hr
  obtain ⟨cells', hc1, hc2⟩ := hfill p hs
  have hrun : (execOp a.eval o).run P w = .ok (.value (.slice (some ⟨w.heap.size, 0, none⟩) len len)) (w.alloc (.cells cells' e)) := by
    simp only [execOp, ho, Instr.buildSlice]
    by_cases h0 : len * k = 0
    · simp [Sem.run_bind, run_underlying (elem?_inv ht), run_size hk, h0, newRow]
      have : init = #[] := by apply Array.eq_empty_of_size_eq_zero; rw [hinit, h0]
      rw [this] at hc1
      rw [show Array.map (fun _ => (default : Value)) (Array.range 0) = #[] from (by apply Array.eq_empty_of_size_eq_zero; simp), hc1]; simp
    · have hng : ¬ (16777216 < len * k) := by omega
      simp [Sem.run_bind, run_underlying (elem?_inv ht), run_size hk, h0, hz1, hng, newRow]
      have : init = Array.map (fun i => z.cells[i % z.cells.size]!) (Array.range (len * k)) := by simp [init, z0, h0]
      rw [this] at hc1
      rw [hc1]; simp
  unfold Oper.wp
  rw [hrun]
  refine hn _ _ _ hK ?_
  have hcs : cells'.size = len * k := by have := hc2.1; rw [flatten_length hall, hsz] at this; simpa using this.symm
  have hmax : len ≤ maxLen := by
    have : len ≤ len * k := Nat.le_mul_of_pos_right _ hk0
    unfold maxLen; omega
  have := rel_alloc hf ⟨h1, h2, p, hE, hs, hm⟩ hfr o.dst (fun y hy => by rw [hdst] at hy; cases hy; exact hd) cells' e (.buf k xs) (.own d k 0 len) (.slice (some ⟨w.heap.size, 0, none⟩) len len) ?_ ?_
  · rw [hdst] at this ⊢; exact this
  · intro q hsq hmq hkq
    obtain ⟨cells2, hd1, hd2⟩ := hfill q hsq
    rw [hc1] at hd1; cases hd1
    refine .inr ⟨w.heap.size, _, e, by simp [Hp.upd], heap_alloc_new w _, by rw [hsz, hcs]; exact Nat.le_refl _, hx, fun j x i c hj hi => ?_⟩
    have hfl := flatten_get hall hj hi
    have hlt : j * k + i < cells'.size := by
      have := (List.getElem?_eq_some_iff.1 hfl).1
      rw [hd2.1] at this; simpa using this
    exact ⟨cells'[j * k + i], by simp [hlt], (hd2.2 _ c _ hfl (by simp [hlt])).keep hkq⟩
  · intro q hmq
    have := RelV.own (w := w.alloc (.cells cells' e)) (p := q.upd d (some (some w.heap.size))) d k 0 len w.heap.size len cells' e (by simp [Hp.upd]) (Nat.le_refl _) hmax (heap_alloc_new w _) (by rw [hcs]; omega)
    simpa using this

end Go.Abs
