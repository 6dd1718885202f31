import Derived.Test.YtpicjibfbghonaaA19
import Derived.Still
set_option linter.unusedVariables false
set_option linter.unusedSimpArgs false
namespace Go.Abs
open Go Go.RowKit
variable {P : Program} {w0 : World} {p0 : Hp}

/-! A region whose order is open: every operation reads, or calls without writing: its value is the same in whatever order. -/

abbrev FS := Nat → AV
def fput (s : FS) : Option Nat → AV → FS
  | some d, a => fun t => if t = d then a else s t
  | none, _ => s
def VR (w : World) (p : Hp) (a : AV) (tmps : Array Value) (t : Nat) : Prop := a = .bad ∨ ∃ v, tmps[t]? = some v ∧ RelV w p a v

structure Grow (w w' : World) : Prop where
  os : w'.os = w.os
  tape : w'.tape = w.tape ∧ w.drawn ≤ w'.drawn
  output : w'.output = w.output
  size : w.heap.size ≤ w'.heap.size
  heap : ∀ b, b < w.heap.size → w'.heap[b]? = w.heap[b]?
theorem Grow.refl (w : World) : Grow w w := ⟨rfl, ⟨rfl, Nat.le_refl _⟩, rfl, Nat.le_refl _, fun _ _ => rfl⟩
theorem Grow.keeps {w w' : World} (h : Grow w w') {p : Hp} {mem : Mem} (hm : MemRel w p mem) : Keeps w p w' p :=
  ⟨fun b hb => ⟨⟨Nat.lt_of_lt_of_le hb.1 h.size, hb.2⟩, h.heap b hb.1⟩, fun _ _ h => h, fun g b hg cur T hh => ⟨cur, by rw [h.heap b (hm.lt hg)]; exact hh, rfl⟩⟩

def FRel (w0 : World) (p0 : Hp) (n : Nat) (mem : Mem) (s : FS) (a : Act) (w : World) : Prop :=
  a.defers = [] ∧ a.tmps.size = n ∧ ∃ p, Ext w0 p0 w p ∧ (∀ t, VR w p (s t) a.tmps t) ∧ MemRel w p mem

def StepOn (P : Program) (ops : Array Oper) (n : Nat) (mem : Mem) (o : Oper) (s : FS) (av : AV) : Prop :=
  ∀ (act : Act) (w : World) (p : Hp), act.tmps.size = n → (∀ t ∈ o.looksAt ops, VR w p (s t) act.tmps t) → MemRel w p mem → (∀ b, p.A b → b < w.heap.size) →
    ∀ (next : Act → World → Prop) (Q : Exit → Act → World → Prop), (∀ v w', Grow w w' → RelV w' p av v → next (act.put o.dst v) w') → o.wp P act w next Q

def wantedS (ops : Array Oper) (o : Oper) (s : FS) : Option Bool :=
  match o.guard with
  | none => some true
  | some (j, b) => match (ops[j]?).bind (·.dst) with
    | some d => match s d with | .s v => some (match v with | .bool t => t == b | _ => false) | _ => none
    | none => none

/-- What an operation leaves in its slot. -/
def YieldsS (P : Program) (ops : Array Oper) (n : Nat) (mem : Mem) (o : Oper) (av : AV) (s : FS) : Prop :=
  (∀ d, o.dst = some d → d < n) ∧ ((wantedS ops o s = some true ∧ StepOn P ops n mem o s av) ∨ (wantedS ops o s = some false ∧ av = .s undef))

def gOp (P : Program) (ops : Array Oper) (n : Nat) (mem : Mem) (i : Nat) (K : FS → Prop) (s : FS) : Prop :=
  match ops[i]? with
  | none => K s
  | some o => ∃ av, YieldsS P ops n mem o av s ∧ K (fput s o.dst av)

variable {ops : Array Oper} {md : Region.Mode} {n : Nat} {mem : Mem}

theorem gOp_mono {i : Nat} {s : FS} {K K' : FS → Prop} (h : ∀ s, K s → K' s) (hh : gOp P ops n mem i K s) : gOp P ops n mem i K' s := by
  unfold gOp at *
  split
  · simp_all
  · rename_i o ho
    simp only [ho] at hh
    obtain ⟨av, h1, h2⟩ := hh
    exact ⟨av, h1, h _ h2⟩

def wpAnyG (P : Program) (md : Region.Mode) (ops : Array Oper) (n : Nat) (mem : Mem) (Q : FS → Prop) : Nat → Array Bool → FS → Prop
  | 0, listed, s => Region.ready md ops listed = [] ∧ Q s
  | fuel + 1, listed, s => (Region.ready md ops listed = [] → Q s) ∧ ∀ i ∈ Region.ready md ops listed, gOp P ops n mem i (wpAnyG P md ops n mem Q fuel (listed.setIfInBounds i true)) s

theorem wanted_of {o : Oper} {s : FS} {w : World} {p : Hp} {tmps : Array Value} (hs : ∀ t, VR w p (s t) tmps t) {b : Bool} (h : wantedS ops o s = some b) : Region.wanted o (yielded ops tmps) = b := by
  unfold wantedS at h
  unfold Region.wanted
  split at h
  · rename_i hg; cases h; simp [hg]
  · rename_i j c hg
    split at h
    · rename_i d hd
      split at h
      · rename_i t ht
        cases h
        rcases hs d with h1 | ⟨v, hv, hr⟩
        · rw [ht] at h1; cases h1
        · rw [ht] at hr
          cases hr
          cases t <;> simp [hg, yielded, hd, hv]
      · cases h
    · cases h

theorem wpOp_of_gOp (hf : Fit w0 p0) {i : Nat} {s : FS} {a : Act} {w : World} {K : FS → Prop} {K' : Act → World → Prop} {Q' : Exit → Act → World → Prop} (hr : FRel w0 p0 n mem s a w)
    (h : ∀ s' a' w', FRel w0 p0 n mem s' a' w' → K s' → K' a' w') (hh : gOp P ops n mem i K s) : wpOp P ops Q' i K' a w := by
  unfold gOp at hh
  unfold wpOp
  split
  · rename_i ho; simp only [ho] at hh; exact h _ _ _ hr hh
  · rename_i o ho
    simp only [ho] at hh
    obtain ⟨av, ⟨hd, hy⟩, hK⟩ := hh
    obtain ⟨h1, h2, p, hE, hs, hm⟩ := hr
    have hputs : ∀ (v : Value) (w' : World), Grow w w' → RelV w' p av v → FRel w0 p0 n mem (fput s o.dst av) (a.put o.dst v) w' := by
      intro v w' hg hv
      have hk := hg.keeps hm
      have hE' : Ext w0 p0 w' p := hE.step hk hg.os hg.tape hg.output hg.size rfl (fun b hb _ => hg.heap b hb) (fun g h1 h2 => absurd h1 h2)
      have hm' : MemRel w' p mem := ⟨hm.dom, fun g m hl => (hm.holds g m hl).keep hk fun b hb => hg.heap b (hm.lt hb), hm.inj, hm.avoid⟩
      have hkeep : ∀ t, VR w' p (s t) a.tmps t := fun t => by
        rcases hs t with h | ⟨u, hu, hr⟩
        · exact .inl h
        · exact .inr ⟨u, hu, hr.keep hk⟩
      cases ho' : o.dst with
      | none => exact ⟨h1, h2, p, hE', hkeep, hm'⟩
      | some d =>
        refine ⟨h1, by simpa [Act.put] using h2, p, hE', fun t => ?_, hm'⟩
        simp only [fput, Act.put]
        by_cases htd : t = d
        · subst htd
          rw [if_pos rfl]
          exact .inr ⟨v, by simp [h2, hd t ho'], hv⟩
        · rw [if_neg htd]
          rcases hkeep t with h | ⟨u, hu, hr⟩
          · exact .inl h
          · exact .inr ⟨u, by rw [Array.getElem?_setIfInBounds_ne (fun e => htd e.symm)]; exact hu, hr⟩
    rcases hy with ⟨hw, hst⟩ | ⟨hw, rfl⟩
    · rw [if_pos (wanted_of hs hw)]
      refine .inl (hst a w p h2 (fun t _ => hs t) hm (fun b hb => Nat.lt_of_lt_of_le (hf.others b (hE.A ▸ hb)) hE.size) _ _ fun v w' hg hv => ?_)
      exact h _ _ _ (hputs v w' hg hv) hK
    · have := wanted_of (ops := ops) hs hw
      rw [if_neg (by rw [this]; exact Bool.false_ne_true)]
      exact h _ _ _ (hputs undef w (Grow.refl w) (.s undef)) hK

theorem wpAny_of_G (hf : Fit w0 p0) {Q : FS → Prop} {Q' : Exit → Act → World → Prop} (hQ : ∀ s a w, FRel w0 p0 n mem s a w → Q s → Q' .normal a w) : ∀ (fuel : Nat) (listed : Array Bool) (s : FS) (a : Act) (w : World), FRel w0 p0 n mem s a w →
    wpAnyG P md ops n mem Q fuel listed s → wpAny P md ops Q' fuel listed a w
  | 0, _, _, _, _, hr, h => ⟨h.1, hQ _ _ _ hr h.2⟩
  | fuel + 1, _, _, _, _, hr, h => ⟨fun h0 => hQ _ _ _ hr (h.1 h0), fun i hi => wpOp_of_gOp hf hr (fun s' a' w' hr' => wpAny_of_G hf hQ fuel _ s' a' w' hr') (h.2 i hi)⟩

theorem YieldsS.gOp {i : Nat} {o : Oper} {av : AV} {s : FS} (hi : ops[i]? = some o) (hy : YieldsS P ops n mem o av s) {K : FS → Prop} (h : K (fput s o.dst av)) : gOp P ops n mem i K s := by
  unfold Abs.gOp
  simp only [hi]
  exact ⟨av, hy, h⟩

theorem YieldsS.congr {o : Oper} {av : AV} {s s' : FS} (h : ∀ t ∈ o.looksAt ops, s' t = s t) (hy : YieldsS P ops n mem o av s) : YieldsS P ops n mem o av s' := by
  have hw : wantedS ops o s' = wantedS ops o s := by
    unfold wantedS
    split
    · rfl
    · rename_i j b hg
      split
      · rename_i d hd
        rw [h d (by simp [Oper.looksAt, hg, hd])]
      · rfl
  refine ⟨hy.1, ?_⟩
  rw [hw]
  rcases hy.2 with ⟨h1, h2⟩ | h1
  · exact .inl ⟨h1, fun act w p hn hs => h2 act w p hn (fun t ht => by rw [← h t ht]; exact hs t ht)⟩
  · exact .inr h1

theorem fput_other {s : FS} {d : Option Nat} {av : AV} {l : List Nat} (h : ∀ x, d = some x → x ∉ l) : ∀ t ∈ l, fput s d av t = s t := by
  intro t ht
  cases d with
  | none => rfl
  | some x => simp only [fput]; rw [if_neg (fun (e : t = x) => h x rfl (e ▸ ht))]
theorem fput_comm (s : FS) {x y : Option Nat} (a b : AV) (h : ∀ d, x = some d → y ≠ some d) : fput (fput s x a) y b = fput (fput s y b) x a := by
  cases x with
  | none => rfl
  | some d =>
    cases y with
    | none => rfl
    | some e =>
      have hne : d ≠ e := fun he => h d rfl (by rw [he])
      funext t
      simp only [fput]
      by_cases h1 : t = e
      · rw [if_pos h1, if_neg (by rw [h1]; exact fun h => hne h.symm), if_pos h1]
      · rw [if_neg h1, if_neg h1]

theorem gOp_put {j : Nat} {oi oj : Oper} {av : AV} (hj : ops[j]? = some oj) (hap : oi.apart ops oj = true) {K : FS → Prop} {s : FS}
    (hy : YieldsS P ops n mem oi av s) (h : gOp P ops n mem j K (fput s oi.dst av)) : gOp P ops n mem j (fun s' => YieldsS P ops n mem oi av s' ∧ K (fput s' oi.dst av)) s := by
  obtain ⟨h1, h2, h3⟩ := Oper.apart_spec hap
  unfold gOp at *
  simp only [hj] at *
  obtain ⟨u, hu, hn⟩ := h
  exact ⟨u, hu.congr (fun t ht => (fput_other h1 t ht).symm), hy.congr (fput_other h3), by rw [← fput_comm s av u h2]; exact hn⟩

theorem wpAnyG_first {Q : FS → Prop} {i : Nat} {oi : Oper} {av : AV} (hi : ops[i]? = some oi) :
    ∀ (fuel : Nat) (listed : Array Bool) (s : FS),
      (∀ j oj, ops[j]? = some oj → j ≠ i → listed.getD j true = false → (∀ e ∈ oj.after, Region.binds md e = true → e.on ≠ i) → oi.apart ops oj = true) →
      i ∈ Region.ready md ops listed → YieldsS P ops n mem oi av s →
      wpAnyG P md ops n mem Q fuel (listed.setIfInBounds i true) (fput s oi.dst av) → wpAnyG P md ops n mem Q (fuel + 1) listed s := by
  intro fuel
  induction fuel with
  | zero =>
    intro listed s _ hr hy H
    refine ⟨fun h => (by rw [h] at hr; cases hr), fun j hj => ?_⟩
    by_cases hji : j = i
    · subst hji; exact hy.gOp hi H
    · have := ready_mono hj hji
      rw [H.1] at this
      cases this
  | succ fuel ih =>
    intro listed s hfree hr hy H
    refine ⟨fun h => (by rw [h] at hr; cases hr), fun j hj => ?_⟩
    by_cases hji : j = i
    · subst hji; exact hy.gOp hi H
    · have h1 := H.2 j (ready_mono hj hji)
      obtain ⟨hjun, oj, hoj, hall⟩ := mem_ready.1 hj
      have hnot : ∀ e ∈ oj.after, Region.binds md e = true → e.on ≠ i := fun e he hb heq => by
        have h1 := hall e he hb
        have h0 := (mem_ready.1 hr).1
        rw [heq] at h1
        rcases Nat.lt_or_ge i listed.size with h' | h'
        · simp [h'] at h0 h1; rw [h0] at h1; cases h1
        · simp [Array.getElem?_eq_none h'] at h1
      have h2 := gOp_put hoj (hfree j oj hoj hji hjun hnot) hy h1
      have hfree' : ∀ k ok, ops[k]? = some ok → k ≠ i → (listed.setIfInBounds j true).getD k true = false →
          (∀ e ∈ ok.after, Region.binds md e = true → e.on ≠ i) → oi.apart ops ok = true := fun k ok hk hki hun hno => by
        refine hfree k ok hk hki ?_ hno
        by_cases hjk : j = k
        · subst hjk; exact hjun
        · rw [getD_set_ne true hjk] at hun; exact hun
      refine gOp_mono (fun s' h3 => ih (listed.setIfInBounds j true) s' hfree' (ready_mono hr (Ne.symm hji)) h3.1 ?_) h2
      rw [Array.setIfInBounds_comm _ _ hji]
      exact h3.2

/-- The lexical walk. -/
def lexG (P : Program) (ops : Array Oper) (n : Nat) (mem : Mem) (Q : FS → Prop) : List Oper → FS → Prop
  | [], s => Q s
  | o :: rest, s => ∃ av, YieldsS P ops n mem o av s ∧ lexG P ops n mem Q rest (fput s o.dst av)

theorem wpAnyG_lex {Q : FS → Prop} : ∀ (l : List Oper) (k : Nat) (listed : Array Bool) (s : FS), (∀ j, l[j]? = ops[k + j]?) →
    Region.lexFrom md ops l.length k listed = true → lexG P ops n mem Q l s → wpAnyG P md ops n mem Q l.length listed s
  | [], _, _, _, _, hB, h => ⟨by simpa [Region.lexFrom] using hB, h⟩
  | o :: l, k, listed, s, hl, hB, h => by
    have h0 : ops[k]? = some o := by simpa using (hl 0).symm
    simp only [List.length_cons, Region.lexFrom, Bool.and_eq_true] at hB
    obtain ⟨⟨hr, hf⟩, hB'⟩ := hB
    obtain ⟨av, hy, hK⟩ := h
    exact wpAnyG_first h0 l.length listed s (Region.free_spec h0 hf) (by simpa using hr) hy
      (wpAnyG_lex l (k + 1) _ _ (fun j => by have := hl (j + 1); simpa [Nat.add_assoc, Nat.add_comm 1 j] using this) hB' hK)

def noBad : List (Nat × AV) → Bool
  | [] => true
  | (_, .bad) :: _ => false
  | _ :: r => noBad r
theorem noBad_look : ∀ {l : List (Nat × AV)}, noBad l = true → ∀ t, look l t ≠ some .bad
  | [], _, t, h => by simp [look] at h
  | (d, a) :: r, hb, t, h => by
    simp only [look] at h
    split at h
    · cases h; simp [noBad] at hb
    · refine noBad_look (l := r) ?_ t h
      cases a <;> first | exact hb | (simp [noBad] at hb)

/-- The slots, as a function. -/
def St.fs (σ : St) : FS := fun t => (look σ.slots t).getD .bad

theorem aw_region_draw (hf : Fit w0 p0) {id : Nat} {l : List Oper} {σ : St} {Q : Exit → St → Prop} (hm : P.follows .mixedOrders = true) (hB : Region.lexB .any l.toArray = true)
    (h : lexG P l.toArray σ.n σ.mem (fun s => ∃ σ' : St, σ'.n = σ.n ∧ σ'.mem = σ.mem ∧ covers (fun t => some (s t)) σ'.slots ∧ noBad σ'.slots = true ∧ Q .normal σ') l σ.fs) : AW P w0 p0 (.region id l.toArray true) σ Q := by
  intro a w ⟨h1, h2, p, hE, hs, hmem⟩
  refine wp_region_any hm ?_
  simp only [Region.lexB, Bool.and_eq_true] at hB
  have hr : FRel w0 p0 σ.n σ.mem σ.fs a { w with drawn := w.drawn + 1 } := by
    have hg : Grow w { w with drawn := w.drawn + 1 } := ⟨rfl, ⟨rfl, Nat.le_succ _⟩, rfl, Nat.le_refl _, fun _ _ => rfl⟩
    have hk := hg.keeps hmem
    refine ⟨h1, h2, p, hE.step hk hg.os hg.tape hg.output hg.size rfl (fun b hb _ => hg.heap b hb) (fun g h1 h2 => absurd h1 h2), fun t => ?_, ⟨hmem.dom, fun g m hl => (hmem.holds g m hl).keep hk fun _ _ => rfl, hmem.inj, hmem.avoid⟩⟩
    unfold St.fs
    cases hl : look σ.slots t with
    | none => exact .inl rfl
    | some b => obtain ⟨v, hv, hrv⟩ := hs t b hl; exact .inr ⟨v, hv, hrv.keep hk⟩
  have hlen : l.toArray.size = l.length := by simp
  refine wpAny_of_G hf (Q := _) (fun s a w hr hQ => ?_) _ _ _ _ _ hr (by
    have := wpAnyG_lex (P := P) (md := .any) (n := σ.n) (mem := σ.mem) (ops := l.toArray) l 0 (Array.replicate l.toArray.size false) σ.fs (by simp) (by simpa using hB.2) h
    simpa using this)
  obtain ⟨σ', e1, e2, hc, hnb, hQ'⟩ := hQ
  obtain ⟨g1, g2, q, hE', hs', hm'⟩ := hr
  refine ⟨σ', hQ', g1, by rw [e1]; exact g2, q, hE', fun t b hb => ?_, by rw [e2]; exact hm'⟩
  have hst : s t = b := by simpa using covers_look hc t b hb
  rcases hs' t with h | ⟨v, hv, hrv⟩
  · rw [hst] at h
    subst h
    exact absurd hb (noBad_look hnb t)
  · exact ⟨v, hv, hst ▸ hrv⟩


/-- An operation that leaves the world alone, by the slots that it looks at. -/
theorem step_pure {o : Oper} {s : FS} {av : AV} (L : List (Nat × AV)) (hL : covers (fun t => if t ∈ o.looksAt ops then some (s t) else none) L) (hnb : noBad L = true) (h : PureOp P o ⟨n, L, mem⟩ av) : StepOn P ops n mem o s av := by
  intro act w p hn hs hm hA next Q hnx
  have hsl : SlotsRel w p L act.tmps := by
    intro t b hb
    have h1 := covers_look hL t b hb
    -- 
    split at h1
    · rename_i hmem
      cases h1
      rcases hs t hmem with h2 | h2
      · rw [h2] at hb; exact absurd hb (noBad_look hnb t)
      · exact h2
    · cases h1
  obtain ⟨v, hv, hr⟩ := h act w p hsl hm
  unfold Oper.wp
  rw [hv]
  exact hnx v w (Grow.refl w) hr

end Go.Abs
