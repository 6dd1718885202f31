import Derived.Test.YtcjchfocohagdaaQ2
import Derived.Still
set_option linter.unusedVariables false
set_option linter.unusedSimpArgs false
namespace Go.Abs
open Go Go.RowKit
variable {P : Program} {w0 : World} {p0 : Hp}

/-! A region whose order is open: every operation reads, or calls without writing: its value is the same in whatever order. -/

abbrev FS := Nat → AV
def fput (s : FS) : Option Nat → AV → FS
  | some d, a => fun t => if t = d then a else s t
  | none, _ => s
def VR (w : World) (p : Hp) (a : AV) (tmps : Array Value) (t : Nat) : Prop := a = .bad ∨ ∃ v, tmps[t]? = some v ∧ RelV w p a v

structure Grow (w w' : World) : Prop where
  os : w'.os = w.os
  tape : w'.tape = w.tape ∧ w.drawn ≤ w'.drawn
  output : w'.output = w.output
  size : w.heap.size ≤ w'.heap.size
  heap : ∀ b, b < w.heap.size → w'.heap[b]? = w.heap[b]?
theorem Grow.refl (w : World) : Grow w w := ⟨rfl, ⟨rfl, Nat.le_refl _⟩, rfl, Nat.le_refl _, fun _ _ => rfl⟩
theorem Grow.keeps {w w' : World} (h : Grow w w') {p : Hp} {mem : Mem} (hm : MemRel w p mem) : Keeps w p w' p :=
  ⟨fun b hb => ⟨⟨Nat.lt_of_lt_of_le hb.1 h.size, hb.2⟩, h.heap b hb.1⟩, fun _ _ h => h, fun g b hg cur T hh => ⟨cur, by rw [h.heap b (hm.lt hg)]; exact hh, rfl⟩⟩

def FRel (w0 : World) (p0 : Hp) (n : Nat) (mem : Mem) (s : FS) (a : Act) (w : World) : Prop :=
  a.defers = [] ∧ a.tmps.size = n ∧ ∃ p, Ext w0 p0 w p ∧ (∀ t, VR w p (s t) a.tmps t) ∧ MemRel w p mem

def StepOn (P : Program) (ops : Array Oper) (n : Nat) (mem : Mem) (o : Oper) (s : FS) (av : AV) : Prop :=
  ∀ (act : Act) (w : World) (p : Hp), act.tmps.size = n → (∀ t ∈ o.looksAt ops, VR w p (s t) act.tmps t) → MemRel w p mem → (∀ b, p.A b → b < w.heap.size) →
    ∀ (next : Act → World → Prop) (Q : Exit → Act → World → Prop), (∀ v w', Grow w w' → RelV w' p av v → next (act.put o.dst v) w') → o.wp P act w next Q

def wantedS (ops : Array Oper) (o : Oper) (s : FS) : Option Bool :=
  match o.guard with
  | none => some true
  | some (j, b) => match (ops[j]?).bind (·.dst) with
    | some d => match s d with | .s v => some (match v with | .bool t => t == b | _ => false) | _ => none
    | none => none

/-- What an operation leaves in its slot. -/
def YieldsS (P : Program) (ops : Array Oper) (n : Nat) (mem : Mem) (o : Oper) (av : AV) (s : FS) : Prop :=
  (∀ d, o.dst = some d → d < n) ∧ ((wantedS ops o s = some true ∧ StepOn P ops n mem o s av) ∨ (wantedS ops o s = some false ∧ av = .s undef))

def gOp (P : Program) (ops : Array Oper) (n : Nat) (mem : Mem) (i : Nat) (K : FS → Prop) (s : FS) : Prop :=
  match ops[i]? with
  | none => K s
  | some o => ∃ av, YieldsS P ops n mem o av s ∧ K (fput s o.dst av)

variable {ops : Array Oper} {md : Region.Mode} {n : Nat} {mem : Mem}

theorem gOp_mono {i : Nat} {s : FS} {K K' : FS → Prop} (h : ∀ s, K s → K' s) (hh : gOp P ops n mem i K s) : gOp P ops n mem i K' s := by
  unfold gOp at *
  split
  · simp_all
  · rename_i o ho
    simp only [ho] at hh
    obtain ⟨av, h1, h2⟩ := hh
    exact ⟨av, h1, h _ h2⟩

def wpAnyG (P : Program) (md : Region.Mode) (ops : Array Oper) (n : Nat) (mem : Mem) (Q : FS → Prop) : Nat → Array Bool → FS → Prop
  | 0, listed, s => Region.ready md ops listed = [] ∧ Q s
  | fuel + 1, listed, s => (Region.ready md ops listed = [] → Q s) ∧ ∀ i ∈ Region.ready md ops listed, gOp P ops n mem i (wpAnyG P md ops n mem Q fuel (listed.setIfInBounds i true)) s

theorem wanted_of {o : Oper} {s : FS} {w : World} {p : Hp} {tmps : Array Value} (hs : ∀ t, VR w p (s t) tmps t) {b : Bool} (h : wantedS ops o s = some b) : Region.wanted o (yielded ops tmps) = b := by
  unfold wantedS at h
  unfold Region.wanted
  split at h
  · rename_i hg; cases h; simp [hg]
  · rename_i j c hg
    split at h
    · rename_i d hd
      split at h
      · rename_i t ht
        cases h
        rcases hs d with h1 | ⟨v, hv, hr⟩
        · rw [ht] at h1; cases h1
        · rw [ht] at hr
          cases hr
          cases t <;> simp [hg, yielded, hd, hv]
      · cases h
    · cases h

theorem wpOp_of_gOp (hf : Fit w0 p0) {i : Nat} {s : FS} {a : Act} {w : World} {K : FS → Prop} {K' : Act → World → Prop} {Q' : Exit → Act → World → Prop} (hr : FRel w0 p0 n mem s a w)
    (h : ∀ s' a' w', FRel w0 p0 n mem s' a' w' → K s' → K' a' w') (hh : gOp P ops n mem i K s) : wpOp P ops Q' i K' a w := by
  unfold gOp at hh
  unfold wpOp
  split
  · rename_i ho; simp only [ho] at hh; exact h _ _ _ hr hh
  · rename_i o ho
    simp only [ho] at hh
    obtain ⟨av, ⟨hd, hy⟩, hK⟩ := hh
    obtain ⟨h1, h2, p, hE, hs, hm⟩ := hr
    have hputs : ∀ (v : Value) (w' : World), Grow w w' → RelV w' p av v → FRel w0 p0 n mem (fput s o.dst av) (a.put o.dst v) w' := by
      intro v w' hg hv
      have hk := hg.keeps hm
      have hE' : Ext w0 p0 w' p := hE.step hk hg.os hg.tape hg.output hg.size rfl (fun b hb _ => hg.heap b hb) (fun g h1 h2 => absurd h1 h2)
      have hm' : MemRel w' p mem := ⟨hm.dom, fun g m hl => (hm.holds g m hl).keep hk fun b hb => hg.heap b (hm.lt hb), hm.inj, hm.avoid⟩
      have hkeep : ∀ t, VR w' p (s t) a.tmps t := fun t => by
        rcases hs t with h | ⟨u, hu, hr⟩
        · exact .inl h
        · exact .inr ⟨u, hu, hr.keep hk⟩
      cases ho' : o.dst with
      | none => exact ⟨h1, h2, p, hE', hkeep, hm'⟩
      | some d =>
        refine ⟨h1, by simpa [Act.put] using h2, p, hE', fun t => ?_, hm'⟩
        simp only [fput, Act.put]
        by_cases htd : t = d
        · subst htd
          rw [if_pos rfl]
          exact .inr ⟨v, by simp [h2, hd t ho'], hv⟩
        · rw [if_neg htd]
          rcases hkeep t with h | ⟨u, hu, hr⟩
          · exact .inl h
          · exact .inr ⟨u, by rw [Array.getElem?_setIfInBounds_ne (fun e => htd e.symm)]; exact hu, hr⟩
    rcases hy with ⟨hw, hst⟩ | ⟨hw, rfl⟩
    · rw [if_pos (wanted_of hs hw)]
      refine .inl (hst a w p h2 (fun t _ => hs t) hm (fun b hb => Nat.lt_of_lt_of_le (hf.others b (hE.A ▸ hb)) hE.size) _ _ fun v w' hg hv => ?_)
      exact h _ _ _ (hputs v w' hg hv) hK
    · have := wanted_of (ops := ops) hs hw
      rw [if_neg (by rw [this]; exact Bool.false_ne_true)]
      exact h _ _ _ (hputs undef w (Grow.refl w) (.s undef)) hK

theorem wpAny_of_G (hf : Fit w0 p0) {Q : FS → Prop} {Q' : Exit → Act → World → Prop} (hQ : ∀ s a w, FRel w0 p0 n mem s a w → Q s → Q' .normal a w) : ∀ (fuel : Nat) (listed : Array Bool) (s : FS) (a : Act) (w : World), FRel w0 p0 n mem s a w →
    wpAnyG P md ops n mem Q fuel listed s → wpAny P md ops Q' fuel listed a w
  | 0, _, _, _, _, hr, h => ⟨h.1, hQ _ _ _ hr h.2⟩
  | fuel + 1, _, _, _, _, hr, h => ⟨fun h0 => hQ _ _ _ hr (h.1 h0), fun i hi => wpOp_of_gOp hf hr (fun s' a' w' hr' => wpAny_of_G hf hQ fuel _ s' a' w' hr') (h.2 i hi)⟩

theorem YieldsS.gOp {i : Nat} {o : Oper} {av : AV} {s : FS} (hi : ops[i]? = some o) (hy : YieldsS P ops n mem o av s) {K : FS → Prop} (h : K (fput s o.dst av)) : gOp P ops n mem i K s := by
  unfold Abs.gOp
  simp only [hi]
  exact ⟨av, hy, h⟩

theorem YieldsS.congr {o : Oper} {av : AV} {s s' : FS} (h : ∀ t ∈ o.looksAt ops, s' t = s t) (hy : YieldsS P ops n mem o av s) : YieldsS P ops n mem o av s' := by
  have hw : wantedS ops o s' = wantedS ops o s := by
    unfold wantedS
    split
    · rfl
    · rename_i j b hg
      split
      · rename_i d hd
        rw [h d (by simp [Oper.looksAt, hg, hd])]
      · rfl
  refine ⟨hy.1, ?_⟩
  rw [hw]
  rcases hy.2 with ⟨h1, h2⟩ | h1
  · exact .inl ⟨h1, fun act w p hn hs => h2 act w p hn (fun t ht => by rw [← h t ht]; exact hs t ht)⟩
  · exact .inr h1

theorem fput_other {s : FS} {d : Option Nat} {av : AV} {l : List Nat} (h : ∀ x, d = some x → x ∉ l) : ∀ t ∈ l, fput s d av t = s t := by
  intro t ht
  cases d with
  | none => rfl
  | some x => simp only [fput]; rw [if_neg (fun (e : t = x) => h x rfl (e ▸ ht))]
theorem fput_comm (s : FS) {x y : Option Nat} (a b : AV) (h : ∀ d, x = some d → y ≠ some d) : fput (fput s x a) y b = fput (fput s y b) x a := by
  cases x with
  | none => rfl
  | some d =>
    cases y with
    | none => rfl
    | some e =>
      have hne : d ≠ e := fun he => h d rfl (by rw [he])
      funext t
      simp only [fput]
      by_cases h1 : t = e
      · rw [if_pos h1, if_neg (by rw [h1]; exact fun h => hne h.symm), if_pos h1]
      · rw [if_neg h1, if_neg h1]

theorem gOp_put {j : Nat} {oi oj : Oper} {av : AV} (hj : ops[j]? = some oj) (hap : oi.apart ops oj = true) {K : FS → Prop} {s : FS}
    (hy : YieldsS P ops n mem oi av s) (h : gOp P ops n mem j K (fput s oi.dst av)) : gOp P ops n mem j (fun s' => YieldsS P ops n mem oi av s' ∧ K (fput s' oi.dst av)) s := by
  obtain ⟨h1, h2, h3⟩ := Oper.apart_spec hap
  unfold gOp at *
  simp only [hj] at *
  obtain ⟨u, hu, hn⟩ := h
  exact ⟨u, hu.congr (fun t ht => (fput_other h1 t ht).symm), hy.congr (fput_other h3), by rw [← fput_comm s av u h2]; exact hn⟩

theorem wpAnyG_first {Q : FS → Prop} {i : Nat} {oi : Oper} {av : AV} (hi : ops[i]? = some oi) :
    ∀ (fuel : Nat) (listed : Array Bool) (s : FS),
      (∀ j oj, ops[j]? = some oj → j ≠ i → listed.getD j true = false → (∀ e ∈ oj.after, Region.binds md e = true → e.on ≠ i) → oi.apart ops oj = true) →
      i ∈ Region.ready md ops listed → YieldsS P ops n mem oi av s →
      wpAnyG P md ops n mem Q fuel (listed.setIfInBounds i true) (fput s oi.dst av) → wpAnyG P md ops n mem Q (fuel + 1) listed s := by
  intro fuel
  induction fuel with
  | zero =>
    intro listed s _ hr hy H
    refine ⟨fun h => (by rw [h] at hr; cases hr), fun j hj => ?_⟩
    by_cases hji : j = i
    · subst hji; exact hy.gOp hi H
    · have := ready_mono hj hji
      rw [H.1] at this
      cases this
  | succ fuel ih =>
    intro listed s hfree hr hy H
    refine ⟨fun h => (by rw [h] at hr; cases hr), fun j hj => ?_⟩
    by_cases hji : j = i
    · subst hji; exact hy.gOp hi H
    · have h1 := H.2 j (ready_mono hj hji)
      obtain ⟨hjun, oj, hoj, hall⟩ := mem_ready.1 hj
      have hnot : ∀ e ∈ oj.after, Region.binds md e = true → e.on ≠ i := fun e he hb heq => by
        have h1 := hall e he hb
        have h0 := (mem_ready.1 hr).1
        rw [heq] at h1
        rcases Nat.lt_or_ge i listed.size with h' | h'
        · simp [h'] at h0 h1; rw [h0] at h1; cases h1
        · simp [Array.getElem?_eq_none h'] at h1
      have h2 := gOp_put hoj (hfree j oj hoj hji hjun hnot) hy h1
      have hfree' : ∀ k ok, ops[k]? = some ok → k ≠ i → (listed.setIfInBounds j true).getD k true = false →
          (∀ e ∈ ok.after, Region.binds md e = true → e.on ≠ i) → oi.apart ops ok = true := fun k ok hk hki hun hno => by
        refine hfree k ok hk hki ?_ hno
        by_cases hjk : j = k
        · subst hjk; exact hjun
        · rw [getD_set_ne true hjk] at hun; exact hun
      refine gOp_mono (fun s' h3 => ih (listed.setIfInBounds j true) s' hfree' (ready_mono hr (Ne.symm hji)) h3.1 ?_) h2
      rw [Array.setIfInBounds_comm _ _ hji]
      exact h3.2

/-- The lexical walk. -/
def lexG (P : Program) (ops : Array Oper) (n : Nat) (mem : Mem) (Q : FS → Prop) : List Oper → FS → Prop
  | [], s => Q s
  | o :: rest, s => ∃ av, YieldsS P ops n mem o av s ∧ lexG P ops n mem Q rest (fput s o.dst av)

theorem wpAnyG_lex {Q : FS → Prop} : ∀ (l : List Oper) (k : Nat) (listed : Array Bool) (s : FS), (∀ j, l[j]? = ops[k + j]?) →
    Region.lexFrom md ops l.length k listed = true → lexG P ops n mem Q l s → wpAnyG P md ops n mem Q l.length listed s
  | [], _, _, _, _, hB, h => ⟨by simpa [Region.lexFrom] using hB, h⟩
  | o :: l, k, listed, s, hl, hB, h => by
    have h0 : ops[k]? = some o := by simpa using (hl 0).symm
    simp only [List.length_cons, Region.lexFrom, Bool.and_eq_true] at hB
    obtain ⟨⟨hr, hf⟩, hB'⟩ := hB
    obtain ⟨av, hy, hK⟩ := h
    exact wpAnyG_first h0 l.length listed s (Region.free_spec h0 hf) (by simpa using hr) hy
      (wpAnyG_lex l (k + 1) _ _ (fun j => by have := hl (j + 1); simpa [Nat.add_assoc, Nat.add_comm 1 j] using this) hB' hK)

def noBad : List (Nat × AV) → Bool
  | [] => true
  | (_, .bad) :: _ => false
  | _ :: r => noBad r
theorem noBad_look : ∀ {l : List (Nat × AV)}, noBad l = true → ∀ t, look l t ≠ some .bad
  | [], _, t, h => by simp [look] at h
  | (d, a) :: r, hb, t, h => by
    simp only [look] at h
    split at h
    · cases h; simp [noBad] at hb
    · refine noBad_look (l := r) ?_ t h
      cases a <;> first | exact hb | (simp [noBad] at hb)

/-- The slots, as a function. -/
def St.fs (σ : St) : FS := fun t => (look σ.slots t).getD .bad

theorem aw_region_draw (hf : Fit w0 p0) {id : Nat} {l : List Oper} {σ : St} {Q : Exit → St → Prop} (hm : P.follows .mixedOrders = true) (hB : Region.lexB .any l.toArray = true)
    (h : lexG P l.toArray σ.n σ.mem (fun s => ∃ σ' : St, σ'.n = σ.n ∧ σ'.mem = σ.mem ∧ covers (fun t => some (s t)) σ'.slots ∧ noBad σ'.slots = true ∧ Q .normal σ') l σ.fs) : AW P w0 p0 (.region id l.toArray true) σ Q := by
  intro a w ⟨h1, h2, p, hE, hs, hmem⟩
  refine wp_region_any hm ?_
  simp only [Region.lexB, Bool.and_eq_true] at hB
  have hr : FRel w0 p0 σ.n σ.mem σ.fs a { w with drawn := w.drawn + 1 } := by
    have hg : Grow w { w with drawn := w.drawn + 1 } := ⟨rfl, ⟨rfl, Nat.le_succ _⟩, rfl, Nat.le_refl _, fun _ _ => rfl⟩
    have hk := hg.keeps hmem
    refine ⟨h1, h2, p, hE.step hk hg.os hg.tape hg.output hg.size rfl (fun b hb _ => hg.heap b hb) (fun g h1 h2 => absurd h1 h2), fun t => ?_, ⟨hmem.dom, fun g m hl => (hmem.holds g m hl).keep hk fun _ _ => rfl, hmem.inj, hmem.avoid⟩⟩
    unfold St.fs
    cases hl : look σ.slots t with
    | none => exact .inl rfl
    | some b => obtain ⟨v, hv, hrv⟩ := hs t b hl; exact .inr ⟨v, hv, hrv.keep hk⟩
  have hlen : l.toArray.size = l.length := by simp
  refine wpAny_of_G hf (Q := _) (fun s a w hr hQ => ?_) _ _ _ _ _ hr (by
    have := wpAnyG_lex (P := P) (md := .any) (n := σ.n) (mem := σ.mem) (ops := l.toArray) l 0 (Array.replicate l.toArray.size false) σ.fs (by simp) (by simpa using hB.2) h
    simpa using this)
  obtain ⟨σ', e1, e2, hc, hnb, hQ'⟩ := hQ
  obtain ⟨g1, g2, q, hE', hs', hm'⟩ := hr
  refine ⟨σ', hQ', g1, by rw [e1]; exact g2, q, hE', fun t b hb => ?_, by rw [e2]; exact hm'⟩
  have hst : s t = b := by simpa using covers_look hc t b hb
  rcases hs' t with h | ⟨v, hv, hrv⟩
  · rw [hst] at h
    subst h
    exact absurd hb (noBad_look hnb t)
  · exact ⟨v, hv, hst ▸ hrv⟩


/-- An operation that leaves the world alone, by the slots that it looks at. -/
theorem step_pure {o : Oper} {s : FS} {av : AV} (L : List (Nat × AV)) (hL : covers (fun t => if t ∈ o.looksAt ops then some (s t) else none) L) (hnb : noBad L = true) (h : PureOp P o ⟨n, L, mem⟩ av) : StepOn P ops n mem o s av := by
  intro act w p hn hs hm hA next Q hnx
  have hsl : SlotsRel w p L act.tmps := by
    intro t b hb
    have h1 := covers_look hL t b hb
    -- 
    split at h1
    · rename_i hmem
      cases h1
      rcases hs t hmem with h2 | h2
      · rw [h2] at hb; exact absurd hb (noBad_look hnb t)
      · exact h2
    · cases h1
  obtain ⟨v, hv, hr⟩ := h act w p hsl hm
  unfold Oper.wp
  rw [hv]
  exact hnx v w (Grow.refl w) hr

end Go.Abs
set_option linter.unusedVariables false
set_option linter.unusedSimpArgs false
namespace Go.Abs
open Go Go.RowKit
variable {P : Program} {w0 : World} {p0 : Hp}

/-- 'look', as the unifier reckons it quickly. -/
def lk {α : Type} : List (Nat × α) → Nat → Option α
  | [], _ => none
  | (d, a) :: r, t => match Nat.beq d t with | true => some a | false => lk r t
theorem lk_eq {α : Type} : ∀ (l : List (Nat × α)) (t : Nat), lk l t = look l t
  | [], _ => rfl
  | (d, a) :: r, t => by
    simp only [lk, look]
    cases h : Nat.beq d t with
    | true => rw [if_pos (Nat.eq_of_beq_eq_true h)]
    | false => rw [if_neg (Nat.ne_of_beq_eq_false h)]; exact lk_eq r t

def ev (sl : List (Nat × AV)) : Operand → Option AV
  | .tmp t => lk sl t
  | .const (.agg cs) => some (.agg (cs.toList.map .s))
  | .const v => some (.s v)
  | .func f => some (.fn f [])
  | .global _ => none
theorem ev_eq {n : Nat} {sl : List (Nat × AV)} {m : Mem} {x : Operand} {a : AV} (h : ev sl x = some a) : (⟨n, sl, m⟩ : St).ev x = a := by
  cases x with
  | tmp t => simp only [ev, lk_eq] at h; simp [St.ev, St.get, h]
  | const v => cases v <;> simp_all [ev, St.ev]
  | func f => simpa [ev, St.ev] using h
  | global g => simp [ev] at h
def lt (d n : Nat) : Bool := Nat.ble (d + 1) n
theorem lt_of {d n : Nat} (h : lt d n = true) : d < n := Nat.le_of_ble_eq_true h
theorem dst_of {d n : Nat} (h : lt d n = true) : ∀ x, some d = some x → x < n := fun x hx => by cases hx; exact lt_of h

section
variable {ops : Array Oper} {rest : List Oper} {n d ty : Nat} {ps : String} {af : Array Edge} {sl : List (Nat × AV)} {m : Mem} {Q : Exit → St → Prop}

theorem x_pure {op : Op} {av : AV} (hd : lt d n = true) (h : PureOp P ⟨some d, op, ty, ps, af, none⟩ ⟨n, sl, m⟩ av) (hk : AOps P w0 p0 ops rest ⟨n, (d, av) :: sl, m⟩ Q) :
    AOps P w0 p0 ops (⟨some d, op, ty, ps, af, none⟩ :: rest) ⟨n, sl, m⟩ Q :=
  aops_cons rfl (aop_pure (dst_of hd) av h hk)

theorem x_move {x : Operand} {a : AV} (hd : lt d n = true) (hx : ev sl x = some a) (hk : AOps P w0 p0 ops rest ⟨n, (d, a) :: sl, m⟩ Q) : AOps P w0 p0 ops (⟨some d, .move x, ty, ps, af, none⟩ :: rest) ⟨n, sl, m⟩ Q :=
  x_pure hd (ev_eq hx ▸ pure_move rfl) hk
theorem x_assign {x : Operand} {a : AV} (hd : lt d n = true) (hx : ev sl x = some a) (hk : AOps P w0 p0 ops rest ⟨n, (d, a) :: sl, m⟩ Q) : AOps P w0 p0 ops (⟨some d, .assign x, ty, ps, af, none⟩ :: rest) ⟨n, sl, m⟩ Q :=
  x_pure hd (ev_eq hx ▸ pure_assign rfl) hk
/-- A slot that no longer matters. -/
theorem x_assign_bad {x : Operand} (hd : lt d n = true) (hk : AOps P w0 p0 ops rest ⟨n, (d, .bad) :: sl, m⟩ Q) : AOps P w0 p0 ops (⟨some d, .assign x, ty, ps, af, none⟩ :: rest) ⟨n, sl, m⟩ Q :=
  x_pure hd (fun act w p hs _ => ⟨act.eval x, by simp [execOp], .bad _⟩) hk
theorem x_pick_t {c x y : Operand} {a : AV} (hd : lt d n = true) (hc : ev sl c = some (.s (.bool true))) (hx : ev sl x = some a) (hk : AOps P w0 p0 ops rest ⟨n, (d, a) :: sl, m⟩ Q) : AOps P w0 p0 ops (⟨some d, .pick c x y, ty, ps, af, none⟩ :: rest) ⟨n, sl, m⟩ Q :=
  x_pure hd (ev_eq hx ▸ pure_pick rfl (ev_eq hc)) hk
theorem x_pick_f {c x y : Operand} {a : AV} (hd : lt d n = true) (hc : ev sl c = some (.s (.bool false))) (hx : ev sl y = some a) (hk : AOps P w0 p0 ops rest ⟨n, (d, a) :: sl, m⟩ Q) : AOps P w0 p0 ops (⟨some d, .pick c x y, ty, ps, af, none⟩ :: rest) ⟨n, sl, m⟩ Q :=
  x_pure hd (ev_eq hx ▸ pure_pick rfl (ev_eq hc)) hk
theorem x_bin {op : BinOp} {t yt : TypeId} {x y : Operand} {u v r : Value} (hd : lt d n = true) (hx : ev sl x = some (.s u)) (hy : ev sl y = some (.s v)) (h : abin P op t u v = some r)
    (hk : AOps P w0 p0 ops rest ⟨n, (d, .s r) :: sl, m⟩ Q) : AOps P w0 p0 ops (⟨some d, .binOp op t x y yt, ty, ps, af, none⟩ :: rest) ⟨n, sl, m⟩ Q :=
  x_pure hd (pure_bin rfl (ev_eq hx) (ev_eq hy) h) hk

theorem wrap_i64 {z : Int} (h1 : -9223372036854775808 ≤ z) (h2 : z ≤ 9223372036854775807) : IntKind.i64.wrap z = z := by
  simp [IntKind.wrap, IntKind.bits, IntKind.signed]; omega
theorem x_add {t yt : TypeId} {x y : Operand} {a b : Int} (hd : lt d n = true) (hx : ev sl x = some (.s (.int .i64 a))) (hy : ev sl y = some (.s (.int .i64 b))) (h1 : -9223372036854775808 ≤ a + b) (h2 : a + b ≤ 9223372036854775807)
    (hk : AOps P w0 p0 ops rest ⟨n, (d, .s (.int .i64 (a + b))) :: sl, m⟩ Q) : AOps P w0 p0 ops (⟨some d, .binOp .add t x y yt, ty, ps, af, none⟩ :: rest) ⟨n, sl, m⟩ Q :=
  x_bin hd hx hy (by simp [abin, aint, wrap_i64 h1 h2]) hk
theorem x_sub {t yt : TypeId} {x y : Operand} {a b : Int} (hd : lt d n = true) (hx : ev sl x = some (.s (.int .i64 a))) (hy : ev sl y = some (.s (.int .i64 b))) (h1 : -9223372036854775808 ≤ a - b) (h2 : a - b ≤ 9223372036854775807)
    (hk : AOps P w0 p0 ops rest ⟨n, (d, .s (.int .i64 (a - b))) :: sl, m⟩ Q) : AOps P w0 p0 ops (⟨some d, .binOp .sub t x y yt, ty, ps, af, none⟩ :: rest) ⟨n, sl, m⟩ Q :=
  x_bin hd hx hy (by simp [abin, aint, wrap_i64 h1 h2]) hk
theorem x_not {t : TypeId} {x : Operand} {b : Bool} (hd : lt d n = true) (hx : ev sl x = some (.s (.bool b))) (hk : AOps P w0 p0 ops rest ⟨n, (d, .s (.bool !b)) :: sl, m⟩ Q) : AOps P w0 p0 ops (⟨some d, .unOp .not t x, ty, ps, af, none⟩ :: rest) ⟨n, sl, m⟩ Q :=
  x_pure hd (pure_not rfl (ev_eq hx)) hk
theorem x_len_str {t : TypeId} {x : Operand} {s : ByteArray} (hd : lt d n = true) (hx : ev sl x = some (.s (.string s))) (ht : P.underlying t = some .string) (hk : AOps P w0 p0 ops rest ⟨n, (d, .s (.int .i64 s.size)) :: sl, m⟩ Q) :
    AOps P w0 p0 ops (⟨some d, .call { callee := .builtin .len, args := #[x], argTypes := #[t] }, ty, ps, af, none⟩ :: rest) ⟨n, sl, m⟩ Q :=
  x_pure hd (pure_len_str rfl ht (ev_eq hx)) hk
theorem x_len_sl {t e k : Nat} {x : Operand} {xs : List (List AV)} (hd : lt d n = true) (hx : ev sl x = some (.sl k xs)) (ht : elem? P t = some e) (hk : AOps P w0 p0 ops rest ⟨n, (d, .s (.int .i64 xs.length)) :: sl, m⟩ Q) :
    AOps P w0 p0 ops (⟨some d, .call { callee := .builtin .len, args := #[x], argTypes := #[t] }, ty, ps, af, none⟩ :: rest) ⟨n, sl, m⟩ Q :=
  x_pure hd (pure_len_sl rfl ht (ev_eq hx)) hk
theorem x_len_own {t e g k off c : Nat} {x : Operand} (hd : lt d n = true) (hx : ev sl x = some (.own g k off c)) (ht : elem? P t = some e) (hk : AOps P w0 p0 ops rest ⟨n, (d, .s (.int .i64 c)) :: sl, m⟩ Q) :
    AOps P w0 p0 ops (⟨some d, .call { callee := .builtin .len, args := #[x], argTypes := #[t] }, ty, ps, af, none⟩ :: rest) ⟨n, sl, m⟩ Q :=
  x_pure hd (pure_len_own rfl ht (ev_eq hx)) hk
theorem x_min {t1 t2 : TypeId} {x y : Operand} {k k' : IntKind} {a b : Int} (hd : lt d n = true) (hx : ev sl x = some (.s (.int k a))) (hy : ev sl y = some (.s (.int k' b))) (hk : AOps P w0 p0 ops rest ⟨n, (d, .s (.int k (min a b))) :: sl, m⟩ Q) :
    AOps P w0 p0 ops (⟨some d, .call { callee := .builtin .min, args := #[x, y], argTypes := #[t1, t2] }, ty, ps, af, none⟩ :: rest) ⟨n, sl, m⟩ Q :=
  x_pure hd (pure_min rfl (ev_eq hx) (ev_eq hy)) hk
theorem x_max {t1 t2 : TypeId} {x y : Operand} {k k' : IntKind} {a b : Int} (hd : lt d n = true) (hx : ev sl x = some (.s (.int k a))) (hy : ev sl y = some (.s (.int k' b))) (hk : AOps P w0 p0 ops rest ⟨n, (d, .s (.int k (max a b))) :: sl, m⟩ Q) :
    AOps P w0 p0 ops (⟨some d, .call { callee := .builtin .max, args := #[x, y], argTypes := #[t1, t2] }, ty, ps, af, none⟩ :: rest) ⟨n, sl, m⟩ Q :=
  x_pure hd (pure_max rfl (ev_eq hx) (ev_eq hy)) hk
theorem x_extract {x : Operand} {i : Nat} {vs : List AV} {c : AV} (hd : lt d n = true) (hx : ev sl x = some (.tup vs)) (hi : vs[i]? = some c) (hk : AOps P w0 p0 ops rest ⟨n, (d, c) :: sl, m⟩ Q) : AOps P w0 p0 ops (⟨some d, .extract x i, ty, ps, af, none⟩ :: rest) ⟨n, sl, m⟩ Q :=
  x_pure hd (pure_extract rfl (ev_eq hx) hi) hk
theorem x_idx_sl {x i : Operand} {t e k : Nat} {xs : List (List AV)} {c : List AV} {kd : IntKind} {z : Int} (hd : lt d n = true) (hx : ev sl x = some (.sl k xs)) (hi : ev sl i = some (.s (.int kd z))) (ht : elem? P t = some e) (hc : cells? P e = some k)
    (hn : 0 ≤ z ∧ xs[z.toNat]? = some c) (hk : AOps P w0 p0 ops rest ⟨n, (d, .adr c) :: sl, m⟩ Q) : AOps P w0 p0 ops (⟨some d, .indexAddr t x i, ty, ps, af, none⟩ :: rest) ⟨n, sl, m⟩ Q :=
  x_pure hd (pure_indexAddr_sl rfl ht hc (ev_eq hx) (ev_eq hi) hn) hk
theorem x_idx_own {x i : Operand} {t e g k off c : Nat} {kd : IntKind} {z : Int} (hd : lt d n = true) (hx : ev sl x = some (.own g k off c)) (hi : ev sl i = some (.s (.int kd z))) (ht : elem? P t = some e) (hc : cells? P e = some k)
    (hn : 0 ≤ z ∧ z < c) (hk : AOps P w0 p0 ops rest ⟨n, (d, .ref g k (off + z.toNat) 0) :: sl, m⟩ Q) : AOps P w0 p0 ops (⟨some d, .indexAddr t x i, ty, ps, af, none⟩ :: rest) ⟨n, sl, m⟩ Q :=
  x_pure hd (pure_indexAddr_own rfl ht hc (ev_eq hx) (ev_eq hi) hn) hk
theorem x_load1 {x : Operand} {t : Nat} {c : AV} {cs : List AV} (hd : lt d n = true) (hx : ev sl x = some (.adr cs)) (ht : agg? P t = some false) (hc : cs[0]? = some c) (hk : AOps P w0 p0 ops rest ⟨n, (d, c) :: sl, m⟩ Q) : AOps P w0 p0 ops (⟨some d, .load t x, ty, ps, af, none⟩ :: rest) ⟨n, sl, m⟩ Q :=
  x_pure hd (pure_load_adr rfl ht (ev_eq hx) hc) hk
theorem x_loads {x : Operand} {t k : Nat} {cs cs' : List AV} (hd : lt d n = true) (hx : ev sl x = some (.adr cs)) (ht : agg? P t = some true) (hn : cells? P t = some k) (hc : Nat.ble k cs.length = true) (he : cs.take k = cs') (hk : AOps P w0 p0 ops rest ⟨n, (d, .agg cs') :: sl, m⟩ Q) : AOps P w0 p0 ops (⟨some d, .load t x, ty, ps, af, none⟩ :: rest) ⟨n, sl, m⟩ Q :=
  x_pure hd (he ▸ pure_load_adrs rfl ht hn (ev_eq hx) (Nat.le_of_ble_eq_true hc)) hk
theorem x_load1r {x : Operand} {t g k j f : Nat} {c : AV} {mm : AM} (hd : lt d n = true) (hx : ev sl x = some (.ref g k j f)) (ht : agg? P t = some false) (hm : lk m g = some mm) (hc : (mm.at k j f)[0]? = some c) (hk : AOps P w0 p0 ops rest ⟨n, (d, c) :: sl, m⟩ Q) :
    AOps P w0 p0 ops (⟨some d, .load t x, ty, ps, af, none⟩ :: rest) ⟨n, sl, m⟩ Q :=
  x_pure hd (pure_load_ref rfl ht (ev_eq hx) (by rw [← lk_eq]; exact hm) hc) hk
theorem x_loadsr {x : Operand} {t g k j f c : Nat} {mm : AM} {cs' : List AV} (hd : lt d n = true) (hx : ev sl x = some (.ref g k j f)) (ht : agg? P t = some true) (hn : cells? P t = some c) (hm : lk m g = some mm) (hc : Nat.ble c (mm.at k j f).length = true) (he : (mm.at k j f).take c = cs')
    (hk : AOps P w0 p0 ops rest ⟨n, (d, .agg cs') :: sl, m⟩ Q) : AOps P w0 p0 ops (⟨some d, .load t x, ty, ps, af, none⟩ :: rest) ⟨n, sl, m⟩ Q :=
  x_pure hd (he ▸ pure_load_refs rfl ht hn (ev_eq hx) (by rw [← lk_eq]; exact hm) (Nat.le_of_ble_eq_true hc)) hk
theorem x_fld_adr {x : Operand} {t u f off c : Nat} {cs cs' : List AV} (hd : lt d n = true) (hx : ev sl x = some (.adr cs)) (ht : field? P t f = some (off, u)) (hu : cells? P u = some (c + 1)) (he : cs.drop off = cs') (hk : AOps P w0 p0 ops rest ⟨n, (d, .adr cs') :: sl, m⟩ Q) :
    AOps P w0 p0 ops (⟨some d, .fieldAddr t x f, ty, ps, af, none⟩ :: rest) ⟨n, sl, m⟩ Q :=
  x_pure hd (he ▸ pure_fieldAddr_adr rfl ht hu (by omega) (ev_eq hx)) hk
theorem x_fld_ref {x : Operand} {t u f off c g k j i i' : Nat} (hd : lt d n = true) (hx : ev sl x = some (.ref g k j i)) (ht : field? P t f = some (off, u)) (hu : cells? P u = some (c + 1)) (he : i + off = i') (hk : AOps P w0 p0 ops rest ⟨n, (d, .ref g k j i') :: sl, m⟩ Q) :
    AOps P w0 p0 ops (⟨some d, .fieldAddr t x f, ty, ps, af, none⟩ :: rest) ⟨n, sl, m⟩ Q :=
  x_pure hd (he ▸ pure_fieldAddr_ref rfl ht hu (by omega) (ev_eq hx)) hk
theorem x_fld1 {x : Operand} {t u f off : Nat} {cs : List AV} {c : AV} (hd : lt d n = true) (hx : ev sl x = some (.agg cs)) (ht : field? P t f = some (off, u)) (hu : agg? P u = some false) (hc : cs[off]? = some c) (hk : AOps P w0 p0 ops rest ⟨n, (d, c) :: sl, m⟩ Q) :
    AOps P w0 p0 ops (⟨some d, .field t x f, ty, ps, af, none⟩ :: rest) ⟨n, sl, m⟩ Q :=
  x_pure hd (pure_field1 rfl ht hu (ev_eq hx) hc) hk
theorem x_flds {x : Operand} {t u f off c : Nat} {cs cs' : List AV} (hd : lt d n = true) (hx : ev sl x = some (.agg cs)) (ht : field? P t f = some (off, u)) (hu : agg? P u = some true) (hn : cells? P u = some c) (hc : Nat.ble (off + c) cs.length = true) (he : (cs.drop off).take c = cs')
    (hk : AOps P w0 p0 ops rest ⟨n, (d, .agg cs') :: sl, m⟩ Q) : AOps P w0 p0 ops (⟨some d, .field t x f, ty, ps, af, none⟩ :: rest) ⟨n, sl, m⟩ Q :=
  x_pure hd (he ▸ pure_fields rfl ht hu hn (ev_eq hx) (Nat.le_of_ble_eq_true hc)) hk
theorem x_idx_str {x i : Operand} {t : Nat} {s : ByteArray} {kd : IntKind} {z : Int} {b : UInt8} (hd : lt d n = true) (hx : ev sl x = some (.s (.string s))) (hi : ev sl i = some (.s (.int kd z))) (ht : P.underlying t = some .string) (hn : 0 ≤ z ∧ s.data[z.toNat]? = some b)
    (hk : AOps P w0 p0 ops rest ⟨n, (d, .s (.int .u8 b.toNat)) :: sl, m⟩ Q) : AOps P w0 p0 ops (⟨some d, .index t x i, ty, ps, af, none⟩ :: rest) ⟨n, sl, m⟩ Q :=
  x_pure hd (pure_index_str rfl ht (ev_eq hx) (ev_eq hi) hn) hk

/-- A guard that says yes: the operation runs as if it had none. -/
theorem x_guard_t {op : Op} {j g : Nat} {b : Bool} (hg : (ops[j]?).bind (·.dst) = some g) (hb : lk sl g = some (.s (.bool b))) (hd : lt d n = true)
    (hk : AOps P w0 p0 ops (⟨some d, op, ty, ps, af, none⟩ :: rest) ⟨n, sl, m⟩ Q) : AOps P w0 p0 ops (⟨some d, op, ty, ps, af, some (j, b)⟩ :: rest) ⟨n, sl, m⟩ Q := by
  intro a w hr
  have hy : yielded ops a.tmps j = some b := by
    obtain ⟨_, _, p, _, hs, _⟩ := hr
    obtain ⟨v, hv1, hv2⟩ := hs g _ (by rw [← lk_eq]; exact hb)
    cases hv2
    simp [yielded, hg, hv1]
  have := hk a w hr
  unfold wpList at this ⊢
  have hw : Region.wanted (⟨some d, op, ty, ps, af, some (j, b)⟩ : Oper) (yielded ops a.tmps) = true := by simp [Region.wanted, hy]
  have hw' : Region.wanted (⟨some d, op, ty, ps, af, none⟩ : Oper) (yielded ops a.tmps) = true := by simp [Region.wanted]
  rw [if_pos hw]
  rw [if_pos hw'] at this
  exact this
theorem x_guard_f {op : Op} {j g : Nat} {b : Bool} (hg : (ops[j]?).bind (·.dst) = some g) (hb : lk sl g = some (.s (.bool !b))) (hd : lt d n = true)
    (hk : AOps P w0 p0 ops rest ⟨n, (d, .s undef) :: sl, m⟩ Q) : AOps P w0 p0 ops (⟨some d, op, ty, ps, af, some (j, b)⟩ :: rest) ⟨n, sl, m⟩ Q :=
  aops_guard (t := !b) rfl hg (by rw [← lk_eq]; exact hb) (dst_of hd) (fun h => by cases b <;> cases h) (fun _ => hk)

theorem x_makeFunc {f : Nat} {l : List Operand} {cs : List AV} (hd : lt d n = true) (hl : l.map (St.ev ⟨n, sl, m⟩) = cs) (hk : AOps P w0 p0 ops rest ⟨n, (d, .fn f cs) :: sl, m⟩ Q) : AOps P w0 p0 ops (⟨some d, .makeFunc (.func f) #[] l.toArray, ty, ps, af, none⟩ :: rest) ⟨n, sl, m⟩ Q :=
  x_pure hd (hl ▸ pure_makeFunc rfl) hk
theorem x_build {t : Nat} {parts : List (Nat × Operand)} {zs : List Value} {pl : List (Nat × Nat)} {ps' : List (Nat × AV)} {cs : List AV} (hd : lt d n = true) (hz : zeros? P t = some zs) (hp : places? P t = some pl) (hps : parts.map (fun x => (x.1, St.ev ⟨n, sl, m⟩ x.2)) = ps')
    (h1 : ∀ x ∈ ps', ∀ c ∈ x.2.cells, c.one = true) (hc : afill (fun i => pl[i]?) (zs.map .s) ps' = some cs) (hk : AOps P w0 p0 ops rest ⟨n, (d, .agg cs) :: sl, m⟩ Q) : AOps P w0 p0 ops (⟨some d, .build t parts.toArray, ty, ps, af, none⟩ :: rest) ⟨n, sl, m⟩ Q :=
  x_pure hd (pure_build rfl hz hp (fun x hx => h1 (x.1, St.ev ⟨n, sl, m⟩ x.2) (hps ▸ List.mem_map.2 ⟨x, hx, rfl⟩)) (hps ▸ hc)) hk
theorem fresh_of {g : Nat} (h : lt g E0 = true) (hl : lk m g = none) : St.fresh ⟨n, sl, m⟩ g := ⟨lt_of h, by rw [← lk_eq]; exact hl⟩
theorem x_box (hf : Fit w0 p0) {t : Nat} {x : Operand} {av : AV} (hd : lt d n = true) (hE : lt d E0 = true) (hl : lk m d = none) (hx : ev sl x = some av) (h1 : ∀ c ∈ av.cells, c.one = true) (hk : AOps P w0 p0 ops rest ⟨n, (d, .ref d 0 0 0) :: sl, (d, .box av.cells) :: m⟩ Q) :
    AOps P w0 p0 ops (⟨some d, .box t x, ty, ps, af, none⟩ :: rest) ⟨n, sl, m⟩ Q :=
  aops_cons rfl (aop_box hf rfl rfl (lt_of hd) (fresh_of hE hl) (ev_eq hx) h1 hk)
theorem x_buildSlice (hf : Fit w0 p0) {t e k by_ len : Nat} {parts : List (Nat × Operand)} {xs : List (List AV)} (hd : lt d n = true) (hE : lt d E0 = true) (hl : lk m d = none) (ht : appT? P t = some (e, k, by_)) (hidx : parts.map (·.1) = List.range len) (hbig : Nat.ble (len * k) 16777216 = true)
    (hxs : (parts.map fun x => (St.ev ⟨n, sl, m⟩ x.2).cells) = xs) (hx : ∀ x ∈ xs, x.length = k ∧ ∀ c ∈ x, c.leaf = true) (hk : AOps P w0 p0 ops rest ⟨n, (d, .own d k 0 len) :: sl, (d, .buf k xs) :: m⟩ Q) :
    AOps P w0 p0 ops (⟨some d, .buildSlice t len parts.toArray, ty, ps, af, none⟩ :: rest) ⟨n, sl, m⟩ Q :=
  have h := appT?_inv ht
  aops_cons rfl (aop_buildSlice hf rfl rfl (lt_of hd) (fresh_of hE hl) h.1 h.2.1 h.2.2.1 (by obtain ⟨i, z, h1, h2, _⟩ := h.2.2.2; simp [zeros?, h1, h2]) hidx (Nat.le_of_ble_eq_true hbig) hxs hx hk)
theorem x_nil (hf : Fit w0 p0) (k : Nat) (hd : lt d n = true) (hE : lt d E0 = true) (hl : lk m d = none) (hk : AOps P w0 p0 ops rest ⟨n, (d, .own d k 0 0) :: sl, (d, .buf k []) :: m⟩ Q) :
    AOps P w0 p0 ops (⟨some d, .assign (.const (.slice none 0 0)), ty, ps, af, none⟩ :: rest) ⟨n, sl, m⟩ Q :=
  aops_cons rfl (aop_nil hf k rfl rfl (lt_of hd) (fresh_of hE hl) hk)
theorem x_append (hf : Fit w0 p0) {s x : Operand} {t e k by_ g c : Nat} {xs ys : List (List AV)} {k' : Nat} {src : AV} (hd : lt d n = true) (ht : appT? P t = some (e, k, by_)) (hg : lt g E0 = true) (hs : ev sl s = some (.own g k 0 c)) (hl : lk m g = some (.buf k' xs)) (hk' : k' = k ∨ xs = [])
    (hn : c = xs.length) (hx : ev sl x = some src) (hsrc : asrc ⟨n, sl, m⟩ k src = some ys) (hmax : c + ys.length ≤ maxLen) (hby : (c + ys.length) * by_ ≤ 140737488355328)
    (hk : AOps P w0 p0 ops rest ⟨n, (d, .own g k 0 (c + ys.length)) :: killSlots g sl, (g, .buf k (xs ++ ys)) :: killMem g m⟩ Q) :
    AOps P w0 p0 ops (⟨some d, .call { callee := .builtin .append, args := #[s, x], argTypes := #[t, t] }, ty, ps, af, none⟩ :: rest) ⟨n, sl, m⟩ Q :=
  aops_cons rfl (aop_append hf rfl rfl (lt_of hd) ht (lt_of hg) (ev_eq hs) (by rw [← lk_eq]; exact hl) hk' hn (by rw [ev_eq hx]; exact hsrc) hmax hby hk)
theorem x_store (hf : Fit w0 p0) {t : Nat} {x y : Operand} {g k j f c : Nat} {mm mm' : AM} {av : AV} (hx : ev sl x = some (.ref g k j f)) (hl : lk m g = some mm) (hn : cells? P t = some c) (hy : ev sl y = some av) (hlen : av.cells.length = c) (h1 : ∀ c ∈ av.cells, c.one = true)
    (hlf : ∀ k xs, mm = .buf k xs → ∀ c ∈ av.cells, c.leaf = true) (hm' : mm.store k j f av.cells = some mm') (hk : AOps P w0 p0 ops rest ⟨n, sl, setMem g mm' m⟩ Q) :
    AOps P w0 p0 ops (⟨none, .store t x y, ty, ps, af, none⟩ :: rest) ⟨n, sl, m⟩ Q :=
  aops_cons rfl (aop_store hf rfl rfl (ev_eq hx) (by rw [← lk_eq]; exact hl) hn (by rw [ev_eq hy]; exact hlen) (by rw [ev_eq hy]; exact h1) (by rw [ev_eq hy]; exact hlf) (by rw [ev_eq hy]; exact hm') hk)
theorem x_callA (hf : Fit w0 p0) {fo : Operand} {xs : List Operand} {ts : Array TypeId} {f : Nat} {cap args : List AV} {R : AV → Prop} (hd : lt d n = true) (hfo : ev sl fo = some (.fn f cap)) (hargs : xs.map (St.ev ⟨n, sl, m⟩) ++ cap = args)
    (hent : ∀ args w, (callFunc f args).run P w = .ok (.enter f args) w) (hcl : cleanL (fun _ => false) args = true) (hden : Den P f args R) (hk : ∀ r, R r → AOps P w0 p0 ops rest ⟨n, (d, r) :: sl, m⟩ Q) :
    AOps P w0 p0 ops (⟨some d, .call { callee := .value fo, args := xs.toArray, argTypes := ts }, ty, ps, af, none⟩ :: rest) ⟨n, sl, m⟩ Q :=
  aops_cons rfl (aop_callA hf rfl hent (dst_of hd) (ev_eq hfo) (fun a ha => cleanL_mem (hargs ▸ hcl) a ha) (hargs ▸ hden) hk)
theorem x_callB (hf : Fit w0 p0) {fo : Operand} {xs : List Operand} {ts : Array TypeId} {f : Nat} {cap args : List AV} {R : AV → Prop} (hd : lt d n = true) (hfo : ev sl fo = some (.fn f cap)) (hargs : (xs.map (St.ev ⟨n, sl, m⟩) ++ cap).map (AV.conv m) = args)
    (hent : ∀ args w, (callFunc f args).run P w = .ok (.enter f args) w) (hden : Den P f args R) (hfl : ∀ r, R r → r.flat = true) (hk : ∀ r, R r → AOps P w0 p0 ops rest ⟨n, (d, r) :: sl, m⟩ Q) :
    AOps P w0 p0 ops (⟨some d, .call { callee := .value fo, args := xs.toArray, argTypes := ts }, ty, ps, af, none⟩ :: rest) ⟨n, sl, m⟩ Q :=
  aops_cons rfl (aop_callB hf rfl hent (dst_of hd) (ev_eq hfo) (hargs ▸ hden) hfl hk)
end

theorem aops_le {ops : Array Oper} {rest : List Oper} {σ σ' : St} {Q : Exit → St → Prop} (hl : Le σ σ') (h : AOps P w0 p0 ops rest σ' Q) : AOps P w0 p0 ops rest σ Q := fun a w hr => h a w (hl _ _ _ _ hr)

theorem aw_seq_k {x y : Code} {σ : St} {Q : Exit → St → Prop} (h : ∀ K : St → Prop, (∀ σ', AW P w0 p0 y σ' Q → K σ') → AW P w0 p0 x σ (thenQ K Q)) : AW P w0 p0 (.seq x y) σ Q :=
  aw_seq (h _ fun _ h => h)
theorem aw_cond_t {x y : Code} {c : Operand} {n : Nat} {sl : List (Nat × AV)} {m : Mem} {Q : Exit → St → Prop} (hc : ev sl c = some (.s (.bool true))) (h : AW P w0 p0 x ⟨n, sl, m⟩ Q) : AW P w0 p0 (.cond c x y) ⟨n, sl, m⟩ Q :=
  aw_cond (ev_eq hc) (fun _ => h) (fun h => by cases h)
theorem aw_cond_f {x y : Code} {c : Operand} {n : Nat} {sl : List (Nat × AV)} {m : Mem} {Q : Exit → St → Prop} (hc : ev sl c = some (.s (.bool false))) (h : AW P w0 p0 y ⟨n, sl, m⟩ Q) : AW P w0 p0 (.cond c x y) ⟨n, sl, m⟩ Q :=
  aw_cond (ev_eq hc) (fun h => by cases h) (fun _ => h)
theorem aw_cond_s {x y : Code} {c : Operand} {n : Nat} {sl : List (Nat × AV)} {m : Mem} {Q : Exit → St → Prop} {t : Bool} (hc : ev sl c = some (.s (.bool t))) (h1 : t = true → AW P w0 p0 x ⟨n, sl, m⟩ Q) (h2 : t = false → AW P w0 p0 y ⟨n, sl, m⟩ Q) : AW P w0 p0 (.cond c x y) ⟨n, sl, m⟩ Q :=
  aw_cond (ev_eq hc) h1 h2
theorem aops_end {ops : Array Oper} {σ : St} {K : St → Prop} {Q : Exit → St → Prop} (h : K σ) : AOps P w0 p0 ops [] σ (thenQ K Q) := aops_nil h

end Go.Abs
set_option linter.unusedVariables false
set_option linter.unusedSimpArgs false
namespace Go.Abs
open Go Go.RowKit
variable {P : Program} {w0 : World} {p0 : Hp}

/-- Some operands' values. -/
def evs (sl : List (Nat × AV)) (cap : List AV) : List Operand → Option (List AV)
  | [] => some cap
  | x :: r => match ev sl x with
    | some a => match evs sl cap r with | some l => some (a :: l) | none => none
    | none => none
theorem evs_eq {n : Nat} {sl : List (Nat × AV)} {m : Mem} {cap : List AV} : ∀ {xs : List Operand} {args : List AV}, evs sl cap xs = some args → xs.map (St.ev ⟨n, sl, m⟩) ++ cap = args
  | [], args, h => by simpa [evs] using h
  | x :: r, args, h => by
    simp only [evs] at h
    split at h
    · rename_i a ha
      split at h
      · rename_i l hl
        cases h
        simp only [List.map_cons, List.cons_append, ev_eq ha, evs_eq hl]
      · cases h
    · cases h
/-- .. with their numbers. -/
def evp (sl : List (Nat × AV)) : List (Nat × Operand) → Option (List (Nat × AV))
  | [] => some []
  | (i, x) :: r => match ev sl x with
    | some a => match evp sl r with | some l => some ((i, a) :: l) | none => none
    | none => none
theorem evp_eq {n : Nat} {sl : List (Nat × AV)} {m : Mem} : ∀ {xs : List (Nat × Operand)} {l : List (Nat × AV)}, evp sl xs = some l → xs.map (fun x => (x.1, St.ev ⟨n, sl, m⟩ x.2)) = l
  | [], l, h => by simpa [evp] using h
  | (i, x) :: r, args, h => by
    simp only [evp] at h
    split at h
    · rename_i a ha
      split at h
      · rename_i l hl
        cases h
        simp only [List.map_cons, ev_eq ha, evp_eq hl]
      · cases h
    · cases h

section
variable {ops : Array Oper} {rest : List Oper} {n d ty : Nat} {ps : String} {af : Array Edge} {sl : List (Nat × AV)} {m : Mem} {Q : Exit → St → Prop}
/-- A call. -/
theorem y_call (hf : Fit w0 p0) {fo : Operand} {xs : List Operand} {ts : Array TypeId} {f : Nat} {cap args : List AV} {R : AV → Prop} (hd : lt d n = true) (hfo : ev sl fo = some (.fn f cap)) (hargs : evs sl cap xs = some args)
    (hent : ∀ args w, (callFunc f args).run P w = .ok (.enter f args) w) (hcl : cleanL (fun _ => false) args = true) (hden : Den P f args R) (hk : ∀ r, R r → AOps P w0 p0 ops rest ⟨n, (d, r) :: sl, m⟩ Q) :
    AOps P w0 p0 ops (⟨some d, .call { callee := .value fo, args := xs.toArray, argTypes := ts }, ty, ps, af, none⟩ :: rest) ⟨n, sl, m⟩ Q :=
  x_callA hf hd hfo (evs_eq hargs) hent hcl hden hk
/-- A call that is told what this call's own blocks hold. -/
theorem y_callB (hf : Fit w0 p0) {fo : Operand} {xs : List Operand} {ts : Array TypeId} {f : Nat} {cap args args' : List AV} {R : AV → Prop} (hd : lt d n = true) (hfo : ev sl fo = some (.fn f cap)) (hargs : evs sl cap xs = some args)
    (hconv : convL m args = args')
    (hent : ∀ args w, (callFunc f args).run P w = .ok (.enter f args) w) (hden : Den P f args' R) (hfl : ∀ r, R r → r.flat = true) (hk : ∀ r, R r → AOps P w0 p0 ops rest ⟨n, (d, r) :: sl, m⟩ Q) :
    AOps P w0 p0 ops (⟨some d, .call { callee := .value fo, args := xs.toArray, argTypes := ts }, ty, ps, af, none⟩ :: rest) ⟨n, sl, m⟩ Q :=
  x_callB hf hd hfo (by rw [evs_eq hargs, ← convL_eq]; exact hconv) hent hden hfl hk
theorem y_guard_s {op : Op} {j g : Nat} {b t : Bool} (hg : (ops[j]?).bind (·.dst) = some g) (hb : lk sl g = some (.s (.bool t))) (hd : lt d n = true)
    (h1 : t = b → AOps P w0 p0 ops (⟨some d, op, ty, ps, af, none⟩ :: rest) ⟨n, (g, .s (.bool b)) :: sl, m⟩ Q) (h2 : t = (!b) → AOps P w0 p0 ops rest ⟨n, (d, .s undef) :: (g, .s (.bool !b)) :: sl, m⟩ Q) :
    AOps P w0 p0 ops (⟨some d, op, ty, ps, af, some (j, b)⟩ :: rest) ⟨n, sl, m⟩ Q := by
  have hle : ∀ {c : Bool}, t = c → Le ⟨n, sl, m⟩ ⟨n, (g, .s (.bool c)) :: sl, m⟩ := by
    intro c hc w0 p0 a w ⟨e1, e2, p, hE, hs, hm⟩
    refine ⟨e1, e2, p, hE, fun x y hy => ?_, hm⟩
    simp only [look] at hy
    split at hy
    · rename_i e; subst e; cases hy; exact hs g _ (by rw [← lk_eq, hb, hc])
    · exact hs x y hy
  rcases (by cases t <;> cases b <;> simp : t = b ∨ t = !b) with h | h
  · exact aops_le (hle h) (x_guard_t hg (by simp only [lk, Nat.beq_refl]) hd (h1 h))
  · exact aops_le (hle h) (x_guard_f hg (by simp only [lk, Nat.beq_refl]) hd (h2 h))
theorem y_build {t : Nat} {parts : List (Nat × Operand)} {zs : List Value} {pl : List (Nat × Nat)} {ps' : List (Nat × AV)} {cs : List AV} (hd : lt d n = true) (hps : evp sl parts = some ps') (hz : zeros? P t = some zs) (hp : places? P t = some pl)
    (h1 : ∀ x ∈ ps', ∀ c ∈ x.2.cells, c.one = true) (hc : afill (fun i => pl[i]?) (zs.map .s) ps' = some cs) (hk : AOps P w0 p0 ops rest ⟨n, (d, .agg cs) :: sl, m⟩ Q) : AOps P w0 p0 ops (⟨some d, .build t parts.toArray, ty, ps, af, none⟩ :: rest) ⟨n, sl, m⟩ Q :=
  x_build hd hz hp (evp_eq hps) h1 hc hk
theorem y_buildSlice (hf : Fit w0 p0) {t e k by_ len : Nat} {parts : List (Nat × Operand)} {ps' : List (Nat × AV)} {xs : List (List AV)} (hd : lt d n = true) (hE : lt d E0 = true) (hl : lk m d = none) (ht : appT? P t = some (e, k, by_)) (hps : evp sl parts = some ps') (hidx : ps'.map (·.1) = List.range len) (hbig : Nat.ble (len * k) 16777216 = true)
    (hxs : (ps'.map fun x => x.2.cells) = xs) (hx : ∀ x ∈ xs, x.length = k ∧ ∀ c ∈ x, c.leaf = true) (hk : AOps P w0 p0 ops rest ⟨n, (d, .own d k 0 len) :: sl, (d, .buf k xs) :: m⟩ Q) :
    AOps P w0 p0 ops (⟨some d, .buildSlice t len parts.toArray, ty, ps, af, none⟩ :: rest) ⟨n, sl, m⟩ Q :=
  x_buildSlice hf hd hE hl ht (by have := evp_eq (n := n) (m := m) hps; rw [← this] at hidx; simpa [List.map_map, Function.comp_def] using hidx) hbig (by have := evp_eq (n := n) (m := m) hps; rw [← this] at hxs; simpa [List.map_map, Function.comp_def] using hxs) hx hk
theorem y_makeFunc {f : Nat} {l : List Operand} {cs : List AV} (hd : lt d n = true) (hl : evs sl [] l = some cs) (hk : AOps P w0 p0 ops rest ⟨n, (d, .fn f cs) :: sl, m⟩ Q) : AOps P w0 p0 ops (⟨some d, .makeFunc (.func f) #[] l.toArray, ty, ps, af, none⟩ :: rest) ⟨n, sl, m⟩ Q :=
  x_makeFunc hd (by have := evs_eq (n := n) (m := m) hl; simpa using this) hk
theorem y_slice_sl {x : Operand} {lo hi : Option Operand} {t e k l h : Nat} {xs ys : List (List AV)} (hd : lt d n = true) (hx : ev sl x = some (.sl k xs)) (ht : elem? P t = some e) (hc : cells? P e = some k)
    (hl : bnd ⟨n, sl, m⟩ 0 lo = some l) (hh : bnd ⟨n, sl, m⟩ xs.length hi = some h) (h1 : l ≤ h) (h2 : h ≤ xs.length) (he : (xs.take h).drop l = ys) (hk : AOps P w0 p0 ops rest ⟨n, (d, .sl k ys) :: sl, m⟩ Q) :
    AOps P w0 p0 ops (⟨some d, .slice t x lo hi none, ty, ps, af, none⟩ :: rest) ⟨n, sl, m⟩ Q :=
  x_pure hd (he ▸ pure_slice_sl rfl ht hc (ev_eq hx) hl hh h1 h2) hk
theorem y_slice_own {x : Operand} {lo hi : Option Operand} {t e g k off c l h : Nat} (hd : lt d n = true) (hx : ev sl x = some (.own g k off c)) (ht : elem? P t = some e) (hc : cells? P e = some k)
    (hl : bnd ⟨n, sl, m⟩ 0 lo = some l) (hh : bnd ⟨n, sl, m⟩ c hi = some h) (h1 : l ≤ h) (h2 : h ≤ c) (hk : AOps P w0 p0 ops rest ⟨n, (d, .own g k (off + l) (h - l)) :: sl, m⟩ Q) :
    AOps P w0 p0 ops (⟨some d, .slice t x lo hi none, ty, ps, af, none⟩ :: rest) ⟨n, sl, m⟩ Q :=
  x_pure hd (pure_slice_own rfl ht hc (ev_eq hx) hl hh h1 h2) hk
theorem y_slice3_own {x y z : Operand} {lo : Option Operand} {t e g k off c l h mx : Nat} (hd : lt d n = true) (hx : ev sl x = some (.own g k off c)) (ht : elem? P t = some e) (hc : cells? P e = some k)
    (hl : bnd ⟨n, sl, m⟩ 0 lo = some l) (hh : bnd ⟨n, sl, m⟩ c (some y) = some h) (hm : bnd ⟨n, sl, m⟩ c (some z) = some mx) (h1 : l ≤ h) (h2 : h ≤ mx) (h3 : mx ≤ c) (hk : AOps P w0 p0 ops rest ⟨n, (d, .own g k (off + l) (h - l)) :: sl, m⟩ Q) :
    AOps P w0 p0 ops (⟨some d, .slice t x lo (some y) (some z), ty, ps, af, none⟩ :: rest) ⟨n, sl, m⟩ Q :=
  x_pure hd (pure_slice3_own rfl ht hc (ev_eq hx) hl hh hm h1 h2 h3) hk
end

/-- Ways that meet again. -/
theorem aw_join {ι : Type} {x y : Code} {σ : St} {Q : Exit → St → Prop} (I : ι → St) (C : ι → Prop) (hx : AW P w0 p0 x σ (thenQ (fun σ' => ∃ i, C i ∧ Le σ' (I i)) Q)) (hy : ∀ i, C i → AW P w0 p0 y (I i) Q) : AW P w0 p0 (.seq x y) σ Q :=
  aw_seq (hx.mono fun e σ' h => by
    cases e with
    | normal => obtain ⟨i, hc, hle⟩ := h; exact (hy i hc).le hle
    | _ => exact h)

/-- A weaker state, slot by slot. -/
def coversL (l : List (Nat × AV)) : List (Nat × AV) → Prop
  | [] => True
  | (t, a) :: r => lk l t = some a ∧ coversL l r
theorem le_of {n : Nat} {sl sl' : List (Nat × AV)} {m : Mem} (h : coversL sl sl') : Le ⟨n, sl, m⟩ ⟨n, sl', m⟩ :=
  Le.cover rfl rfl (by
    have : ∀ l, coversL sl l → covers (look sl) l := by
      intro l
      induction l with
      | nil => exact fun _ => trivial
      | cons x r ih => exact fun h => ⟨by rw [← lk_eq]; exact h.1, ih h.2⟩
    exact this _ h)
end Go.Abs
set_option linter.unusedVariables false
set_option linter.unusedSimpArgs false
namespace Go.Abs
open Go Go.RowKit
variable {P : Program} {w0 : World} {p0 : Hp}
section
variable {ops : Array Oper} {rest : List Oper} {n d ty : Nat} {ps : String} {af : Array Edge} {gd : Option (Nat × Bool)} {sl : List (Nat × AV)} {m : Mem} {Q : Exit → St → Prop}
theorem p_move {x : Operand} {a : AV}  (hx : ev sl x = some a) : PureOp P ⟨some d, .move x, ty, ps, af, gd⟩ ⟨n, sl, m⟩ a :=
  (ev_eq hx ▸ pure_move rfl)

theorem p_assign {x : Operand} {a : AV}  (hx : ev sl x = some a) : PureOp P ⟨some d, .assign x, ty, ps, af, gd⟩ ⟨n, sl, m⟩ a :=
  (ev_eq hx ▸ pure_assign rfl)

theorem p_assign_bad {x : Operand}   : PureOp P ⟨some d, .assign x, ty, ps, af, gd⟩ ⟨n, sl, m⟩ .bad :=
  (fun act w p hs _ => ⟨act.eval x, by simp [execOp], .bad _⟩)

theorem p_pick_t {c x y : Operand} {a : AV}  (hc : ev sl c = some (.s (.bool true))) (hx : ev sl x = some a) : PureOp P ⟨some d, .pick c x y, ty, ps, af, gd⟩ ⟨n, sl, m⟩ a :=
  (ev_eq hx ▸ pure_pick rfl (ev_eq hc))

theorem p_pick_f {c x y : Operand} {a : AV}  (hc : ev sl c = some (.s (.bool false))) (hx : ev sl y = some a) : PureOp P ⟨some d, .pick c x y, ty, ps, af, gd⟩ ⟨n, sl, m⟩ a :=
  (ev_eq hx ▸ pure_pick rfl (ev_eq hc))

theorem p_bin {op : BinOp} {t yt : TypeId} {x y : Operand} {u v r : Value}  (hx : ev sl x = some (.s u)) (hy : ev sl y = some (.s v)) (h : abin P op t u v = some r) : PureOp P ⟨some d, .binOp op t x y yt, ty, ps, af, gd⟩ ⟨n, sl, m⟩ (.s r) :=
  (pure_bin rfl (ev_eq hx) (ev_eq hy) h)

theorem p_not {t : TypeId} {x : Operand} {b : Bool}  (hx : ev sl x = some (.s (.bool b))) : PureOp P ⟨some d, .unOp .not t x, ty, ps, af, gd⟩ ⟨n, sl, m⟩ (.s (.bool !b)) :=
  (pure_not rfl (ev_eq hx))

theorem p_len_str {t : TypeId} {x : Operand} {s : ByteArray}  (hx : ev sl x = some (.s (.string s))) (ht : P.underlying t = some .string) : PureOp P ⟨some d, .call { callee := .builtin .len, args := #[x], argTypes := #[t] }, ty, ps, af, gd⟩ ⟨n, sl, m⟩ (.s (.int .i64 s.size)) :=
  (pure_len_str rfl ht (ev_eq hx))

theorem p_len_sl {t e k : Nat} {x : Operand} {xs : List (List AV)}  (hx : ev sl x = some (.sl k xs)) (ht : elem? P t = some e) : PureOp P ⟨some d, .call { callee := .builtin .len, args := #[x], argTypes := #[t] }, ty, ps, af, gd⟩ ⟨n, sl, m⟩ (.s (.int .i64 xs.length)) :=
  (pure_len_sl rfl ht (ev_eq hx))

theorem p_len_own {t e g k off c : Nat} {x : Operand}  (hx : ev sl x = some (.own g k off c)) (ht : elem? P t = some e) : PureOp P ⟨some d, .call { callee := .builtin .len, args := #[x], argTypes := #[t] }, ty, ps, af, gd⟩ ⟨n, sl, m⟩ (.s (.int .i64 c)) :=
  (pure_len_own rfl ht (ev_eq hx))

theorem p_min {t1 t2 : TypeId} {x y : Operand} {k k' : IntKind} {a b : Int}  (hx : ev sl x = some (.s (.int k a))) (hy : ev sl y = some (.s (.int k' b))) : PureOp P ⟨some d, .call { callee := .builtin .min, args := #[x, y], argTypes := #[t1, t2] }, ty, ps, af, gd⟩ ⟨n, sl, m⟩ (.s (.int k (min a b))) :=
  (pure_min rfl (ev_eq hx) (ev_eq hy))

theorem p_max {t1 t2 : TypeId} {x y : Operand} {k k' : IntKind} {a b : Int}  (hx : ev sl x = some (.s (.int k a))) (hy : ev sl y = some (.s (.int k' b))) : PureOp P ⟨some d, .call { callee := .builtin .max, args := #[x, y], argTypes := #[t1, t2] }, ty, ps, af, gd⟩ ⟨n, sl, m⟩ (.s (.int k (max a b))) :=
  (pure_max rfl (ev_eq hx) (ev_eq hy))

theorem p_extract {x : Operand} {i : Nat} {vs : List AV} {c : AV}  (hx : ev sl x = some (.tup vs)) (hi : vs[i]? = some c) : PureOp P ⟨some d, .extract x i, ty, ps, af, gd⟩ ⟨n, sl, m⟩ c :=
  (pure_extract rfl (ev_eq hx) hi)

theorem p_idx_sl {x i : Operand} {t e k : Nat} {xs : List (List AV)} {c : List AV} {kd : IntKind} {z : Int}  (hx : ev sl x = some (.sl k xs)) (hi : ev sl i = some (.s (.int kd z))) (ht : elem? P t = some e) (hc : cells? P e = some k)
    (hn : 0 ≤ z ∧ xs[z.toNat]? = some c) : PureOp P ⟨some d, .indexAddr t x i, ty, ps, af, gd⟩ ⟨n, sl, m⟩ (.adr c) :=
  (pure_indexAddr_sl rfl ht hc (ev_eq hx) (ev_eq hi) hn)

theorem p_idx_own {x i : Operand} {t e g k off c : Nat} {kd : IntKind} {z : Int}  (hx : ev sl x = some (.own g k off c)) (hi : ev sl i = some (.s (.int kd z))) (ht : elem? P t = some e) (hc : cells? P e = some k)
    (hn : 0 ≤ z ∧ z < c) : PureOp P ⟨some d, .indexAddr t x i, ty, ps, af, gd⟩ ⟨n, sl, m⟩ (.ref g k (off + z.toNat) 0) :=
  (pure_indexAddr_own rfl ht hc (ev_eq hx) (ev_eq hi) hn)

theorem p_load1 {x : Operand} {t : Nat} {c : AV} {cs : List AV}  (hx : ev sl x = some (.adr cs)) (ht : agg? P t = some false) (hc : cs[0]? = some c) : PureOp P ⟨some d, .load t x, ty, ps, af, gd⟩ ⟨n, sl, m⟩ c :=
  (pure_load_adr rfl ht (ev_eq hx) hc)

theorem p_loads {x : Operand} {t k : Nat} {cs cs' : List AV}  (hx : ev sl x = some (.adr cs)) (ht : agg? P t = some true) (hn : cells? P t = some k) (hc : Nat.ble k cs.length = true) (he : cs.take k = cs') : PureOp P ⟨some d, .load t x, ty, ps, af, gd⟩ ⟨n, sl, m⟩ (.agg cs') :=
  (he ▸ pure_load_adrs rfl ht hn (ev_eq hx) (Nat.le_of_ble_eq_true hc))

theorem p_load1r {x : Operand} {t g k j f : Nat} {c : AV} {mm : AM}  (hx : ev sl x = some (.ref g k j f)) (ht : agg? P t = some false) (hm : lk m g = some mm) (hc : (mm.at k j f)[0]? = some c) : PureOp P ⟨some d, .load t x, ty, ps, af, gd⟩ ⟨n, sl, m⟩ c :=
  (pure_load_ref rfl ht (ev_eq hx) (by rw [← lk_eq]; exact hm) hc)

theorem p_loadsr {x : Operand} {t g k j f c : Nat} {mm : AM} {cs' : List AV}  (hx : ev sl x = some (.ref g k j f)) (ht : agg? P t = some true) (hn : cells? P t = some c) (hm : lk m g = some mm) (hc : Nat.ble c (mm.at k j f).length = true) (he : (mm.at k j f).take c = cs') : PureOp P ⟨some d, .load t x, ty, ps, af, gd⟩ ⟨n, sl, m⟩ (.agg cs') :=
  (he ▸ pure_load_refs rfl ht hn (ev_eq hx) (by rw [← lk_eq]; exact hm) (Nat.le_of_ble_eq_true hc))

theorem p_fld_adr {x : Operand} {t u f off c : Nat} {cs cs' : List AV}  (hx : ev sl x = some (.adr cs)) (ht : field? P t f = some (off, u)) (hu : cells? P u = some (c + 1)) (he : cs.drop off = cs') : PureOp P ⟨some d, .fieldAddr t x f, ty, ps, af, gd⟩ ⟨n, sl, m⟩ (.adr cs') :=
  (he ▸ pure_fieldAddr_adr rfl ht hu (by omega) (ev_eq hx))

theorem p_fld_ref {x : Operand} {t u f off c g k j i i' : Nat}  (hx : ev sl x = some (.ref g k j i)) (ht : field? P t f = some (off, u)) (hu : cells? P u = some (c + 1)) (he : i + off = i') : PureOp P ⟨some d, .fieldAddr t x f, ty, ps, af, gd⟩ ⟨n, sl, m⟩ (.ref g k j i') :=
  (he ▸ pure_fieldAddr_ref rfl ht hu (by omega) (ev_eq hx))

theorem p_fld1 {x : Operand} {t u f off : Nat} {cs : List AV} {c : AV}  (hx : ev sl x = some (.agg cs)) (ht : field? P t f = some (off, u)) (hu : agg? P u = some false) (hc : cs[off]? = some c) : PureOp P ⟨some d, .field t x f, ty, ps, af, gd⟩ ⟨n, sl, m⟩ c :=
  (pure_field1 rfl ht hu (ev_eq hx) hc)

theorem p_flds {x : Operand} {t u f off c : Nat} {cs cs' : List AV}  (hx : ev sl x = some (.agg cs)) (ht : field? P t f = some (off, u)) (hu : agg? P u = some true) (hn : cells? P u = some c) (hc : Nat.ble (off + c) cs.length = true) (he : (cs.drop off).take c = cs') : PureOp P ⟨some d, .field t x f, ty, ps, af, gd⟩ ⟨n, sl, m⟩ (.agg cs') :=
  (he ▸ pure_fields rfl ht hu hn (ev_eq hx) (Nat.le_of_ble_eq_true hc))

theorem p_idx_str {x i : Operand} {t : Nat} {s : ByteArray} {kd : IntKind} {z : Int} {b : UInt8}  (hx : ev sl x = some (.s (.string s))) (hi : ev sl i = some (.s (.int kd z))) (ht : P.underlying t = some .string) (hn : 0 ≤ z ∧ s.data[z.toNat]? = some b) : PureOp P ⟨some d, .index t x i, ty, ps, af, gd⟩ ⟨n, sl, m⟩ (.s (.int .u8 b.toNat)) :=
  (pure_index_str rfl ht (ev_eq hx) (ev_eq hi) hn)

theorem p_slice_sl {x : Operand} {lo hi : Option Operand} {t e k l h : Nat} {xs ys : List (List AV)}  (hx : ev sl x = some (.sl k xs)) (ht : elem? P t = some e) (hc : cells? P e = some k)
    (hl : bnd ⟨n, sl, m⟩ 0 lo = some l) (hh : bnd ⟨n, sl, m⟩ xs.length hi = some h) (h1 : l ≤ h) (h2 : h ≤ xs.length) (he : (xs.take h).drop l = ys) : PureOp P ⟨some d, .slice t x lo hi none, ty, ps, af, gd⟩ ⟨n, sl, m⟩ (.sl k ys) :=
  (he ▸ pure_slice_sl rfl ht hc (ev_eq hx) hl hh h1 h2)

theorem p_slice_own {x : Operand} {lo hi : Option Operand} {t e g k off c l h : Nat}  (hx : ev sl x = some (.own g k off c)) (ht : elem? P t = some e) (hc : cells? P e = some k)
    (hl : bnd ⟨n, sl, m⟩ 0 lo = some l) (hh : bnd ⟨n, sl, m⟩ c hi = some h) (h1 : l ≤ h) (h2 : h ≤ c) : PureOp P ⟨some d, .slice t x lo hi none, ty, ps, af, gd⟩ ⟨n, sl, m⟩ (.own g k (off + l) (h - l)) :=
  (pure_slice_own rfl ht hc (ev_eq hx) hl hh h1 h2)

theorem p_slice3_own {x y z : Operand} {lo : Option Operand} {t e g k off c l h mx : Nat}  (hx : ev sl x = some (.own g k off c)) (ht : elem? P t = some e) (hc : cells? P e = some k)
    (hl : bnd ⟨n, sl, m⟩ 0 lo = some l) (hh : bnd ⟨n, sl, m⟩ c (some y) = some h) (hm : bnd ⟨n, sl, m⟩ c (some z) = some mx) (h1 : l ≤ h) (h2 : h ≤ mx) (h3 : mx ≤ c) : PureOp P ⟨some d, .slice t x lo (some y) (some z), ty, ps, af, gd⟩ ⟨n, sl, m⟩ (.own g k (off + l) (h - l)) :=
  (pure_slice3_own rfl ht hc (ev_eq hx) hl hh hm h1 h2 h3)
theorem p_add {t yt : TypeId} {x y : Operand} {a b : Int} (hx : ev sl x = some (.s (.int .i64 a))) (hy : ev sl y = some (.s (.int .i64 b))) (h1 : -9223372036854775808 ≤ a + b) (h2 : a + b ≤ 9223372036854775807) : PureOp P ⟨some d, .binOp .add t x y yt, ty, ps, af, gd⟩ ⟨n, sl, m⟩ (.s (.int .i64 (a + b))) :=
  p_bin hx hy (by simp [abin, aint, wrap_i64 h1 h2])
theorem p_sub {t yt : TypeId} {x y : Operand} {a b : Int} (hx : ev sl x = some (.s (.int .i64 a))) (hy : ev sl y = some (.s (.int .i64 b))) (h1 : -9223372036854775808 ≤ a - b) (h2 : a - b ≤ 9223372036854775807) : PureOp P ⟨some d, .binOp .sub t x y yt, ty, ps, af, gd⟩ ⟨n, sl, m⟩ (.s (.int .i64 (a - b))) :=
  p_bin hx hy (by simp [abin, aint, wrap_i64 h1 h2])
theorem p_makeFunc {f : Nat} {l : List Operand} {cs : List AV} (hl : evs sl [] l = some cs) : PureOp P ⟨some d, .makeFunc (.func f) #[] l.toArray, ty, ps, af, gd⟩ ⟨n, sl, m⟩ (.fn f cs) := by
  have h := evs_eq (n := n) (m := m) hl
  rw [List.append_nil] at h
  exact h ▸ pure_makeFunc rfl
theorem p_build {t : Nat} {parts : List (Nat × Operand)} {zs : List Value} {pl : List (Nat × Nat)} {ps' : List (Nat × AV)} {cs : List AV} (hps : evp sl parts = some ps') (hz : zeros? P t = some zs) (hp : places? P t = some pl)
    (h1 : ∀ x ∈ ps', ∀ c ∈ x.2.cells, c.one = true) (hc : afill (fun i => pl[i]?) (zs.map .s) ps' = some cs) : PureOp P ⟨some d, .build t parts.toArray, ty, ps, af, gd⟩ ⟨n, sl, m⟩ (.agg cs) := by
  have h := evp_eq (n := n) (m := m) hps
  exact pure_build rfl hz hp (fun x hx => h1 (x.1, St.ev ⟨n, sl, m⟩ x.2) (h ▸ List.mem_map.2 ⟨x, hx, rfl⟩)) (h ▸ hc)

def fsl (sl : List (Nat × AV)) : FS := fun t => (lk sl t).getD .bad
theorem fs_fsl (σ : St) : σ.fs = fsl σ.slots := by funext t; simp [St.fs, fsl, lk_eq]
theorem fput_fsl (sl : List (Nat × AV)) (d : Nat) (av : AV) : fput (fsl sl) (some d) av = fsl ((d, av) :: sl) := by
  funext t
  simp only [fput, fsl, lk]
  by_cases h : t = d
  · subst h; rw [if_pos rfl, Nat.beq_refl]; rfl
  · rw [if_neg h]
    have : Nat.beq d t = false := by
      cases hb : Nat.beq d t with
      | true => exact absurd (Nat.eq_of_beq_eq_true hb).symm h
      | false => rfl
    rw [this]

theorem aw_draw (hf : Fit w0 p0) {id : Nat} {l : List Oper} {K : FS → Prop} (hm : P.follows .mixedOrders = true) (hB : Region.lexB .any l.toArray = true)
    (hK : K = fun s => ∃ σ' : St, σ'.n = n ∧ σ'.mem = m ∧ covers (fun t => some (s t)) σ'.slots ∧ noBad σ'.slots = true ∧ Q .normal σ') (h : lexG P l.toArray n m K l (fsl sl)) : AW P w0 p0 (.region id l.toArray true) ⟨n, sl, m⟩ Q :=
  aw_region_draw hf hm hB (by rw [fs_fsl]; subst hK; exact h)
theorem lex_end {K : FS → Prop} {sl' : List (Nat × AV)} (hK : K = fun s => ∃ σ' : St, σ'.n = n ∧ σ'.mem = m ∧ covers (fun t => some (s t)) σ'.slots ∧ noBad σ'.slots = true ∧ Q .normal σ') (hc : coversL sl sl') (hnb : noBad sl' = true) (h : Q .normal ⟨n, sl', m⟩) : lexG P ops n m K [] (fsl sl) := by
  subst hK
  refine ⟨⟨n, sl', m⟩, rfl, rfl, ?_, hnb, h⟩
  have : ∀ l, coversL sl l → covers (fun t => some (fsl sl t)) l := by
    intro l
    induction l with
    | nil => exact fun _ => trivial
    | cons x r ih => exact fun h => ⟨by simp [fsl, h.1], ih h.2⟩
  exact this _ hc

/-- The slots that an operation looks at. -/
def inL (l : List Nat) (t : Nat) : Bool := match l with | [] => false | x :: r => match Nat.beq x t with | true => true | false => inL r t
theorem inL_mem : ∀ {l : List Nat} {t : Nat}, inL l t = true → t ∈ l
  | [], _, h => by simp [inL] at h
  | x :: r, t, h => by
    simp only [inL] at h
    split at h
    · rename_i hb; rw [Nat.eq_of_beq_eq_true hb]; simp
    · exact List.mem_cons_of_mem _ (inL_mem h)
def looksL (looks : List Nat) (sl : List (Nat × AV)) : List (Nat × AV) → Prop
  | [] => True
  | (t, a) :: r => (inL looks t = true ∧ lk sl t = some a) ∧ looksL looks sl r

theorem d_step {K : FS → Prop} {o : Oper} {av : AV} {d : Nat} (ho : o.dst = some d) (hd : lt d n = true) (hw : wantedS ops o (fsl sl) = some true) (hst : StepOn P ops n m o (fsl sl) av) (hk : lexG P ops n m K rest (fsl ((d, av) :: sl))) : lexG P ops n m K (o :: rest) (fsl sl) :=
  ⟨av, ⟨by rw [ho]; exact dst_of hd, .inl ⟨hw, hst⟩⟩, by rw [ho, fput_fsl]; exact hk⟩
theorem d_pure {K : FS → Prop} {op : Op} {av : AV} {gd : Option (Nat × Bool)} (L : List (Nat × AV)) (hd : lt d n = true) (hw : wantedS ops ⟨some d, op, ty, ps, af, gd⟩ (fsl sl) = some true) (hL : looksL (Oper.looksAt ops ⟨some d, op, ty, ps, af, gd⟩) sl L) (hnb : noBad L = true)
    (h : PureOp P ⟨some d, op, ty, ps, af, gd⟩ ⟨n, L, m⟩ av) (hk : lexG P ops n m K rest (fsl ((d, av) :: sl))) : lexG P ops n m K (⟨some d, op, ty, ps, af, gd⟩ :: rest) (fsl sl) := by
  refine d_step rfl hd hw (step_pure L ?_ hnb h) hk
  have : ∀ l, looksL (Oper.looksAt ops ⟨some d, op, ty, ps, af, gd⟩) sl l → covers (fun t => if t ∈ Oper.looksAt ops ⟨some d, op, ty, ps, af, gd⟩ then some (fsl sl t) else none) l := by
    intro l
    induction l with
    | nil => exact fun _ => trivial
    | cons x r ih => exact fun h => ⟨by simp only; rw [if_pos (inL_mem h.1.1)]; simp [fsl, h.1.2], ih h.2⟩
  exact this _ hL
theorem d_skip {K : FS → Prop} {op : Op} {gd : Option (Nat × Bool)} (hd : lt d n = true) (hw : wantedS ops ⟨some d, op, ty, ps, af, gd⟩ (fsl sl) = some false) (hk : lexG P ops n m K rest (fsl ((d, .s undef) :: sl))) : lexG P ops n m K (⟨some d, op, ty, ps, af, gd⟩ :: rest) (fsl sl) :=
  ⟨.s undef, ⟨dst_of hd, .inr ⟨hw, rfl⟩⟩, by rw [fput_fsl]; exact hk⟩
theorem d_split {K : FS → Prop} {l : List Oper} (g : Nat) {t : Bool} (b : Bool) (hg : lk sl g = some (.s (.bool t))) (h1 : t = b → lexG P ops n m K l (fsl ((g, .s (.bool b)) :: sl))) (h2 : t = (!b) → lexG P ops n m K l (fsl ((g, .s (.bool !b)) :: sl))) : lexG P ops n m K l (fsl sl) := by
  have hsame : ∀ c, t = c → fsl ((g, .s (.bool c)) :: sl) = fsl sl := by
    rintro c rfl
    funext x
    simp only [fsl, lk]
    cases hb : Nat.beq g x with
    | true => rw [← Nat.eq_of_beq_eq_true hb, hg]
    | false => rfl
  rcases (by cases t <;> cases b <;> simp : t = b ∨ t = !b) with h | h
  · rw [← hsame b h]; exact h1 h
  · rw [← hsame (!b) h]; exact h2 h
end

theorem str_at {s : ByteArray} {k : Nat} (h : k < s.size) : s.data[((k : Nat) : Int).toNat]? = some s[k] := by
  rw [Int.toNat_natCast]; exact Array.getElem?_eq_getElem h
theorem list_at {α : Type} {s : List α} {k : Nat} (h : k < s.length) : s[((k : Nat) : Int).toNat]? = some s[k] := by
  rw [Int.toNat_natCast]; exact List.getElem?_eq_getElem h
theorem ret_int {k : IntKind} {a b : Int} (h : a = b) : AV.s (.int k a) = .s (.int k b) := by rw [h]
theorem ret_bool {a b : Bool} (h : a = b) : AV.s (.bool a) = .s (.bool b) := by rw [h]
end Go.Abs
set_option linter.unusedVariables false
set_option linter.unusedSimpArgs false
namespace Go.Abs
open Go Go.RowKit
variable {P : Program} {w0 : World} {p0 : Hp}

/-- The operation leaves this value, and at most lays new blocks that nobody writes into. -/
def RStep (P : Program) (o : Oper) (σ : St) (av : AV) : Prop :=
  ∀ (act : Act) (w : World) (p : Hp), SlotsRel w p σ.slots act.tmps → MemRel w p σ.mem → (∀ b, p.A b → b < w.heap.size) →
    ∀ (next : Act → World → Prop) (Q : Exit → Act → World → Prop), (∀ v w', Grow w w' → RelV w' p av v → next (act.put o.dst v) w') → o.wp P act w next Q

theorem RStep.of_pure {o : Oper} {σ : St} {av : AV} (h : PureOp P o σ av) : RStep P o σ av := by
  intro act w p hs hm hA next Q hn
  obtain ⟨v, hv, hr⟩ := h act w p hs hm
  unfold Oper.wp
  rw [hv]
  exact hn v w (Grow.refl w) hr

theorem Grow.alloc (w : World) (o : Obj) : Grow w (w.alloc o) := ⟨rfl, ⟨rfl, Nat.le_refl _⟩, rfl, by simp, fun b hb => Below.heap_alloc _ _ _ hb⟩
theorem stable_new {w : World} {p : Hp} {mem : Mem} (hm : MemRel w p mem) (hA : ∀ b, p.A b → b < w.heap.size) (o : Obj) : Stable (w.alloc o) p w.heap.size :=
  ⟨by simp, (fun g hg => absurd (hm.lt hg) (Nat.lt_irrefl _)), fun h => absurd (hA _ h) (Nat.lt_irrefl _)⟩

/-- A variable that is never written again. -/
theorem rstep_box {o : Oper} {σ : St} {elem : TypeId} {x : Operand} {av : AV} (ho : o.op = .box elem x) (hx : σ.ev x = av) (h1 : ∀ c ∈ av.cells, c.leaf = true) : RStep P o σ (.adr av.cells) := by
  subst hx
  intro a w p hs hm hA next Q hn
  have hrun : (execOp a.eval o).run P w = .ok (.value (.pointer (some ⟨w.heap.size, 0, none⟩))) (w.alloc (.cells (a.eval x).cells elem)) := by
    simp [execOp, ho, Instr.box, newVar, newRow]
  unfold Oper.wp
  rw [hrun]
  have hg := Grow.alloc w (.cells (a.eval x).cells elem)
  have hk := hg.keeps hm
  refine hn _ _ hg ?_
  obtain ⟨hl, hc⟩ := ((ev_rel hs x).keep hk).cells (fun c hc => AV.one_of_leaf (h1 c hc))
  refine .adr _ w.heap.size 0 (fun i => ((a.eval x).cells[i]?).getD undef) (stable_new hm hA _) h1 (fun i c hi => ?_) (fun i c hi => ?_)
  · obtain ⟨u, hu, hr⟩ := hc i c hi
    rw [Nat.zero_add, cell_of_heap (heap_alloc_new w _), hu]; rfl
  · obtain ⟨u, hu, hr⟩ := hc i c hi
    rw [hu]; exact hr

/-- A slice literal that is never written again. -/
theorem rstep_buildSlice {o : Oper} {σ : St} {t e k by_ len : Nat} {parts : List (Nat × Operand)} {xs : List (List AV)} (ho : o.op = .buildSlice t len parts.toArray)
    (ht : appT? P t = some (e, k, by_)) (hidx : parts.map (·.1) = List.range len) (hbig : len * k ≤ 2 ^ 24)
    (hxs : (parts.map fun x => (σ.ev x.2).cells) = xs) (hx : ∀ x ∈ xs, x.length = k ∧ ∀ c ∈ x, c.leaf = true) : RStep P o σ (.sl k xs) := by
  intro a w p hs hm hA next Q hn
  obtain ⟨he, hk, hk0, i, z, hi, hz, _, _, hzc⟩ := appT?_inv ht
  have hz1 : (zeroValue e).run P w = .ok z w := by simp [zeroValue, typeInfo, hi, hz]
  have hlen : parts.length = len := by have := congrArg List.length hidx; simpa using this
  let z0 : Array Value := if len * k = 0 then #[] else z.cells
  let init : Array Value := (Array.range (len * k)).map (fun i => z0[i % z0.size]!)
  have hinit : init.size = len * k := by simp [init]
  have hxs' : ∀ x ∈ (parts.map fun x => (x.1, σ.ev x.2)), x.2.cells.length = k := by
    intro x hx'
    simp only [List.mem_map] at hx'
    obtain ⟨y, hy, rfl⟩ := hx'
    exact (hx _ (hxs ▸ List.mem_map.2 ⟨y, hy, rfl⟩)).1
  have hfill : ∃ cells', Instr.fill (fun i => some (i * k, k)) init (parts.map fun x => (x.1, a.eval x.2)) = some cells' ∧ RelL w p xs.flatten cells'.toList := by
    refine fill_rel hs _ parts (init.toList.map .s) _ init ⟨by simp, fun i c v hc hv => ?_⟩ (fun x hx' c hc => AV.one_of_leaf ((hx _ (hxs ▸ List.mem_map.2 ⟨x, hx', rfl⟩)).2 c hc)) ?_
    · simp only [List.getElem?_map, hv, Option.map_some, Option.some.injEq] at hc
      subst hc; exact .s v
    · have := afill_all (k := k) (parts.map fun x => (x.1, σ.ev x.2)) 0 (init.toList.map .s) (by simpa [List.map_map, Function.comp_def, hlen, List.range_eq_range'] using hidx) hxs' (by simp [hlen, hinit])
      rw [this]
      simp only [Nat.zero_mul, List.take_zero, List.nil_append, Nat.zero_add, List.length_map, hlen]
      rw [List.drop_eq_nil_of_le (by simp [hinit]), List.append_nil, ← hxs, List.map_map]
      rfl
  have hsz : xs.length = len := by rw [← hxs]; simpa using hlen
  have hall : ∀ x ∈ xs, x.length = k := fun x h => (hx x h).1
  obtain ⟨cells', hc1, hc2⟩ := hfill
  have hrun : (execOp a.eval o).run P w = .ok (.value (.slice (some ⟨w.heap.size, 0, none⟩) len len)) (w.alloc (.cells cells' e)) := by
    simp only [execOp, ho, Instr.buildSlice]
    by_cases h0 : len * k = 0
    · simp [Sem.run_bind, run_underlying (elem?_inv he), run_size hk, h0, newRow]
      have : init = #[] := by apply Array.eq_empty_of_size_eq_zero; rw [hinit, h0]
      rw [this] at hc1
      rw [show Array.map (fun _ => (default : Value)) (Array.range 0) = #[] from (by apply Array.eq_empty_of_size_eq_zero; simp), hc1]; simp
    · have hng : ¬ (16777216 < len * k) := by omega
      simp [Sem.run_bind, run_underlying (elem?_inv he), run_size hk, h0, hz1, hng, newRow]
      have : init = Array.map (fun i => z.cells[i % z.cells.size]!) (Array.range (len * k)) := by simp [init, z0, h0]
      rw [this] at hc1
      rw [hc1]; simp
  unfold Oper.wp
  rw [hrun]
  have hg := Grow.alloc w (.cells cells' e)
  have hkp := hg.keeps hm
  refine hn _ _ hg ?_
  have hcs : cells'.size = len * k := by have := hc2.1; rw [flatten_length hall, hsz] at this; simpa using this.symm
  have hmax : len ≤ maxLen := by
    have : len ≤ len * k := Nat.le_mul_of_pos_right _ hk0
    unfold maxLen; omega
  have key := RelV.slc (w := w.alloc (.cells cells' e)) (p := p) k xs w.heap.size 0 len (fun j i => (cells'[j * k + i]?).getD undef) (stable_new hm hA _) (by omega) hmax hx
    (fun j x i c hj hi => by
      have hfl := flatten_get hall hj hi
      have hlt : j * k + i < cells'.size := by
        have := (List.getElem?_eq_some_iff.1 hfl).1
        rw [hc2.1] at this; simpa using this
      rw [Nat.zero_add, cell_of_heap (heap_alloc_new w _)]
      simp [hlt])
    (fun j x i c hj hi => by
      have hfl := flatten_get hall hj hi
      have hlt : j * k + i < cells'.size := by
        have := (List.getElem?_eq_some_iff.1 hfl).1
        rw [hc2.1] at this; simpa using this
      have := (hc2.2 _ c cells'[j * k + i] hfl (by simp [hlt])).keep hkp
      simpa [hlt] using this)
  rwa [hsz] at key

theorem rstep_callA {o : Oper} {σ : St} {fo : Operand} {xs : List Operand} {ts : Array TypeId} {f : Nat} {cap : List AV} {r : AV} (ho : o.op = .call { callee := .value fo, args := xs.toArray, argTypes := ts })
    (hent : ∀ args w, (callFunc f args).run P w = .ok (.enter f args) w) (hfo : σ.ev fo = .fn f cap) (hcl : ∀ a ∈ xs.map σ.ev ++ cap, a.clean (fun _ => false) = true)
    (hden : Den P f (xs.map σ.ev ++ cap) (· = r)) : RStep P o σ r := by
  intro a w p hs hm hA0 next Q' hn
  obtain ⟨vals, hrun, hrel⟩ := call_run (P := P) ho hent hs hfo
  unfold Oper.wp
  rw [hrun]
  simp only [Oper.upon]
  have hA : ∀ b, p.all b → b < w.heap.size := fun b hb => by
    rcases hb with hb | ⟨g, hg⟩
    · exact hA0 b hb
    · exact hm.lt hg
  refine (hden p.all w vals hA ⟨hrel.1, fun i c v hc hv => (hrel.2 i c v hc hv).move (ok := fun _ => false) (fun b hb => ⟨⟨hb.1, (fun _ h => by cases h), ?_⟩, rfl⟩) (fun _ _ h => by cases h) (hcl c (List.mem_of_getElem? hc))⟩).mono ?_
  · rintro (h | ⟨g, hg⟩)
    · exact hb.2.2 h
    · exact hb.2.1 g hg
  · rintro e w' ⟨v, r', rfl, rfl, hE', hr⟩
    refine hn _ _ ⟨hE'.os, hE'.tape, hE'.output, hE'.size, fun b hb => ?_⟩ ?_
    · by_cases hA' : p.all b
      · exact hE'.others b hb hA'
      · exact (hE'.stab b ⟨hb, (fun g h => by cases h), hA'⟩).2
    · exact hr.move (p := none0 p.all) (q := p) (ok := fun _ => true) (fun b (hb : Stable w' (none0 p.all) b) => ⟨⟨hb.1, fun g hg => hb.2.2 (Or.inr ⟨g, hg⟩ : p.all b), fun h => hb.2.2 (Or.inl h : p.all b)⟩, rfl⟩) (fun _ _ _ h => by cases h) (AV.clean_true _)

theorem rstep_callB {o : Oper} {σ : St} {fo : Operand} {xs : List Operand} {ts : Array TypeId} {f : Nat} {cap : List AV} {r : AV} (ho : o.op = .call { callee := .value fo, args := xs.toArray, argTypes := ts })
    (hent : ∀ args w, (callFunc f args).run P w = .ok (.enter f args) w) (hfo : σ.ev fo = .fn f cap)
    (hden : Den P f ((xs.map σ.ev ++ cap).map (AV.conv σ.mem)) (· = r)) (hfl : r.flat = true) : RStep P o σ r := by
  intro a w p hs hm hA next Q' hn
  obtain ⟨vals, hrun, hrel⟩ := call_run (P := P) ho hent hs hfo
  unfold Oper.wp
  rw [hrun]
  simp only [Oper.upon]
  refine (hden p.A w vals hA ⟨by simpa using hrel.1, fun i c v hc hv => ?_⟩).mono ?_
  · rw [List.getElem?_map] at hc
    cases hi : (xs.map σ.ev ++ cap)[i]? with
    | none => simp [hi] at hc
    | some c' => simp [hi] at hc; subst hc; exact (hrel.2 i c' v hi hv).conv hm
  · rintro e w' ⟨v, r', rfl, rfl, hE', hr⟩
    refine hn _ _ ⟨hE'.os, hE'.tape, hE'.output, hE'.size, fun b hb => ?_⟩ (hr.flat _ _ hfl)
    by_cases hA' : p.A b
    · exact hE'.others b hb hA'
    · exact (hE'.stab b ⟨hb, (fun g h => by cases h), hA'⟩).2

section
variable {ops : Array Oper} {rest : List Oper} {n d ty : Nat} {ps : String} {af : Array Edge} {gd : Option (Nat × Bool)} {sl : List (Nat × AV)} {m : Mem} {Q : Exit → St → Prop}

theorem r_box {t : Nat} {x : Operand} {av : AV} {cs : List AV} (hx : ev sl x = some av) (hc : av.cells = cs) (h1 : ∀ c ∈ cs, c.leaf = true) : RStep P ⟨some d, .box t x, ty, ps, af, gd⟩ ⟨n, sl, m⟩ (.adr cs) :=
  hc ▸ rstep_box rfl (ev_eq hx) (hc ▸ h1)
theorem r_buildSlice {t e k by_ len : Nat} {parts : List (Nat × Operand)} {ps' : List (Nat × AV)} {xs : List (List AV)} (ht : appT? P t = some (e, k, by_)) (hps : evp sl parts = some ps') (hidx : ps'.map (·.1) = List.range len) (hbig : Nat.ble (len * k) 16777216 = true)
    (hxs : (ps'.map fun x => x.2.cells) = xs) (hx : ∀ x ∈ xs, x.length = k ∧ ∀ c ∈ x, c.leaf = true) : RStep P ⟨some d, .buildSlice t len parts.toArray, ty, ps, af, gd⟩ ⟨n, sl, m⟩ (.sl k xs) := by
  have h := evp_eq (n := n) (m := m) hps
  refine rstep_buildSlice rfl ht ?_ (Nat.le_of_ble_eq_true hbig) ?_ hx
  · rw [← h] at hidx; simpa [List.map_map, Function.comp_def] using hidx
  · rw [← h] at hxs; simpa [List.map_map, Function.comp_def] using hxs
theorem r_call {fo : Operand} {xs : List Operand} {ts : Array TypeId} {f : Nat} {cap args : List AV} {r : AV} (hfo : ev sl fo = some (.fn f cap)) (hargs : evs sl cap xs = some args)
    (hent : ∀ args w, (callFunc f args).run P w = .ok (.enter f args) w) (hcl : cleanL (fun _ => false) args = true) (hden : Den P f args (· = r)) : RStep P ⟨some d, .call { callee := .value fo, args := xs.toArray, argTypes := ts }, ty, ps, af, gd⟩ ⟨n, sl, m⟩ r := by
  have h := evs_eq (n := n) (m := m) hargs
  exact rstep_callA rfl hent (ev_eq hfo) (fun a ha => cleanL_mem (h ▸ hcl) a ha) (h ▸ hden)
theorem r_callB {fo : Operand} {xs : List Operand} {ts : Array TypeId} {f : Nat} {cap args args' : List AV} {r : AV} (hfo : ev sl fo = some (.fn f cap)) (hargs : evs sl cap xs = some args) (hconv : convL m args = args')
    (hent : ∀ args w, (callFunc f args).run P w = .ok (.enter f args) w) (hden : Den P f args' (· = r)) (hfl : r.flat = true) : RStep P ⟨some d, .call { callee := .value fo, args := xs.toArray, argTypes := ts }, ty, ps, af, gd⟩ ⟨n, sl, m⟩ r := by
  have h := evs_eq (n := n) (m := m) hargs
  exact rstep_callB rfl hent (ev_eq hfo) (by rw [h, ← convL_eq, hconv]; exact hden) hfl

theorem x_step {op : Op} {av : AV} (hf : Fit w0 p0) (hd : lt d n = true) (h : RStep P ⟨some d, op, ty, ps, af, none⟩ ⟨n, sl, m⟩ av) (hk : AOps P w0 p0 ops rest ⟨n, (d, av) :: sl, m⟩ Q) :
    AOps P w0 p0 ops (⟨some d, op, ty, ps, af, none⟩ :: rest) ⟨n, sl, m⟩ Q := by
  refine aops_cons rfl ?_
  intro a w next Q' ⟨h1, h2, p, hE, hs, hm⟩ hn
  refine h a w p hs hm (fun b hb => Nat.lt_of_lt_of_le (hf.others b (hE.A ▸ hb)) hE.size) _ _ fun v w' hg hv => ?_
  refine hn _ _ _ hk ?_
  have hkp := hg.keeps hm
  exact ⟨h1, by simpa [Act.put] using h2, p, hE.step hkp hg.os hg.tape hg.output hg.size rfl (fun b hb _ => hg.heap b hb) (fun g h1 h2 => absurd h1 h2), (hs.keep hkp).put (by rw [h2]; exact lt_of hd) hv,
    ⟨hm.dom, fun g m hl => (hm.holds g m hl).keep hkp fun b hb => hg.heap b (hm.lt hb), hm.inj, hm.avoid⟩⟩

theorem d_rstep {K : FS → Prop} {op : Op} {av : AV} {gd : Option (Nat × Bool)} (L : List (Nat × AV)) (hd : lt d n = true) (hw : wantedS ops ⟨some d, op, ty, ps, af, gd⟩ (fsl sl) = some true) (hL : looksL (Oper.looksAt ops ⟨some d, op, ty, ps, af, gd⟩) sl L) (hnb : noBad L = true)
    (h : RStep P ⟨some d, op, ty, ps, af, gd⟩ ⟨n, L, m⟩ av) (hk : lexG P ops n m K rest (fsl ((d, av) :: sl))) : lexG P ops n m K (⟨some d, op, ty, ps, af, gd⟩ :: rest) (fsl sl) := by
  refine d_step rfl hd hw (fun act w p hn hs hm hA next Q hnx => h act w p (fun t b hb => ?_) hm hA next Q hnx) hk
  have hcov : ∀ l, looksL (Oper.looksAt ops ⟨some d, op, ty, ps, af, gd⟩) sl l → covers (fun t => if t ∈ Oper.looksAt ops ⟨some d, op, ty, ps, af, gd⟩ then some (fsl sl t) else none) l := by
    intro l
    induction l with
    | nil => exact fun _ => trivial
    | cons x r ih => exact fun h => ⟨by simp only; rw [if_pos (inL_mem h.1.1)]; simp [fsl, h.1.2], ih h.2⟩
  have h1 := covers_look (hcov _ hL) t b hb
  split at h1
  · rename_i hmem
    cases h1
    rcases hs t hmem with h2 | h2
    · rw [h2] at hb; exact absurd hb (noBad_look hnb t)
    · exact h2
  · cases h1
end
end Go.Abs
