import Derived.Test.YtpicjibfbghonaaA24
set_option linter.unusedVariables false
set_option linter.unusedSimpArgs false
namespace Go.Abs
open Go Go.RowKit
variable {P : Program} {w0 : World} {p0 : Hp}

/-- An operation whose guard hangs on one that did not run. -/
theorem aops_guard_u {ops : Array Oper} {o : Oper} {rest : List Oper} {σ : St} {Q : Exit → St → Prop} {j : Nat} {b : Bool} {d : Nat} (hg : o.guard = some (j, b))
    (hj : (ops[j]?).bind (·.dst) = some d) (hd : look σ.slots d = some (.s undef)) (hdst : ∀ x, o.dst = some x → x < σ.n)
    (h2 : AOps P w0 p0 ops rest (σ.putO o.dst (.s undef)) Q) : AOps P w0 p0 ops (o :: rest) σ Q := by
  intro a w hr
  have hy : yielded ops a.tmps j = none := by
    obtain ⟨_, _, p, _, hs, _⟩ := hr
    obtain ⟨v, hv1, hv2⟩ := hs d _ hd
    cases hv2
    simp [yielded, hj, hv1, undef]
  refine wpList_step fun K hK => ?_
  have hw : ¬ Region.wanted o (yielded ops a.tmps) = true := by simp [Region.wanted, hg, hy]
  rw [if_neg hw]
  exact hK _ _ (h2 _ w (hr.putO o.dst hdst _ _ fun _ _ _ _ => .s _))
section
variable {n : Nat} {sl : List (Nat × AV)} {m : Mem} {ops : Array Oper} {rest : List Oper} {Q : Exit → St → Prop} {d ty : Nat} {ps : String} {af : Array Edge}
theorem x_guard_u {op : Op} {j g : Nat} {b : Bool} (hg : (ops[j]?).bind (·.dst) = some g) (hb : lk sl g = some (.s undef)) (hd : lt d n = true)
    (hk : AOps P w0 p0 ops rest ⟨n, (d, .s undef) :: sl, m⟩ Q) : AOps P w0 p0 ops (⟨some d, op, ty, ps, af, some (j, b)⟩ :: rest) ⟨n, sl, m⟩ Q :=
  aops_guard_u rfl hg (by rw [← lk_eq]; exact hb) (dst_of hd) hk
end

def one0 (x : Option Nat) (A : Nat → Prop) : Hp := { o := fun g => if g = E0 then some x else none, A := A }
theorem one0_o {x : Option Nat} {A : Nat → Prop} {g : Nat} {y : Option Nat} (h : (one0 x A).o g = some y) : g = E0 ∧ x = y := by
  simp only [one0] at h
  split at h
  · rename_i e; cases h; exact ⟨e, rfl⟩
  · cases h
theorem one0_E0 (x : Option Nat) (A : Nat → Prop) : (one0 x A).o E0 = some x := by simp [one0]

/-- The contract of a function that writes one slice that it is handed (named E0), and nothing else that was there. -/
def DenM (P : Program) (f : Nat) (args : List AV) (k : Nat) (xs : List (List AV)) (Q : AV → List (List AV) → Prop) : Prop :=
  ∀ (A : Nat → Prop) (w : World) (x : Option Nat) (vals : List Value), (∀ b, A b → b < w.heap.size) → (∀ b, x = some b → ¬ A b) → RelL w (one0 x A) args vals → AMRel w (one0 x A) E0 (.buf k xs) →
    Calls P f vals.toArray w (fun e w' => ∃ v r ys, e = .returned v ∧ Q r ys ∧ Ext w (one0 x A) w' (one0 x A) ∧ AMRel w' (one0 x A) E0 (.buf k ys) ∧ RelV w' (one0 x A) r v)

theorem DenM.mono {f : Nat} {args : List AV} {k : Nat} {xs : List (List AV)} {Q Q' : AV → List (List AV) → Prop} (h : DenM P f args k xs Q) (hq : ∀ r ys, Q r ys → Q' r ys) : DenM P f args k xs Q' :=
  fun A w x vals hA hx hr hm => (h A w x vals hA hx hr hm).mono fun _ _ ⟨v, r, ys, h1, h2, h3⟩ => ⟨v, r, ys, h1, hq r ys h2, h3⟩

def retM (P : Program) (fn : Func) (k : Nat) (Q : AV → List (List AV) → Prop) : Exit → St → Prop
  | .ret, σ => ∃ σ' r ys, Le σ σ' ∧ σ'.mem = [(E0, .buf k ys)] ∧ ares P fn σ' = some r ∧ Q r ys
  | .normal, σ => ∃ σ' r ys, Le σ σ' ∧ σ'.mem = [(E0, .buf k ys)] ∧ ares P fn σ' = some r ∧ Q r ys
  | _, _ => False

theorem memrel_one0 {w : World} {x : Option Nat} {A : Nat → Prop} {k : Nat} {xs : List (List AV)} (hx : ∀ b, x = some b → ¬ A b) (hm : AMRel w (one0 x A) E0 (.buf k xs)) : MemRel w (one0 x A) [(E0, .buf k xs)] := by
  refine ⟨fun g hl => ?_, fun g m hl => ?_, fun g g' b h1 h2 => ?_, fun g b h => ?_⟩
  · simp only [look] at hl
    split at hl
    · cases hl
    · rename_i hne; simp [one0]; exact fun e => hne e.symm
  · simp only [look] at hl
    split at hl
    · rename_i e; subst e; cases hl; exact hm
    · cases hl
  · exact (one0_o h1).1.trans (one0_o h2).1.symm
  · exact hx b (one0_o h).2

theorem denm_of_aw {f : Nat} {fn : Func} {c : Code} {args : List AV} {k : Nat} {xs : List (List AV)} {Q : AV → List (List AV) → Prop} (hf : P.funcs[f]? = some fn) (hb : fn.body = some c) (hn : args.length ≤ fn.ntmps)
    (h : ∀ w0 x A, Fit w0 (one0 x A) → AW P w0 (one0 x A) c ⟨fn.ntmps, slotsFrom 0 args, [(E0, .buf k xs)]⟩ (retM P fn k Q)) : DenM P f args k xs Q := by
  intro A w x vals hA hx hr hbuf
  refine calls_of_wp hf hb ?_
  have hfit : Fit w (one0 x A) := ⟨fun g hg => by simp [one0]; omega, hA⟩
  have hrel : Rel w (one0 x A) ⟨fn.ntmps, slotsFrom 0 args, [(E0, .buf k xs)]⟩ { tmps := vals.toArray ++ Array.replicate (fn.ntmps - vals.toArray.size) undef, defers := [] } w := by
    refine ⟨rfl, by have := hr.1; simp; omega, one0 x A, Ext.refl _ _, fun t a ht => ?_, memrel_one0 hx hbuf⟩
    obtain ⟨_, ht⟩ := look_slotsFrom args 0 t a ht
    simp only [Nat.sub_zero] at ht
    have hlt : t < vals.length := by rw [← hr.1]; exact (List.getElem?_eq_some_iff.1 ht).1
    exact ⟨vals[t], by rw [Array.getElem?_append_left (by simpa using hlt)]; simp [hlt], hr.2 t a _ ht (by simp [hlt])⟩
  refine wp_mono (h w x A hfit _ w hrel) ?_
  rintro e a' w' ⟨σ', hq, hrel'⟩
  have fin : (∃ σ'' r ys, Le σ' σ'' ∧ σ''.mem = [(E0, .buf k ys)] ∧ ares P fn σ'' = some r ∧ Q r ys) → a'.defers = [] ∧ ∃ v, (results fn a'.tmps).run P w' = .ok v w' ∧ ∃ v' r ys, Ending.returned v = .returned v' ∧ Q r ys ∧ Ext w (one0 x A) w' (one0 x A) ∧ AMRel w' (one0 x A) E0 (.buf k ys) ∧ RelV w' (one0 x A) r v' := by
    rintro ⟨σ'', r, ys, hle, hmem, hres, hQ⟩
    obtain ⟨h1, h2, p, hE, hs, hm⟩ := hle _ _ _ _ hrel'
    obtain ⟨v, hv, hrv⟩ := ares_run hs hm r hres
    have hE0 : look σ''.mem E0 = some (.buf k ys) := by rw [hmem]; simp [look]
    have hpE : p.o E0 = some x := by
      rcases hE.name E0 x (one0_E0 x A) with h | h
      · exfalso
        rcases hm.holds E0 _ hE0 with h' | ⟨b, cur, T, h', _⟩
        · rw [h] at h'; exact absurd h'.2 (by simp)
        · rw [h] at h'; cases h'
      · exact h.1
    have hp : p = one0 x A := by
      have ho : p.o = (one0 x A).o := by
        funext g
        by_cases hg : g = E0
        · subst hg; rw [hpE, one0_E0]
        · rw [hm.dom g (by rw [hmem]; simp [look]; exact fun e => hg e.symm)]; simp [one0, hg]
      have hA' : p.A = A := hE.A
      cases p; simp only at ho hA'; subst ho; subst hA'; rfl
    subst hp
    exact ⟨h1, v, hv, v, r, ys, rfl, hQ, hE, hm.holds E0 _ hE0, hrv⟩
  cases e with
  | normal => exact fin hq
  | ret => exact fin hq
  | _ => exact hq.elim

/-- The caller's name g for what the callee calls E0. -/
def AV.toE (g : Nat) : AV → AV
  | .own g' k off n => if g' = g then .own E0 k off n else .bad
  | a => if a.clean (fun _ => false) then a else .bad
def AV.fromE (g : Nat) : AV → AV
  | .own g' k off n => if g' = E0 then .own g k off n else .bad
  | a => if a.clean (fun _ => false) then a else .bad

/-- All own blocks but g's, and the others'. -/
def Hp.but (p : Hp) (g : Nat) : Nat → Prop := fun b => p.A b ∨ ∃ g', g' ≠ g ∧ p.o g' = some (some b)

theorem stable_but {w : World} {p : Hp} {g : Nat} {x : Option Nat} (hx : p.o g = some x) {b : Nat} (h : Stable w (one0 x (p.but g)) b) : Stable w p b := by
  refine ⟨h.1, fun g' hg' => ?_, fun hA => h.2.2 (.inl hA)⟩
  by_cases e : g' = g
  · subst e; rw [hx] at hg'; cases hg'; exact h.2.1 E0 (one0_E0 _ _)
  · exact h.2.2 (.inr ⟨g', e, hg'⟩)
theorem but_stable {w : World} {p : Hp} {g : Nat} {x : Option Nat} (hx : p.o g = some x) {b : Nat} (h : Stable w p b) : Stable w (one0 x (p.but g)) b := by
  refine ⟨h.1, fun g' hg' => ?_, ?_⟩
  · have := (one0_o hg').2; subst this; exact h.2.1 g hx
  · rintro (hA | ⟨g', _, hg'⟩)
    · exact h.2.2 hA
    · exact h.2.1 g' hg'

theorem RelV.toE {w : World} {p : Hp} {g : Nat} {x : Option Nat} (hx : p.o g = some x) {a : AV} {v : Value} (h : RelV w p a v) : RelV w (one0 x (p.but g)) (a.toE g) v := by
  have hc : ∀ {a : AV} {v : Value}, RelV w p a v → RelV w (one0 x (p.but g)) (if a.clean (fun _ => false) then a else .bad) v := by
    intro a v h
    split
    · rename_i hc; exact h.move (ok := fun _ => false) (fun b hb => ⟨but_stable hx hb, rfl⟩) (fun _ _ h _ => by cases h) hc
    · exact .bad v
  cases h with
  | ownn g' k hg =>
    simp only [AV.toE]; split
    · rename_i e; subst e; rw [hx] at hg; cases hg; exact .ownn _ _ (one0_E0 _ _)
    · exact .bad _
  | own g' k off n b cap cur T hg h1 h2 h3 h4 =>
    simp only [AV.toE]; split
    · rename_i e; subst e; rw [hx] at hg; cases hg; exact .own _ _ _ _ _ _ _ _ (one0_E0 _ _) h1 h2 h3 h4
    · exact .bad _
  | own0 g' k off b a hg =>
    simp only [AV.toE]; split
    · rename_i e; subst e; rw [hx] at hg; cases hg; exact .own0 _ _ _ _ _ (one0_E0 _ _)
    · exact .bad _
  | s v => exact hc (.s v)
  | agg cs vs hl h => exact hc (.agg cs vs hl h)
  | tup cs vs hl h => exact hc (.tup cs vs hl h)
  | sln k a cap hcap => exact hc (.sln k a cap hcap)
  | slc k xs b off cap f hb hn hcap hk hcc hr => exact hc (.slc k xs b off cap f hb hn hcap hk hcc hr)
  | adr cs b off f hb hk hcc hr => exact hc (.adr cs b off f hb hk hcc hr)
  | ref g' k j f b hg => exact hc (.ref g' k j f b hg)
  | fn f cs vs hl h => exact hc (.fn f cs vs hl h)
  | bad v => exact .bad v

theorem RelV.fromE {w : World} {p : Hp} {g : Nat} {x : Option Nat} (hx : p.o g = some x) {a : AV} {v : Value} (h : RelV w (one0 x (p.but g)) a v) : RelV w p (a.fromE g) v := by
  have hc : ∀ {a : AV} {v : Value}, RelV w (one0 x (p.but g)) a v → RelV w p (if a.clean (fun _ => false) then a else .bad) v := by
    intro a v h
    split
    · rename_i hc; exact h.move (ok := fun _ => false) (fun b hb => ⟨stable_but hx hb, rfl⟩) (fun _ _ h _ => by cases h) hc
    · exact .bad v
  cases h with
  | ownn g' k hg =>
    obtain ⟨e, e'⟩ := one0_o hg; subst e; subst e'
    simp only [AV.fromE, if_pos]; exact .ownn _ _ hx
  | own g' k off n b cap cur T hg h1 h2 h3 h4 =>
    obtain ⟨e, e'⟩ := one0_o hg; subst e; subst e'
    simp only [AV.fromE, if_pos]; exact .own _ _ _ _ _ _ _ _ hx h1 h2 h3 h4
  | own0 g' k off b a hg =>
    obtain ⟨e, e'⟩ := one0_o hg; subst e; subst e'
    simp only [AV.fromE, if_pos]; exact .own0 _ _ _ _ _ hx
  | s v => exact hc (.s v)
  | agg cs vs hl h => exact hc (.agg cs vs hl h)
  | tup cs vs hl h => exact hc (.tup cs vs hl h)
  | sln k a cap hcap => exact hc (.sln k a cap hcap)
  | slc k xs b off cap f hb hn hcap hk hcc hr => exact hc (.slc k xs b off cap f hb hn hcap hk hcc hr)
  | adr cs b off f hb hk hcc hr => exact hc (.adr cs b off f hb hk hcc hr)
  | ref g' k j f b hg => exact hc (.ref g' k j f b hg)
  | fn f cs vs hl h => exact hc (.fn f cs vs hl h)
  | bad v => exact .bad v

theorem AMRel.toE {w : World} {p : Hp} {g k : Nat} {xs : List (List AV)} {x : Option Nat} (hx : p.o g = some x) (h : AMRel w p g (.buf k xs)) : AMRel w (one0 x (p.but g)) E0 (.buf k xs) := by
  rcases h with ⟨h1, h2⟩ | ⟨b, cur, T, h1, h2, h3, h4, h5⟩
  · rw [hx] at h2; cases h2; exact .inl ⟨h1, one0_E0 _ _⟩
  · rw [hx] at h1; cases h1
    refine .inr ⟨b, cur, T, one0_E0 _ _, h2, h3, h4, fun j y i c hy hc => ?_⟩
    obtain ⟨v, hv, hr⟩ := h5 j y i c hy hc
    exact ⟨v, hv, hr.move (ok := fun _ => false) (fun b hb => ⟨but_stable hx hb, rfl⟩) (fun _ _ h _ => by cases h) (AV.clean_of_leaf ((h4 y (List.mem_of_getElem? hy)).2 c (List.mem_of_getElem? hc)))⟩
theorem AMRel.fromE {w : World} {p : Hp} {g k : Nat} {xs : List (List AV)} {x : Option Nat} (hx : p.o g = some x) (h : AMRel w (one0 x (p.but g)) E0 (.buf k xs)) : AMRel w p g (.buf k xs) := by
  rcases h with ⟨h1, h2⟩ | ⟨b, cur, T, h1, h2, h3, h4, h5⟩
  · have := (one0_o h2).2; subst this; exact .inl ⟨h1, hx⟩
  · have := (one0_o h1).2; subst this
    refine .inr ⟨b, cur, T, hx, h2, h3, h4, fun j y i c hy hc => ?_⟩
    obtain ⟨v, hv, hr⟩ := h5 j y i c hy hc
    exact ⟨v, hv, hr.move (ok := fun _ => false) (fun b hb => ⟨stable_but hx hb, rfl⟩) (fun _ _ h _ => by cases h) (AV.clean_of_leaf ((h4 y (List.mem_of_getElem? hy)).2 c (List.mem_of_getElem? hc)))⟩

/-- A call that writes one of this call's own slices. -/
theorem aop_callM {o : Oper} {σ : St} {K : St → Prop} (hf : Fit w0 p0) {fo : Operand} {xs : List Operand} {ts : Array TypeId} {f g k : Nat} {cap args : List AV} {ys : List (List AV)} {Q : AV → List (List AV) → Prop}
    (ho : o.op = .call { callee := .value fo, args := xs.toArray, argTypes := ts })
    (hent : ∀ args w, (callFunc f args).run P w = .ok (.enter f args) w) (hd : ∀ x, o.dst = some x → x < σ.n) (hfo : σ.ev fo = .fn f cap) (hg : look σ.mem g = some (.buf k ys)) (hargs : (xs.map σ.ev ++ cap).map (AV.toE g) = args)
    (hden : DenM P f args k ys Q) (hK : ∀ r zs, Q r zs → K ({ σ with mem := setMem g (.buf k zs) σ.mem }.putO o.dst (r.fromE g))) : AOp P w0 p0 o σ K := by
  intro a w next Q' ⟨h1, h2, p, hE, hs, hm⟩ hn
  obtain ⟨vals, hrun, hrel⟩ := call_run (P := P) ho hent hs hfo
  unfold Oper.wp
  rw [hrun]
  simp only [Oper.upon]
  obtain ⟨x, hx⟩ : ∃ x, p.o g = some x := by
    rcases hm.holds g _ hg with h | ⟨b, cur, T, h, _⟩
    · exact ⟨_, h.2⟩
    · exact ⟨_, h⟩
  have hA : ∀ b, p.but g b → b < w.heap.size := fun b hb => by
    rcases hb with hb | ⟨g', _, hg'⟩
    · exact Nat.lt_of_lt_of_le (hf.others b (hE.A ▸ hb)) hE.size
    · exact hm.lt hg'
  have hxA : ∀ b, x = some b → ¬ p.but g b := by
    rintro b rfl (h | ⟨g', h1, h2⟩)
    · exact hm.avoid g b hx h
    · exact h1 (hm.inj g' g b h2 hx)
  refine (hden (p.but g) w x vals hA hxA ?_ ((hm.holds g _ hg).toE hx)).mono ?_
  · rw [← hargs]
    refine ⟨by simpa using hrel.1, fun i c v hc hv => ?_⟩
    rw [List.getElem?_map] at hc
    cases hi : (xs.map σ.ev ++ cap)[i]? with
    | none => simp [hi] at hc
    | some c' => simp [hi] at hc; subst hc; exact (hrel.2 i c' v hi hv).toE hx
  · rintro e w' ⟨v, r, zs, rfl, hQ, hE', hb', hr⟩
    have hsame : ∀ b, p.but g b → w'.heap[b]? = w.heap[b]? := fun b hb => hE'.others b (hA b hb) hb
    have hkeep : Keeps w p w' p := by
      refine ⟨fun b hb => ⟨⟨Nat.lt_of_lt_of_le hb.1 hE'.size, hb.2⟩, (hE'.stab b (but_stable hx hb)).2⟩, fun _ _ h => h, fun g' b hg' cur T hh => ?_⟩
      by_cases e : g' = g
      · subst e; rw [hx] at hg'; cases hg'
        rcases hE'.name E0 (some b) (one0_E0 _ _) with h | ⟨_, h⟩
        · rw [one0_E0] at h; cases h
        · exact h b rfl cur T hh
      · exact ⟨cur, by rw [hsame b (.inr ⟨g', e, hg'⟩)]; exact hh, rfl⟩
    have hE2 : Ext w0 p0 w' p := hE.step hkeep hE'.os hE'.tape hE'.output hE'.size rfl (fun b _ hA => hsame b (.inl hA)) (fun g h1 h2 => absurd h1 h2)
    have hm' : MemRel w' p (setMem g (.buf k zs) σ.mem) := by
      refine ⟨fun g' hl => ?_, fun g' m' hl => ?_, hm.inj, hm.avoid⟩
      · rw [look_setMem g _ _ (by rw [hg]; rfl)] at hl
        split at hl
        · cases hl
        · exact hm.dom g' hl
      · rw [look_setMem g _ _ (by rw [hg]; rfl)] at hl
        split at hl
        · rename_i e; subst e; cases hl; exact hb'.fromE hx
        · rename_i e
          exact (hm.holds g' m' hl).keep hkeep fun b hb => hsame b (.inr ⟨g', e, hb⟩)
    have hr' : RelV w' p (r.fromE g) v := hr.fromE hx
    refine hn _ _ _ (hK r zs hQ) ?_
    cases hdd : o.dst with
    | none => exact ⟨h1, h2, p, hE2, hs.keep hkeep, hm'⟩
    | some d => exact ⟨h1, by simpa [Act.put, St.putO, St.put] using h2, p, hE2, (hs.keep hkeep).put (by rw [h2]; exact hd d hdd) hr', hm'⟩

section
variable {n : Nat} {sl : List (Nat × AV)} {m : Mem} {ops : Array Oper} {rest : List Oper} {Q : Exit → St → Prop} {d ty : Nat} {ps : String} {af : Array Edge}
theorem y_callM (hf : Fit w0 p0) {fo : Operand} {xs : List Operand} {ts : Array TypeId} {f : Nat} (g : Nat) {k : Nat} {cap args args' : List AV} {ys : List (List AV)} {R : AV → List (List AV) → Prop} (hd : lt d n = true) (hfo : ev sl fo = some (.fn f cap)) (hargs : evs sl cap xs = some args)
    (hg : lk m g = some (.buf k ys)) (hto : args.map (AV.toE g) = args')
    (hent : ∀ args w, (callFunc f args).run P w = .ok (.enter f args) w) (hden : DenM P f args' k ys R) (hk : ∀ r zs, R r zs → AOps P w0 p0 ops rest ⟨n, (d, r.fromE g) :: sl, setMem g (.buf k zs) m⟩ Q) :
    AOps P w0 p0 ops (⟨some d, .call { callee := .value fo, args := xs.toArray, argTypes := ts }, ty, ps, af, none⟩ :: rest) ⟨n, sl, m⟩ Q :=
  aops_cons rfl (aop_callM hf rfl hent (dst_of hd) (ev_eq hfo) (by rw [← lk_eq]; exact hg) (by rw [evs_eq hargs]; exact hto) hden hk)
end
end Go.Abs
