import Derived.Test.YtcjchfocohagdaaQ3
set_option linter.unusedVariables false
set_option linter.unusedSimpArgs false
namespace Go.Abs
open Go Go.RowKit
variable {P : Program} {w0 : World} {p0 : Hp}

/-- An operation whose guard hangs on one that did not run. -/
theorem aops_guard_u {ops : Array Oper} {o : Oper} {rest : List Oper} {σ : St} {Q : Exit → St → Prop} {j : Nat} {b : Bool} {d : Nat} (hg : o.guard = some (j, b))
    (hj : (ops[j]?).bind (·.dst) = some d) (hd : look σ.slots d = some (.s undef)) (hdst : ∀ x, o.dst = some x → x < σ.n)
    (h2 : AOps P w0 p0 ops rest (σ.putO o.dst (.s undef)) Q) : AOps P w0 p0 ops (o :: rest) σ Q := by
  intro a w hr
  have hy : yielded ops a.tmps j = none := by
    obtain ⟨_, _, p, _, hs, _⟩ := hr
    obtain ⟨v, hv1, hv2⟩ := hs d _ hd
    cases hv2
    simp [yielded, hj, hv1, undef]
  refine wpList_step fun K hK => ?_
  have hw : ¬ Region.wanted o (yielded ops a.tmps) = true := by simp [Region.wanted, hg, hy]
  rw [if_neg hw]
  exact hK _ _ (h2 _ w (hr.putO o.dst hdst _ _ fun _ _ _ _ => .s _))
section
variable {n : Nat} {sl : List (Nat × AV)} {m : Mem} {ops : Array Oper} {rest : List Oper} {Q : Exit → St → Prop} {d ty : Nat} {ps : String} {af : Array Edge}
theorem x_guard_u {op : Op} {j g : Nat} {b : Bool} (hg : (ops[j]?).bind (·.dst) = some g) (hb : lk sl g = some (.s undef)) (hd : lt d n = true)
    (hk : AOps P w0 p0 ops rest ⟨n, (d, .s undef) :: sl, m⟩ Q) : AOps P w0 p0 ops (⟨some d, op, ty, ps, af, some (j, b)⟩ :: rest) ⟨n, sl, m⟩ Q :=
  aops_guard_u rfl hg (by rw [← lk_eq]; exact hb) (dst_of hd) hk
end

def one0 (x : Option Nat) (A : Nat → Prop) : Hp := { o := fun g => if g = E0 then some x else none, A := A }
theorem one0_o {x : Option Nat} {A : Nat → Prop} {g : Nat} {y : Option Nat} (h : (one0 x A).o g = some y) : g = E0 ∧ x = y := by
  simp only [one0] at h
  split at h
  · rename_i e; cases h; exact ⟨e, rfl⟩
  · cases h
theorem one0_E0 (x : Option Nat) (A : Nat → Prop) : (one0 x A).o E0 = some x := by simp [one0]

/-- The contract of a function that writes one slice that it is handed (named E0), and nothing else that was there. -/
def DenM (P : Program) (f : Nat) (args : List AV) (k : Nat) (xs : List (List AV)) (Q : AV → List (List AV) → Prop) : Prop :=
  ∀ (A : Nat → Prop) (w : World) (x : Option Nat) (vals : List Value), (∀ b, A b → b < w.heap.size) → (∀ b, x = some b → ¬ A b) → RelL w (one0 x A) args vals → AMRel w (one0 x A) E0 (.buf k xs) →
    Calls P f vals.toArray w (fun e w' => ∃ v r ys, e = .returned v ∧ Q r ys ∧ Ext w (one0 x A) w' (one0 x A) ∧ AMRel w' (one0 x A) E0 (.buf k ys) ∧ RelV w' (one0 x A) r v)

theorem DenM.mono {f : Nat} {args : List AV} {k : Nat} {xs : List (List AV)} {Q Q' : AV → List (List AV) → Prop} (h : DenM P f args k xs Q) (hq : ∀ r ys, Q r ys → Q' r ys) : DenM P f args k xs Q' :=
  fun A w x vals hA hx hr hm => (h A w x vals hA hx hr hm).mono fun _ _ ⟨v, r, ys, h1, h2, h3⟩ => ⟨v, r, ys, h1, hq r ys h2, h3⟩

def retM (P : Program) (fn : Func) (k : Nat) (Q : AV → List (List AV) → Prop) : Exit → St → Prop
  | .ret, σ => ∃ σ' r ys, Le σ σ' ∧ σ'.mem = [(E0, .buf k ys)] ∧ ares P fn σ' = some r ∧ Q r ys
  | .normal, σ => ∃ σ' r ys, Le σ σ' ∧ σ'.mem = [(E0, .buf k ys)] ∧ ares P fn σ' = some r ∧ Q r ys
  | _, _ => False

theorem memrel_one0 {w : World} {x : Option Nat} {A : Nat → Prop} {k : Nat} {xs : List (List AV)} (hx : ∀ b, x = some b → ¬ A b) (hm : AMRel w (one0 x A) E0 (.buf k xs)) : MemRel w (one0 x A) [(E0, .buf k xs)] := by
  refine ⟨fun g hl => ?_, fun g m hl => ?_, fun g g' b h1 h2 => ?_, fun g b h => ?_⟩
  · simp only [look] at hl
    split at hl
    · cases hl
    · rename_i hne; simp [one0]; exact fun e => hne e.symm
  · simp only [look] at hl
    split at hl
    · rename_i e; subst e; cases hl; exact hm
    · cases hl
  · exact (one0_o h1).1.trans (one0_o h2).1.symm
  · exact hx b (one0_o h).2

theorem denm_of_aw {f : Nat} {fn : Func} {c : Code} {args : List AV} {k : Nat} {xs : List (List AV)} {Q : AV → List (List AV) → Prop} (hf : P.funcs[f]? = some fn) (hb : fn.body = some c) (hn : args.length ≤ fn.ntmps)
    (h : ∀ w0 x A, Fit w0 (one0 x A) → AW P w0 (one0 x A) c ⟨fn.ntmps, slotsFrom 0 args, [(E0, .buf k xs)]⟩ (retM P fn k Q)) : DenM P f args k xs Q := by
  intro A w x vals hA hx hr hbuf
  refine calls_of_wp hf hb ?_
  have hfit : Fit w (one0 x A) := ⟨fun g hg => by simp [one0]; omega, hA⟩
  have hrel : Rel w (one0 x A) ⟨fn.ntmps, slotsFrom 0 args, [(E0, .buf k xs)]⟩ { tmps := vals.toArray ++ Array.replicate (fn.ntmps - vals.toArray.size) undef, defers := [] } w := by
    refine ⟨rfl, by have := hr.1; simp; omega, one0 x A, Ext.refl _ _, fun t a ht => ?_, memrel_one0 hx hbuf⟩
    obtain ⟨_, ht⟩ := look_slotsFrom args 0 t a ht
    simp only [Nat.sub_zero] at ht
    have hlt : t < vals.length := by rw [← hr.1]; exact (List.getElem?_eq_some_iff.1 ht).1
    exact ⟨vals[t], by rw [Array.getElem?_append_left (by simpa using hlt)]; simp [hlt], hr.2 t a _ ht (by simp [hlt])⟩
  refine wp_mono (h w x A hfit _ w hrel) ?_
  rintro e a' w' ⟨σ', hq, hrel'⟩
  have fin : (∃ σ'' r ys, Le σ' σ'' ∧ σ''.mem = [(E0, .buf k ys)] ∧ ares P fn σ'' = some r ∧ Q r ys) → a'.defers = [] ∧ ∃ v, (results fn a'.tmps).run P w' = .ok v w' ∧ ∃ v' r ys, Ending.returned v = .returned v' ∧ Q r ys ∧ Ext w (one0 x A) w' (one0 x A) ∧ AMRel w' (one0 x A) E0 (.buf k ys) ∧ RelV w' (one0 x A) r v' := by
    rintro ⟨σ'', r, ys, hle, hmem, hres, hQ⟩
    obtain ⟨h1, h2, p, hE, hs, hm⟩ := hle _ _ _ _ hrel'
    obtain ⟨v, hv, hrv⟩ := ares_run hs hm r hres
    have hE0 : look σ''.mem E0 = some (.buf k ys) := by rw [hmem]; simp [look]
    have hpE : p.o E0 = some x := by
      rcases hE.name E0 x (one0_E0 x A) with h | h
      · exfalso
        rcases hm.holds E0 _ hE0 with h' | ⟨b, cur, T, h', _⟩
        · rw [h] at h'; exact absurd h'.2 (by simp)
        · rw [h] at h'; cases h'
      · exact h.1
    have hp : p = one0 x A := by
      have ho : p.o = (one0 x A).o := by
        funext g
        by_cases hg : g = E0
        · subst hg; rw [hpE, one0_E0]
        · rw [hm.dom g (by rw [hmem]; simp [look]; exact fun e => hg e.symm)]; simp [one0, hg]
      have hA' : p.A = A := hE.A
      cases p; simp only at ho hA'; subst ho; subst hA'; rfl
    subst hp
    exact ⟨h1, v, hv, v, r, ys, rfl, hQ, hE, hm.holds E0 _ hE0, hrv⟩
  cases e with
  | normal => exact fin hq
  | ret => exact fin hq
  | _ => exact hq.elim

/-- The caller's name g for what the callee calls E0. -/
def AV.toE (g : Nat) : AV → AV
  | .own g' k off n => if g' = g then .own E0 k off n else .bad
  | a => if a.clean (fun _ => false) then a else .bad
def AV.fromE (g : Nat) : AV → AV
  | .own g' k off n => if g' = E0 then .own g k off n else .bad
  | a => if a.clean (fun _ => false) then a else .bad

/-- All own blocks but g's, and the others'. -/
def Hp.but (p : Hp) (g : Nat) : Nat → Prop := fun b => p.A b ∨ ∃ g', g' ≠ g ∧ p.o g' = some (some b)

theorem stable_but {w : World} {p : Hp} {g : Nat} {x : Option Nat} (hx : p.o g = some x) {b : Nat} (h : Stable w (one0 x (p.but g)) b) : Stable w p b := by
  refine ⟨h.1, fun g' hg' => ?_, fun hA => h.2.2 (.inl hA)⟩
  by_cases e : g' = g
  · subst e; rw [hx] at hg'; cases hg'; exact h.2.1 E0 (one0_E0 _ _)
  · exact h.2.2 (.inr ⟨g', e, hg'⟩)
theorem but_stable {w : World} {p : Hp} {g : Nat} {x : Option Nat} (hx : p.o g = some x) {b : Nat} (h : Stable w p b) : Stable w (one0 x (p.but g)) b := by
  refine ⟨h.1, fun g' hg' => ?_, ?_⟩
  · have := (one0_o hg').2; subst this; exact h.2.1 g hx
  · rintro (hA | ⟨g', _, hg'⟩)
    · exact h.2.2 hA
    · exact h.2.1 g' hg'

theorem RelV.toE {w : World} {p : Hp} {g : Nat} {x : Option Nat} (hx : p.o g = some x) {a : AV} {v : Value} (h : RelV w p a v) : RelV w (one0 x (p.but g)) (a.toE g) v := by
  have hc : ∀ {a : AV} {v : Value}, RelV w p a v → RelV w (one0 x (p.but g)) (if a.clean (fun _ => false) then a else .bad) v := by
    intro a v h
    split
    · rename_i hc; exact h.move (ok := fun _ => false) (fun b hb => ⟨but_stable hx hb, rfl⟩) (fun _ _ h _ => by cases h) hc
    · exact .bad v
  cases h with
  | ownn g' k hg =>
    simp only [AV.toE]; split
    · rename_i e; subst e; rw [hx] at hg; cases hg; exact .ownn _ _ (one0_E0 _ _)
    · exact .bad _
  | own g' k off n b cap cur T hg h1 h2 h3 h4 =>
    simp only [AV.toE]; split
    · rename_i e; subst e; rw [hx] at hg; cases hg; exact .own _ _ _ _ _ _ _ _ (one0_E0 _ _) h1 h2 h3 h4
    · exact .bad _
  | own0 g' k off b a hg =>
    simp only [AV.toE]; split
    · rename_i e; subst e; rw [hx] at hg; cases hg; exact .own0 _ _ _ _ _ (one0_E0 _ _)
    · exact .bad _
  | s v => exact hc (.s v)
  | agg cs vs hl h => exact hc (.agg cs vs hl h)
  | tup cs vs hl h => exact hc (.tup cs vs hl h)
  | sln k a cap hcap => exact hc (.sln k a cap hcap)
  | slc k xs b off cap f hb hn hcap hk hcc hr => exact hc (.slc k xs b off cap f hb hn hcap hk hcc hr)
  | adr cs b off f hb hk hcc hr => exact hc (.adr cs b off f hb hk hcc hr)
  | ref g' k j f b hg => exact hc (.ref g' k j f b hg)
  | fn f cs vs hl h => exact hc (.fn f cs vs hl h)
  | bad v => exact .bad v

theorem RelV.fromE {w : World} {p : Hp} {g : Nat} {x : Option Nat} (hx : p.o g = some x) {a : AV} {v : Value} (h : RelV w (one0 x (p.but g)) a v) : RelV w p (a.fromE g) v := by
  have hc : ∀ {a : AV} {v : Value}, RelV w (one0 x (p.but g)) a v → RelV w p (if a.clean (fun _ => false) then a else .bad) v := by
    intro a v h
    split
    · rename_i hc; exact h.move (ok := fun _ => false) (fun b hb => ⟨stable_but hx hb, rfl⟩) (fun _ _ h _ => by cases h) hc
    · exact .bad v
  cases h with
  | ownn g' k hg =>
    obtain ⟨e, e'⟩ := one0_o hg; subst e; subst e'
    simp only [AV.fromE, if_pos]; exact .ownn _ _ hx
  | own g' k off n b cap cur T hg h1 h2 h3 h4 =>
    obtain ⟨e, e'⟩ := one0_o hg; subst e; subst e'
    simp only [AV.fromE, if_pos]; exact .own _ _ _ _ _ _ _ _ hx h1 h2 h3 h4
  | own0 g' k off b a hg =>
    obtain ⟨e, e'⟩ := one0_o hg; subst e; subst e'
    simp only [AV.fromE, if_pos]; exact .own0 _ _ _ _ _ hx
  | s v => exact hc (.s v)
  | agg cs vs hl h => exact hc (.agg cs vs hl h)
  | tup cs vs hl h => exact hc (.tup cs vs hl h)
  | sln k a cap hcap => exact hc (.sln k a cap hcap)
  | slc k xs b off cap f hb hn hcap hk hcc hr => exact hc (.slc k xs b off cap f hb hn hcap hk hcc hr)
  | adr cs b off f hb hk hcc hr => exact hc (.adr cs b off f hb hk hcc hr)
  | ref g' k j f b hg => exact hc (.ref g' k j f b hg)
  | fn f cs vs hl h => exact hc (.fn f cs vs hl h)
  | bad v => exact .bad v

theorem AMRel.toE {w : World} {p : Hp} {g k : Nat} {xs : List (List AV)} {x : Option Nat} (hx : p.o g = some x) (h : AMRel w p g (.buf k xs)) : AMRel w (one0 x (p.but g)) E0 (.buf k xs) := by
  rcases h with ⟨h1, h2⟩ | ⟨b, cur, T, h1, h2, h3, h4, h5⟩
  · rw [hx] at h2; cases h2; exact .inl ⟨h1, one0_E0 _ _⟩
  · rw [hx] at h1; cases h1
    refine .inr ⟨b, cur, T, one0_E0 _ _, h2, h3, h4, fun j y i c hy hc => ?_⟩
    obtain ⟨v, hv, hr⟩ := h5 j y i c hy hc
    exact ⟨v, hv, hr.move (ok := fun _ => false) (fun b hb => ⟨but_stable hx hb, rfl⟩) (fun _ _ h _ => by cases h) (AV.clean_of_leaf ((h4 y (List.mem_of_getElem? hy)).2 c (List.mem_of_getElem? hc)))⟩
theorem AMRel.fromE {w : World} {p : Hp} {g k : Nat} {xs : List (List AV)} {x : Option Nat} (hx : p.o g = some x) (h : AMRel w (one0 x (p.but g)) E0 (.buf k xs)) : AMRel w p g (.buf k xs) := by
  rcases h with ⟨h1, h2⟩ | ⟨b, cur, T, h1, h2, h3, h4, h5⟩
  · have := (one0_o h2).2; subst this; exact .inl ⟨h1, hx⟩
  · have := (one0_o h1).2; subst this
    refine .inr ⟨b, cur, T, hx, h2, h3, h4, fun j y i c hy hc => ?_⟩
    obtain ⟨v, hv, hr⟩ := h5 j y i c hy hc
    exact ⟨v, hv, hr.move (ok := fun _ => false) (fun b hb => ⟨stable_but hx hb, rfl⟩) (fun _ _ h _ => by cases h) (AV.clean_of_leaf ((h4 y (List.mem_of_getElem? hy)).2 c (List.mem_of_getElem? hc)))⟩

/-- A call that writes one of this call's own slices. -/
theorem aop_callM {o : Oper} {σ : St} {K : St → Prop} (hf : Fit w0 p0) {fo : Operand} {xs : List Operand} {ts : Array TypeId} {f g k : Nat} {cap args : List AV} {ys : List (List AV)} {Q : AV → List (List AV) → Prop}
    (ho : o.op = .call { callee := .value fo, args := xs.toArray, argTypes := ts })
    (hent : ∀ args w, (callFunc f args).run P w = .ok (.enter f args) w) (hd : ∀ x, o.dst = some x → x < σ.n) (hfo : σ.ev fo = .fn f cap) (hg : look σ.mem g = some (.buf k ys)) (hargs : (xs.map σ.ev ++ cap).map (AV.toE g) = args)
    (hden : DenM P f args k ys Q) (hK : ∀ r zs, Q r zs → K ({ σ with mem := setMem g (.buf k zs) σ.mem }.putO o.dst (r.fromE g))) : AOp P w0 p0 o σ K := by
  intro a w next Q' ⟨h1, h2, p, hE, hs, hm⟩ hn
  obtain ⟨vals, hrun, hrel⟩ := call_run (P := P) ho hent hs hfo
  unfold Oper.wp
  rw [hrun]
  simp only [Oper.upon]
  obtain ⟨x, hx⟩ : ∃ x, p.o g = some x := by
    rcases hm.holds g _ hg with h | ⟨b, cur, T, h, _⟩
    · exact ⟨_, h.2⟩
    · exact ⟨_, h⟩
  have hA : ∀ b, p.but g b → b < w.heap.size := fun b hb => by
    rcases hb with hb | ⟨g', _, hg'⟩
    · exact Nat.lt_of_lt_of_le (hf.others b (hE.A ▸ hb)) hE.size
    · exact hm.lt hg'
  have hxA : ∀ b, x = some b → ¬ p.but g b := by
    rintro b rfl (h | ⟨g', h1, h2⟩)
    · exact hm.avoid g b hx h
    · exact h1 (hm.inj g' g b h2 hx)
  refine (hden (p.but g) w x vals hA hxA ?_ ((hm.holds g _ hg).toE hx)).mono ?_
  · rw [← hargs]
    refine ⟨by simpa using hrel.1, fun i c v hc hv => ?_⟩
    rw [List.getElem?_map] at hc
    cases hi : (xs.map σ.ev ++ cap)[i]? with
    | none => simp [hi] at hc
    | some c' => simp [hi] at hc; subst hc; exact (hrel.2 i c' v hi hv).toE hx
  · rintro e w' ⟨v, r, zs, rfl, hQ, hE', hb', hr⟩
    have hsame : ∀ b, p.but g b → w'.heap[b]? = w.heap[b]? := fun b hb => hE'.others b (hA b hb) hb
    have hkeep : Keeps w p w' p := by
      refine ⟨fun b hb => ⟨⟨Nat.lt_of_lt_of_le hb.1 hE'.size, hb.2⟩, (hE'.stab b (but_stable hx hb)).2⟩, fun _ _ h => h, fun g' b hg' cur T hh => ?_⟩
      by_cases e : g' = g
      · subst e; rw [hx] at hg'; cases hg'
        rcases hE'.name E0 (some b) (one0_E0 _ _) with h | ⟨_, h⟩
        · rw [one0_E0] at h; cases h
        · exact h b rfl cur T hh
      · exact ⟨cur, by rw [hsame b (.inr ⟨g', e, hg'⟩)]; exact hh, rfl⟩
    have hE2 : Ext w0 p0 w' p := hE.step hkeep hE'.os hE'.tape hE'.output hE'.size rfl (fun b _ hA => hsame b (.inl hA)) (fun g h1 h2 => absurd h1 h2)
    have hm' : MemRel w' p (setMem g (.buf k zs) σ.mem) := by
      refine ⟨fun g' hl => ?_, fun g' m' hl => ?_, hm.inj, hm.avoid⟩
      · rw [look_setMem g _ _ (by rw [hg]; rfl)] at hl
        split at hl
        · cases hl
        · exact hm.dom g' hl
      · rw [look_setMem g _ _ (by rw [hg]; rfl)] at hl
        split at hl
        · rename_i e; subst e; cases hl; exact hb'.fromE hx
        · rename_i e
          exact (hm.holds g' m' hl).keep hkeep fun b hb => hsame b (.inr ⟨g', e, hb⟩)
    have hr' : RelV w' p (r.fromE g) v := hr.fromE hx
    refine hn _ _ _ (hK r zs hQ) ?_
    cases hdd : o.dst with
    | none => exact ⟨h1, h2, p, hE2, hs.keep hkeep, hm'⟩
    | some d => exact ⟨h1, by simpa [Act.put, St.putO, St.put] using h2, p, hE2, (hs.keep hkeep).put (by rw [h2]; exact hd d hdd) hr', hm'⟩

section
variable {n : Nat} {sl : List (Nat × AV)} {m : Mem} {ops : Array Oper} {rest : List Oper} {Q : Exit → St → Prop} {d ty : Nat} {ps : String} {af : Array Edge}
theorem y_callM (hf : Fit w0 p0) {fo : Operand} {xs : List Operand} {ts : Array TypeId} {f : Nat} (g : Nat) {k : Nat} {cap args args' : List AV} {ys : List (List AV)} {R : AV → List (List AV) → Prop} (hd : lt d n = true) (hfo : ev sl fo = some (.fn f cap)) (hargs : evs sl cap xs = some args)
    (hg : lk m g = some (.buf k ys)) (hto : args.map (AV.toE g) = args')
    (hent : ∀ args w, (callFunc f args).run P w = .ok (.enter f args) w) (hden : DenM P f args' k ys R) (hk : ∀ r zs, R r zs → AOps P w0 p0 ops rest ⟨n, (d, r.fromE g) :: sl, setMem g (.buf k zs) m⟩ Q) :
    AOps P w0 p0 ops (⟨some d, .call { callee := .value fo, args := xs.toArray, argTypes := ts }, ty, ps, af, none⟩ :: rest) ⟨n, sl, m⟩ Q :=
  aops_cons rfl (aop_callM hf rfl hent (dst_of hd) (ev_eq hfo) (by rw [← lk_eq]; exact hg) (by rw [evs_eq hargs]; exact hto) hden hk)
end
end Go.Abs
set_option linter.unusedVariables false
set_option linter.unusedSimpArgs false
namespace Go.Abs
open Go Go.RowKit
variable {P : Program} {w0 : World} {p0 : Hp}

theorem run_equalIn_nil (d : Nat) {t e : Nat} (ht : elem? P t = some e) (a : Option Addr) (n c : Nat) (w : World) : (Op.equalIn (d + 1) t (.slice a n c) (.slice none 0 0)).run P w = .ok a.isNone w := by
  cases a <;> simp [Op.equalIn, run_underlying (elem?_inv ht)]
theorem run_equal_nil {t e : Nat} (ht : elem? P t = some e) (a : Option Addr) (n c : Nat) (w : World) : (Op.equal t (.slice a n c) (.slice none 0 0)).run P w = .ok a.isNone w :=
  run_equalIn_nil 9999 ht a n c w

/-- Is a slice nil? -/
theorem aop_eqnil {o : Oper} {σ : St} {K : St → Prop} {t e yt : TypeId} {x y : Operand} (ho : o.op = .binOp .eql t x y yt) (hd : ∀ x, o.dst = some x → x < σ.n) (ht : elem? P t = some e) (hy : σ.ev y = .s (.slice none 0 0))
    {R : Bool → Prop} (hx : ∀ (w : World) (p : Hp) v, RelV w p (σ.ev x) v → ∃ a n c, v = .slice a n c ∧ R a.isNone) (hK : ∀ b, R b → K (σ.putO o.dst (.s (.bool b)))) : AOp P w0 p0 o σ K := by
  intro a w next Q hr hn
  obtain ⟨h1, h2, p, hE, hs, hm⟩ := hr
  obtain ⟨ad, n, c, hv, hR⟩ := hx w p _ (ev_rel (a := a) hs x)
  have e2 := ev_s (act := a) hs hy
  have hg : Sem.run P (eqGuard .eql t x y (.slice ad n c) (.slice none 0 0)) w = .ok () w := by
    simp [eqGuard, Program.eqGuardType, elem?_inv ht]
  have hrun : (execOp a.eval o).run P w = .ok (.value (.bool ad.isNone)) w := by
    simp only [execOp, ho, hv, e2]
    simp [hg, binOp, run_equal_nil ht]
  unfold Oper.wp
  rw [hrun]
  simp only [Oper.upon]
  exact hn _ _ _ (hK _ hR) (Rel.putO ⟨h1, h2, p, hE, hs, hm⟩ o.dst hd _ _ fun _ _ _ _ => .s _)
section
variable {n : Nat} {sl : List (Nat × AV)} {m : Mem} {ops : Array Oper} {rest : List Oper} {Q : Exit → St → Prop} {d ty : Nat} {ps : String} {af : Array Edge}
theorem y_eqnil_sl {t e yt k : Nat} {x y : Operand} {xs : List (List AV)} (hd : lt d n = true) (hx : ev sl x = some (.sl k xs)) (hy : ev sl y = some (.s (.slice none 0 0))) (ht : elem? P t = some e)
    (hk : ∀ b : Bool, (b = true → xs = []) → AOps P w0 p0 ops rest ⟨n, (d, .s (.bool b)) :: sl, m⟩ Q) : AOps P w0 p0 ops (⟨some d, .binOp .eql t x y yt, ty, ps, af, none⟩ :: rest) ⟨n, sl, m⟩ Q :=
  aops_cons rfl (aop_eqnil rfl (dst_of hd) ht (ev_eq hy) (R := fun b => b = true → xs = []) (fun w p v h => by
    rw [ev_eq hx] at h
    cases h with
    | sln => exact ⟨_, _, _, rfl, fun _ => rfl⟩
    | slc => exact ⟨_, _, _, rfl, fun h => by cases h⟩) hk)
theorem y_eqnil_own {t e yt g k off c : Nat} {x y : Operand} (hd : lt d n = true) (hx : ev sl x = some (.own g k off c)) (hy : ev sl y = some (.s (.slice none 0 0))) (ht : elem? P t = some e)
    (hk : ∀ b : Bool, (b = true → c = 0) → AOps P w0 p0 ops rest ⟨n, (d, .s (.bool b)) :: sl, m⟩ Q) : AOps P w0 p0 ops (⟨some d, .binOp .eql t x y yt, ty, ps, af, none⟩ :: rest) ⟨n, sl, m⟩ Q :=
  aops_cons rfl (aop_eqnil rfl (dst_of hd) ht (ev_eq hy) (R := fun b => b = true → c = 0) (fun w p v h => by
    rw [ev_eq hx] at h
    cases h with
    | ownn => exact ⟨_, _, _, rfl, fun _ => rfl⟩
    | own => exact ⟨_, _, _, rfl, fun h => by cases h⟩
    | own0 => exact ⟨_, _, _, rfl, fun h => by cases h⟩) hk)
theorem p_neg {t : TypeId} {x : Operand} {k : IntKind} {z : Int} {gd : Option (Nat × Bool)} (hx : ev sl x = some (.s (.int k z))) : PureOp P ⟨some d, .unOp .neg t x, ty, ps, af, gd⟩ ⟨n, sl, m⟩ (.s (.int k (k.wrap (0 - z)))) :=
  pure_neg rfl (ev_eq hx)
theorem p_nil {k : Nat} {gd : Option (Nat × Bool)} : PureOp P ⟨some d, .assign (.const (.slice none 0 0)), ty, ps, af, gd⟩ ⟨n, sl, m⟩ (.sl k []) :=
  fun act w p hs _ => ⟨.slice none 0 0, by simp [execOp, Act.eval], .sln k none 0 (by simp [maxLen])⟩
end

/-- The contract of a function that hands back a new slice, which is the caller's to write. -/
def DenO (P : Program) (f : Nat) (args : List AV) (k : Nat) (Q : List (List AV) → Prop) : Prop :=
  ∀ (A : Nat → Prop) (w : World) (vals : List Value), (∀ b, A b → b < w.heap.size) → RelL w (none0 A) args vals →
    Calls P f vals.toArray w (fun e w' => ∃ v ys x, e = .returned v ∧ Q ys ∧ (∀ b, x = some b → w.heap.size ≤ b) ∧ Ext w (none0 A) w' (one0 x A) ∧ AMRel w' (one0 x A) E0 (.buf k ys) ∧ RelV w' (one0 x A) (.own E0 k 0 ys.length) v)

theorem DenO.mono {f : Nat} {args : List AV} {k : Nat} {Q Q' : List (List AV) → Prop} (h : DenO P f args k Q) (hq : ∀ ys, Q ys → Q' ys) : DenO P f args k Q' :=
  fun A w vals hA hr => (h A w vals hA hr).mono fun _ _ ⟨v, ys, x, h1, h2, h3⟩ => ⟨v, ys, x, h1, hq ys h2, h3⟩

def retO (P : Program) (fn : Func) (k : Nat) (Q : List (List AV) → Prop) : Exit → St → Prop
  | .ret, σ => ∃ g ys, g < E0 ∧ look σ.mem g = some (.buf k ys) ∧ ares P fn σ = some (.own g k 0 ys.length) ∧ Q ys
  | .normal, σ => ∃ g ys, g < E0 ∧ look σ.mem g = some (.buf k ys) ∧ ares P fn σ = some (.own g k 0 ys.length) ∧ Q ys
  | _, _ => False

theorem ext_new {w : World} {A : Nat → Prop} {w' : World} {p : Hp} (h : Ext w (none0 A) w' p) {g b : Nat} (hg : p.o g = some (some b)) (hA : ∀ b, A b → ¬ p.o g = some (some b)) : w.heap.size ≤ b := by
  by_cases hb : b < w.heap.size
  · exfalso
    by_cases hAb : A b
    · exact hA b hAb hg
    · exact (h.stab b ⟨hb, (fun _ h => by cases h), hAb⟩).1.2.1 g hg
  · omega

theorem deno_of_aw {f : Nat} {fn : Func} {c : Code} {args : List AV} {k : Nat} {Q : List (List AV) → Prop} (hf : P.funcs[f]? = some fn) (hb : fn.body = some c) (hn : args.length ≤ fn.ntmps)
    (h : ∀ w0 A, Fit w0 (none0 A) → AW P w0 (none0 A) c ⟨fn.ntmps, slotsFrom 0 args, []⟩ (retO P fn k Q)) : DenO P f args k Q := by
  intro A w vals hA hr
  refine calls_of_wp hf hb ?_
  have hfit : Fit w (none0 A) := ⟨fun _ _ => rfl, hA⟩
  have hrel : Rel w (none0 A) ⟨fn.ntmps, slotsFrom 0 args, []⟩ { tmps := vals.toArray ++ Array.replicate (fn.ntmps - vals.toArray.size) undef, defers := [] } w := by
    refine ⟨rfl, by have := hr.1; simp; omega, none0 A, Ext.refl _ _, fun t a ht => ?_, ⟨fun _ _ => rfl, fun g m h => by simp [look] at h, (fun g g' b h => by cases h), (fun g b h => by cases h)⟩⟩
    obtain ⟨_, ht⟩ := look_slotsFrom args 0 t a ht
    simp only [Nat.sub_zero] at ht
    have hlt : t < vals.length := by rw [← hr.1]; exact (List.getElem?_eq_some_iff.1 ht).1
    exact ⟨vals[t], by rw [Array.getElem?_append_left (by simpa using hlt)]; simp [hlt], hr.2 t a _ ht (by simp [hlt])⟩
  refine wp_mono (h w A hfit _ w hrel) ?_
  rintro e a' w' ⟨σ', hq, h1, h2, p, hE, hs, hm⟩
  have fin : (∃ g ys, g < E0 ∧ look σ'.mem g = some (.buf k ys) ∧ ares P fn σ' = some (.own g k 0 ys.length) ∧ Q ys) → a'.defers = [] ∧ ∃ v, (results fn a'.tmps).run P w' = .ok v w' ∧
      ∃ v' ys x, Ending.returned v = .returned v' ∧ Q ys ∧ (∀ b, x = some b → w.heap.size ≤ b) ∧ Ext w (none0 A) w' (one0 x A) ∧ AMRel w' (one0 x A) E0 (.buf k ys) ∧ RelV w' (one0 x A) (.own E0 k 0 ys.length) v' := by
    rintro ⟨g, ys, hgE, hl, hres, hQ⟩
    obtain ⟨v, hv, hrv⟩ := ares_run hs hm _ hres
    obtain ⟨x, hx⟩ : ∃ x, p.o g = some x := by
      rcases hm.holds g _ hl with h | ⟨b, cur, T, h, _⟩
      · exact ⟨_, h.2⟩
      · exact ⟨_, h⟩
    -- what this call's own other blocks are is forgotten
    have hpA : p.A = A := hE.A
    have hst : ∀ b, Stable w (none0 A) b → Stable w' (one0 x A) b := fun b hb => by
      have h := (hE.stab b hb).1
      exact ⟨h.1, fun g' hg' => by have := (one0_o hg').2; subst this; exact h.2.1 g hx, hpA ▸ h.2.2⟩
    have hmv : ∀ b, Stable w' p b → Stable w' (one0 x A) b := fun b hb => ⟨hb.1, fun g' hg' => by have := (one0_o hg').2; subst this; exact hb.2.1 g hx, hpA ▸ hb.2.2⟩
    refine ⟨h1, v, hv, v, ys, x, rfl, hQ, ?_, ?_, ?_, ?_⟩
    · rintro b rfl
      exact ext_new hE hx fun b' hA' h' => hm.avoid g b' h' (hpA ▸ hA')
    · exact ⟨hE.os, hE.tape, hE.output, hE.size, rfl, fun b hb => ⟨hst b hb, (hE.stab b hb).2⟩, hE.others, fun g' x' h' => by cases h'⟩
    · rcases hm.holds g _ hl with ⟨e1, e2⟩ | ⟨b, cur, T, h1, h2, h3, h4, h5⟩
      · rw [hx] at e2; cases e2; exact .inl ⟨e1, one0_E0 _ _⟩
      · rw [hx] at h1; cases h1
        refine .inr ⟨b, cur, T, one0_E0 _ _, h2, h3, h4, fun j y i c hy hc => ?_⟩
        obtain ⟨u, hu, hr⟩ := h5 j y i c hy hc
        exact ⟨u, hu, hr.move (ok := fun _ => false) (fun b hb => ⟨hmv b hb, rfl⟩) (fun _ _ h _ => by cases h) (AV.clean_of_leaf ((h4 y (List.mem_of_getElem? hy)).2 c (List.mem_of_getElem? hc)))⟩
    · generalize ys.length = n at hrv ⊢
      cases hrv with
      | ownn _ _ hg => rw [hx] at hg; cases hg; exact .ownn _ _ (one0_E0 _ _)
      | own _ _ _ _ _ _ _ _ hg e1 e2 e3 e4 => rw [hx] at hg; cases hg; exact .own _ _ _ _ _ _ _ _ (one0_E0 _ _) e1 e2 e3 e4
      | own0 _ _ _ _ _ hg => rw [hx] at hg; cases hg; exact .own0 _ _ _ _ _ (one0_E0 _ _)
  cases e with
  | normal => exact fin hq
  | ret => exact fin hq
  | _ => exact hq.elim

/-- A call that hands back a new slice of this call's own, called g. -/
theorem aop_callO {o : Oper} {σ : St} {K : St → Prop} (hf : Fit w0 p0) {fo : Operand} {xs : List Operand} {ts : Array TypeId} {f g k : Nat} {cap args : List AV} {Q : List (List AV) → Prop}
    (ho : o.op = .call { callee := .value fo, args := xs.toArray, argTypes := ts })
    (hent : ∀ args w, (callFunc f args).run P w = .ok (.enter f args) w) (hd : ∀ x, o.dst = some x → x < σ.n) (hfo : σ.ev fo = .fn f cap) (hargs : xs.map σ.ev ++ cap = args) (hcl : cleanL (fun _ => false) args = true) (hg : σ.fresh g)
    (hden : DenO P f args k Q) (hK : ∀ zs, Q zs → K ({ σ with mem := (g, .buf k zs) :: σ.mem }.putO o.dst (.own g k 0 zs.length))) : AOp P w0 p0 o σ K := by
  intro a w next Q' ⟨h1, h2, p, hE, hs, hm⟩ hn
  obtain ⟨vals, hrun, hrel⟩ := call_run (P := P) ho hent hs hfo
  rw [hargs] at hrel
  unfold Oper.wp
  rw [hrun]
  simp only [Oper.upon]
  have hA : ∀ b, p.all b → b < w.heap.size := fun b hb => by
    rcases hb with hb | ⟨g, hg⟩
    · exact Nat.lt_of_lt_of_le (hf.others b (hE.A ▸ hb)) hE.size
    · exact hm.lt hg
  have hall : ∀ b, Stable w p b → Stable w (none0 p.all) b := fun b hb => ⟨hb.1, (fun _ h => by cases h), fun h => h.elim hb.2.2 fun ⟨g, hg⟩ => hb.2.1 g hg⟩
  refine (hden p.all w vals hA ⟨hrel.1, fun i c v hc hv => (hrel.2 i c v hc hv).move (ok := fun _ => false) (fun b hb => ⟨hall b hb, rfl⟩) (fun _ _ h => by cases h) (cleanL_mem hcl c (List.mem_of_getElem? hc))⟩).mono ?_
  rintro e w' ⟨v, zs, x, rfl, hQ, hnew, hE', hb', hr⟩
  have hpg : p.o g = none := hm.dom g hg.2
  have hsame : ∀ b, b < w.heap.size → w'.heap[b]? = w.heap[b]? := fun b hb => by
    by_cases h : p.all b
    · exact hE'.others b hb h
    · exact (hE'.stab b ⟨hb, (fun _ h => by cases h), h⟩).2
  let q := p.upd g (some x)
  have hqg : q.o g = some x := by simp [q, Hp.upd]
  have hqo : ∀ g', g' ≠ g → q.o g' = p.o g' := fun g' h => by simp [q, Hp.upd, h]
  have hkeep : Keeps w p w' q := by
    refine ⟨fun b hb => ⟨⟨Nat.lt_of_lt_of_le hb.1 hE'.size, fun g' hg' => ?_, hb.2.2⟩, hsame b hb.1⟩, fun g' y hg' => ?_, fun g' b hg' cur T hh => ⟨cur, by rw [hsame b (hm.lt hg')]; exact hh, rfl⟩⟩
    · by_cases e : g' = g
      · subst e; rw [hqg] at hg'; cases hg'; have := hnew b rfl; have := hb.1; omega
      · rw [hqo g' e] at hg'; exact hb.2.1 g' hg'
    · have : g' ≠ g := fun e => by subst e; rw [hpg] at hg'; cases hg'
      rw [hqo g' this]; exact hg'
  have hE2 : Ext w0 p0 w' q := hE.step hkeep hE'.os hE'.tape hE'.output hE'.size rfl (fun b hb _ => hsame b hb) (fun g' h1 h2 => by
    by_cases e : g' = g
    · subst e; exact hf.names _ hg.1
    · rw [hqo g' e] at h2; exact absurd h1 h2)
  have hst' : ∀ b, Stable w' (one0 x p.all) b → Stable w' q b := fun b hb => by
    refine ⟨hb.1, fun g' hg' => ?_, fun h => hb.2.2 (.inl h)⟩
    by_cases e : g' = g
    · subst e; rw [hqg] at hg'; cases hg'; exact hb.2.1 E0 (one0_E0 _ _)
    · rw [hqo g' e] at hg'; exact hb.2.2 (.inr ⟨g', hg'⟩)
  have hm' : MemRel w' q ((g, .buf k zs) :: σ.mem) := by
    refine ⟨fun g' hl => ?_, fun g' m' hl => ?_, fun g1 g2 b e1 e2 => ?_, fun g' b hg' hAb => ?_⟩
    · rw [look_cons] at hl
      split at hl
      · cases hl
      · rename_i e; rw [hqo g' (fun h => e h.symm)]; exact hm.dom g' hl
    · rw [look_cons] at hl
      split at hl
      · rename_i e; subst e; cases hl
        rcases hb' with ⟨e1, e2⟩ | ⟨b, cur, T, h1, h2, h3, h4, h5⟩
        · have := (one0_o e2).2; subst this; exact .inl ⟨e1, hqg⟩
        · have := (one0_o h1).2; subst this
          refine .inr ⟨b, cur, T, hqg, h2, h3, h4, fun j y i c hy hc => ?_⟩
          obtain ⟨u, hu, hr⟩ := h5 j y i c hy hc
          exact ⟨u, hu, hr.move (ok := fun _ => false) (fun b hb => ⟨hst' b hb, rfl⟩) (fun _ _ h _ => by cases h) (AV.clean_of_leaf ((h4 y (List.mem_of_getElem? hy)).2 c (List.mem_of_getElem? hc)))⟩
      · exact (hm.holds g' m' hl).keep hkeep fun b hb => hsame b (hm.lt hb)
    · by_cases e1' : g1 = g
      · by_cases e2' : g2 = g
        · rw [e1', e2']
        · exfalso; rw [e1', hqg] at e1; rw [hqo g2 e2'] at e2; cases e1; have := hnew b rfl; have := hm.lt e2; omega
      · by_cases e2' : g2 = g
        · exfalso; rw [e2', hqg] at e2; rw [hqo g1 e1'] at e1; cases e2; have := hnew b rfl; have := hm.lt e1; omega
        · rw [hqo g1 e1'] at e1; rw [hqo g2 e2'] at e2; exact hm.inj g1 g2 b e1 e2
    · by_cases e : g' = g
      · subst e; rw [hqg] at hg'; cases hg'; have := hnew b rfl; have := hA b (.inl hAb); omega
      · rw [hqo g' e] at hg'; exact hm.avoid g' b hg' hAb
  have hr' : RelV w' q (.own g k 0 zs.length) v := by
    generalize zs.length = n at hr ⊢
    cases hr with
    | ownn _ _ hg => have := (one0_o hg).2; subst this; exact .ownn _ _ hqg
    | own _ _ _ _ _ _ _ _ hg e1 e2 e3 e4 => have := (one0_o hg).2; subst this; exact .own _ _ _ _ _ _ _ _ hqg e1 e2 e3 e4
    | own0 _ _ _ _ _ hg => have := (one0_o hg).2; subst this; exact .own0 _ _ _ _ _ hqg
  refine hn _ _ _ (hK zs hQ) ?_
  cases hdd : o.dst with
  | none => exact ⟨h1, h2, q, hE2, hs.keep hkeep, hm'⟩
  | some d => exact ⟨h1, by simpa [Act.put, St.putO, St.put] using h2, q, hE2, (hs.keep hkeep).put (by rw [h2]; exact hd d hdd) hr', hm'⟩
section
variable {n : Nat} {sl : List (Nat × AV)} {m : Mem} {ops : Array Oper} {rest : List Oper} {Q : Exit → St → Prop} {d ty : Nat} {ps : String} {af : Array Edge}
theorem y_callO (hf : Fit w0 p0) {fo : Operand} {xs : List Operand} {ts : Array TypeId} {f k : Nat} {cap args : List AV} {R : List (List AV) → Prop} (hd : lt d n = true) (hE : lt d E0 = true) (hl : lk m d = none) (hfo : ev sl fo = some (.fn f cap)) (hargs : evs sl cap xs = some args)
    (hent : ∀ args w, (callFunc f args).run P w = .ok (.enter f args) w) (hcl : cleanL (fun _ => false) args = true) (hden : DenO P f args k R) (hk : ∀ zs, R zs → AOps P w0 p0 ops rest ⟨n, (d, .own d k 0 zs.length) :: sl, (d, .buf k zs) :: m⟩ Q) :
    AOps P w0 p0 ops (⟨some d, .call { callee := .value fo, args := xs.toArray, argTypes := ts }, ty, ps, af, none⟩ :: rest) ⟨n, sl, m⟩ Q :=
  aops_cons rfl (aop_callO hf rfl hent (dst_of hd) (ev_eq hfo) (evs_eq hargs) hcl (fresh_of hE hl) hden hk)
end

end Go.Abs
set_option linter.unusedVariables false
set_option linter.unusedSimpArgs false
namespace Go.Abs
open Go Go.RowKit
variable {P : Program} {w0 : World} {p0 : Hp}

theorem aop_alloc {o : Oper} {σ : St} {K : St → Prop} (hf : Fit w0 p0) {elem : TypeId} {d : Nat} {zs : List Value} (ho : o.op = .alloc elem) (hdst : o.dst = some d) (hd : d < σ.n) (hfr : σ.fresh d) (hz : zeros? P elem = some zs)
    (hk : K ({ σ with mem := (d, .box (zs.map .s)) :: σ.mem }.put d (.ref d 0 0 0))) : AOp P w0 p0 o σ K := by
  intro a w next Q hr hn
  obtain ⟨z, hz1, hz2⟩ := zeros?_inv hz w
  have hrun : (execOp a.eval o).run P w = .ok (.value (.pointer (some ⟨w.heap.size, 0, none⟩))) (w.alloc (.cells z.cells elem)) := by
    simp [execOp, ho, Instr.alloc, hz1, newVar, newRow]
  unfold Oper.wp
  rw [hrun]
  refine hn _ _ _ hk ?_
  have := rel_alloc hf hr hfr o.dst (fun y hy => by rw [hdst] at hy; cases hy; exact hd) z.cells elem (.box (zs.map .s)) (.ref d 0 0 0) (.pointer (some ⟨w.heap.size, 0, none⟩)) ?_ ?_
  · rw [hdst] at this ⊢; exact this
  · intro p hs hm hkp
    refine ⟨w.heap.size, _, elem, by simp [Hp.upd], heap_alloc_new w _, by rw [← hz2]; simp, fun i c hc => ?_⟩
    rw [List.getElem?_map] at hc
    cases hzi : zs[i]? with
    | none => simp [hzi] at hc
    | some v =>
      simp [hzi] at hc
      subst hc
      exact ⟨v, by rw [← Array.getElem?_toList, hz2, hzi], .s v⟩
  · intro p hm
    exact .ref d 0 0 0 w.heap.size (by simp [Hp.upd])
section
variable {n : Nat} {sl : List (Nat × AV)} {m : Mem} {ops : Array Oper} {rest : List Oper} {Q : Exit → St → Prop} {d ty : Nat} {ps : String} {af : Array Edge}
theorem x_alloc (hf : Fit w0 p0) {t : Nat} {zs : List Value} (hd : lt d n = true) (hE : lt d E0 = true) (hl : lk m d = none) (hz : zeros? P t = some zs) (hk : AOps P w0 p0 ops rest ⟨n, (d, .ref d 0 0 0) :: sl, (d, .box (zs.map .s)) :: m⟩ Q) :
    AOps P w0 p0 ops (⟨some d, .alloc t, ty, ps, af, none⟩ :: rest) ⟨n, sl, m⟩ Q :=
  aops_cons rfl (aop_alloc hf rfl rfl (lt_of hd) (fresh_of hE hl) hz hk)
end
/-- nil reads as a row of none. -/
theorem den_nil1 {f k : Nat} {Q : AV → Prop} (h : Den P f [.sl k []] Q) : Den P f [.s (.slice none 0 0)] Q := by
  intro A w vals hA hr
  refine h A w vals hA ⟨by simpa using hr.1, fun i c v hc hv => ?_⟩
  match i, hc with
  | 0, hc =>
    cases hc
    have := hr.2 0 _ v rfl hv
    cases this
    exact .sln k none 0 (by simp [maxLen])
theorem streq_t {t : TypeId} (a : ByteArray) : abin P .eql t (.string a) (.string a) = some (.bool true) := by simp [abin, astr]
end Go.Abs
set_option linter.unusedVariables false
set_option linter.unusedSimpArgs false
namespace Go.Abs
open Go Go.RowKit
variable {P : Program} {w0 : World} {p0 : Hp}

/-- All of this call's own blocks are given up: what reads through them is read only from here on. -/
def froz (m : Mem) (l : List (Nat × AV)) : List (Nat × AV) → Prop
  | [] => True
  | (t, a') :: r => (∃ a, lk l t = some a ∧ a.only (fun _ => false) m = a') ∧ froz m l r
theorem froz_look {m : Mem} {l : List (Nat × AV)} : ∀ {l' : List (Nat × AV)}, froz m l l' → ∀ t a', look l' t = some a' → ∃ a, look l t = some a ∧ a.only (fun _ => false) m = a'
  | [], _, _, _, h => by simp [look] at h
  | (t0, a0) :: r, h, t, a', hl => by
    simp only [look] at hl
    split at hl
    · rename_i e; subst e; cases hl
      obtain ⟨a, h1, h2⟩ := h.1
      exact ⟨a, by rw [← lk_eq]; exact h1, h2⟩
    · exact froz_look h.2 t a' hl
theorem only_none (m : Mem) : ∀ l : Mem, Mem.only (fun _ => false) m l = [] := by
  intro l
  induction l with
  | nil => rfl
  | cons x r ih => obtain ⟨g, a⟩ := x; simp [Mem.only, ih]
theorem look_map_only (m : Mem) (f : AV → AV) : ∀ (l : List (Nat × AV)) (t : Nat), look (l.map fun x => (x.1, f x.2)) t = (look l t).map f
  | [], t => rfl
  | (d, a) :: r, t => by
    simp only [List.map_cons, look]
    split
    · rfl
    · exact look_map_only m f r t
theorem le_freeze {n : Nat} {sl sl' : List (Nat × AV)} {m : Mem} (h : froz m sl sl') : Le ⟨n, sl, m⟩ ⟨n, sl', []⟩ := by
  refine (Le.only (fun _ => false) ⟨n, sl, m⟩).trans ?_
  intro w0 p0 a w ⟨h1, h2, p, hE, hs, hm⟩
  refine ⟨h1, h2, p, hE, fun t a' ht => ?_, ?_⟩
  · obtain ⟨b, hb1, hb2⟩ := froz_look h t a' ht
    refine hs t a' ?_
    show look (sl.map fun x => (x.1, x.2.only (fun _ => false) m)) t = some a'
    rw [look_map_only m (fun x => x.only (fun _ => false) m), hb1, ← hb2]; rfl
  · have : (St.only (fun _ => false) ⟨n, sl, m⟩).mem = [] := only_none m m
    rw [this] at hm; exact hm
theorem only_whole {mem : Mem} {g k n : Nat} {xs : List (List AV)} (hl : look mem g = some (.buf k xs)) (hn : n = xs.length) : (AV.own g k 0 n).only (fun _ => false) mem = .sl k xs := by
  subst hn
  simp [AV.only, hl]
end Go.Abs
set_option linter.unusedVariables false
set_option linter.unusedSimpArgs false
namespace Go.Abs
open Go Go.RowKit
variable {P : Program} {w0 : World} {p0 : Hp}

/-- A region whose order is open, some of its operations done: whichever comes next. -/
def AAny (P : Program) (w0 : World) (p0 : Hp) (ops : Array Oper) (Q : Exit → St → Prop) (fuel : Nat) (listed : Array Bool) (σ : St) : Prop :=
  ∀ a w, Rel w0 p0 σ a w → wpAny P .any ops (fun e a' w' => ∃ σ', Q e σ' ∧ Rel w0 p0 σ' a' w') fuel listed a w

theorem Rel.drew {σ : St} {a : Act} {w : World} (h : Rel w0 p0 σ a w) : Rel w0 p0 σ a { w with drawn := w.drawn + 1 } := by
  obtain ⟨h1, h2, p, hE, hs, hm⟩ := h
  have hg : Grow w { w with drawn := w.drawn + 1 } := ⟨rfl, ⟨rfl, Nat.le_succ _⟩, rfl, Nat.le_refl _, fun _ _ => rfl⟩
  have hk := hg.keeps hm
  exact ⟨h1, h2, p, hE.step hk hg.os hg.tape hg.output hg.size rfl (fun b hb _ => hg.heap b hb) (fun g h1 h2 => absurd h1 h2), hs.keep hk, ⟨hm.dom, fun g m hl => (hm.holds g m hl).keep hk fun _ _ => rfl, hm.inj, hm.avoid⟩⟩

theorem aany_le {ops : Array Oper} {Q : Exit → St → Prop} {fuel : Nat} {listed : Array Bool} {σ σ' : St} (hl : Le σ σ') (h : AAny P w0 p0 ops Q fuel listed σ') : AAny P w0 p0 ops Q fuel listed σ :=
  fun a w hr => h a w (hl _ _ _ _ hr)
theorem aany_end {ops : Array Oper} {Q : Exit → St → Prop} {fuel : Nat} {listed : Array Bool} {σ : St} (hr : Region.ready .any ops listed = []) (h : Q .normal σ) : AAny P w0 p0 ops Q fuel listed σ := by
  intro a w hrel
  cases fuel with
  | zero => exact ⟨hr, σ, h, hrel⟩
  | succ n => exact ⟨fun _ => ⟨σ, h, hrel⟩, fun i hi => by rw [hr] at hi; simp at hi⟩
/-- What may come next, each in its turn. -/
def allOf (P : Program) (w0 : World) (p0 : Hp) (ops : Array Oper) (Q : Exit → St → Prop) (fuel : Nat) (listed : Array Bool) (σ : St) : List Nat → Prop
  | [] => True
  | i :: r => (∃ o, ops[i]? = some o ∧ o.guard = none ∧ AOp P w0 p0 o σ (AAny P w0 p0 ops Q fuel (listed.setIfInBounds i true))) ∧ allOf P w0 p0 ops Q fuel listed σ r
theorem aany_step {ops : Array Oper} {Q : Exit → St → Prop} {fuel : Nat} {listed : Array Bool} {σ : St} (i : Nat) (l : List Nat) (hr : Region.ready .any ops listed = i :: l) (h : allOf P w0 p0 ops Q fuel listed σ (i :: l)) : AAny P w0 p0 ops Q (fuel + 1) listed σ := by
  intro a w hrel
  refine ⟨fun he => (by rw [hr] at he; cases he), ?_⟩
  rw [hr]
  have key : ∀ l, allOf P w0 p0 ops Q fuel listed σ l → ∀ j ∈ l, wpOp P ops (fun e a' w' => ∃ σ', Q e σ' ∧ Rel w0 p0 σ' a' w') j (wpAny P .any ops (fun e a' w' => ∃ σ', Q e σ' ∧ Rel w0 p0 σ' a' w') fuel (listed.setIfInBounds j true)) a w := by
    intro l
    induction l with
    | nil => intro _ j hj; simp at hj
    | cons x r ih =>
      intro h j hj
      rcases List.mem_cons.1 hj with e | e
      · subst e
        obtain ⟨o, ho, hg, hop⟩ := h.1
        unfold wpOp
        simp only [ho]
        rw [if_pos (by simp [Region.wanted, hg])]
        exact .inl (hop a w _ _ hrel fun σ' a' w' h1 h2 => h1 a' w' h2)
      · exact ih h.2 j e
  exact key _ h
theorem aw_region_any {id : Nat} {l : List Oper} {σ : St} {Q : Exit → St → Prop} (hm : P.follows .mixedOrders = true) (h : AAny P w0 p0 l.toArray Q l.toArray.size (Array.replicate l.toArray.size false) σ) : AW P w0 p0 (.region id l.toArray true) σ Q :=
  fun a w hr => wp_region_any hm (h a _ hr.drew)
end Go.Abs
set_option linter.unusedVariables false
set_option linter.unusedSimpArgs false
namespace Go.Abs
open Go Go.RowKit
variable {P : Program} {w0 : World} {p0 : Hp}

/-- The memory's list in another order. -/
theorem le_mem {n : Nat} {sl sl' : List (Nat × AV)} {m m' : Mem} (h : coversL sl sl') (hm : ∀ g, look m g = look m' g) : Le ⟨n, sl, m⟩ ⟨n, sl', m'⟩ := by
  refine (le_of (m := m) h).trans ?_
  intro w0 p0 a w ⟨h1, h2, p, hE, hs, hmem⟩
  exact ⟨h1, h2, p, hE, hs, ⟨fun g hl => hmem.dom g ((hm g).trans hl), fun g x hl => hmem.holds g x ((hm g).trans hl), hmem.inj, hmem.avoid⟩⟩
end Go.Abs
