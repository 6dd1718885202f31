import Derived.Test.YtpicjibfbghonaaA25
set_option linter.unusedVariables false
set_option linter.unusedSimpArgs false
namespace Go.Abs
open Go Go.RowKit
variable {P : Program} {w0 : World} {p0 : Hp}

theorem run_equalIn_nil (d : Nat) {t e : Nat} (ht : elem? P t = some e) (a : Option Addr) (n c : Nat) (w : World) : (Op.equalIn (d + 1) t (.slice a n c) (.slice none 0 0)).run P w = .ok a.isNone w := by
  cases a <;> simp [Op.equalIn, run_underlying (elem?_inv ht)]
theorem run_equal_nil {t e : Nat} (ht : elem? P t = some e) (a : Option Addr) (n c : Nat) (w : World) : (Op.equal t (.slice a n c) (.slice none 0 0)).run P w = .ok a.isNone w :=
  run_equalIn_nil 9999 ht a n c w

/-- Is a slice nil? -/
theorem aop_eqnil {o : Oper} {σ : St} {K : St → Prop} {t e yt : TypeId} {x y : Operand} (ho : o.op = .binOp .eql t x y yt) (hd : ∀ x, o.dst = some x → x < σ.n) (ht : elem? P t = some e) (hy : σ.ev y = .s (.slice none 0 0))
    {R : Bool → Prop} (hx : ∀ (w : World) (p : Hp) v, RelV w p (σ.ev x) v → ∃ a n c, v = .slice a n c ∧ R a.isNone) (hK : ∀ b, R b → K (σ.putO o.dst (.s (.bool b)))) : AOp P w0 p0 o σ K := by
  intro a w next Q hr hn
  obtain ⟨h1, h2, p, hE, hs, hm⟩ := hr
  obtain ⟨ad, n, c, hv, hR⟩ := hx w p _ (ev_rel (a := a) hs x)
  have e2 := ev_s (act := a) hs hy
  have hg : Sem.run P (eqGuard .eql t x y (.slice ad n c) (.slice none 0 0)) w = .ok () w := by
    simp [eqGuard, Program.eqGuardType, elem?_inv ht]
  have hrun : (execOp a.eval o).run P w = .ok (.value (.bool ad.isNone)) w := by
    simp only [execOp, ho, hv, e2]
    simp [hg, binOp, run_equal_nil ht]
  unfold Oper.wp
  rw [hrun]
  simp only [Oper.upon]
  exact hn _ _ _ (hK _ hR) (Rel.putO ⟨h1, h2, p, hE, hs, hm⟩ o.dst hd _ _ fun _ _ _ _ => .s _)
section
variable {n : Nat} {sl : List (Nat × AV)} {m : Mem} {ops : Array Oper} {rest : List Oper} {Q : Exit → St → Prop} {d ty : Nat} {ps : String} {af : Array Edge}
theorem y_eqnil_sl {t e yt k : Nat} {x y : Operand} {xs : List (List AV)} (hd : lt d n = true) (hx : ev sl x = some (.sl k xs)) (hy : ev sl y = some (.s (.slice none 0 0))) (ht : elem? P t = some e)
    (hk : ∀ b : Bool, (b = true → xs = []) → AOps P w0 p0 ops rest ⟨n, (d, .s (.bool b)) :: sl, m⟩ Q) : AOps P w0 p0 ops (⟨some d, .binOp .eql t x y yt, ty, ps, af, none⟩ :: rest) ⟨n, sl, m⟩ Q :=
  aops_cons rfl (aop_eqnil rfl (dst_of hd) ht (ev_eq hy) (R := fun b => b = true → xs = []) (fun w p v h => by
    rw [ev_eq hx] at h
    cases h with
    | sln => exact ⟨_, _, _, rfl, fun _ => rfl⟩
    | slc => exact ⟨_, _, _, rfl, fun h => by cases h⟩) hk)
theorem y_eqnil_own {t e yt g k off c : Nat} {x y : Operand} (hd : lt d n = true) (hx : ev sl x = some (.own g k off c)) (hy : ev sl y = some (.s (.slice none 0 0))) (ht : elem? P t = some e)
    (hk : ∀ b : Bool, (b = true → c = 0) → AOps P w0 p0 ops rest ⟨n, (d, .s (.bool b)) :: sl, m⟩ Q) : AOps P w0 p0 ops (⟨some d, .binOp .eql t x y yt, ty, ps, af, none⟩ :: rest) ⟨n, sl, m⟩ Q :=
  aops_cons rfl (aop_eqnil rfl (dst_of hd) ht (ev_eq hy) (R := fun b => b = true → c = 0) (fun w p v h => by
    rw [ev_eq hx] at h
    cases h with
    | ownn => exact ⟨_, _, _, rfl, fun _ => rfl⟩
    | own => exact ⟨_, _, _, rfl, fun h => by cases h⟩
    | own0 => exact ⟨_, _, _, rfl, fun h => by cases h⟩) hk)
theorem p_neg {t : TypeId} {x : Operand} {k : IntKind} {z : Int} {gd : Option (Nat × Bool)} (hx : ev sl x = some (.s (.int k z))) : PureOp P ⟨some d, .unOp .neg t x, ty, ps, af, gd⟩ ⟨n, sl, m⟩ (.s (.int k (k.wrap (0 - z)))) :=
  pure_neg rfl (ev_eq hx)
theorem p_nil {k : Nat} {gd : Option (Nat × Bool)} : PureOp P ⟨some d, .assign (.const (.slice none 0 0)), ty, ps, af, gd⟩ ⟨n, sl, m⟩ (.sl k []) :=
  fun act w p hs _ => ⟨.slice none 0 0, by simp [execOp, Act.eval], .sln k none 0 (by simp [maxLen])⟩
end

/-- The contract of a function that hands back a new slice, which is the caller's to write. -/
def DenO (P : Program) (f : Nat) (args : List AV) (k : Nat) (Q : List (List AV) → Prop) : Prop :=
  ∀ (A : Nat → Prop) (w : World) (vals : List Value), (∀ b, A b → b < w.heap.size) → RelL w (none0 A) args vals →
    Calls P f vals.toArray w (fun e w' => ∃ v ys x, e = .returned v ∧ Q ys ∧ (∀ b, x = some b → w.heap.size ≤ b) ∧ Ext w (none0 A) w' (one0 x A) ∧ AMRel w' (one0 x A) E0 (.buf k ys) ∧ RelV w' (one0 x A) (.own E0 k 0 ys.length) v)

theorem DenO.mono {f : Nat} {args : List AV} {k : Nat} {Q Q' : List (List AV) → Prop} (h : DenO P f args k Q) (hq : ∀ ys, Q ys → Q' ys) : DenO P f args k Q' :=
  fun A w vals hA hr => (h A w vals hA hr).mono fun _ _ ⟨v, ys, x, h1, h2, h3⟩ => ⟨v, ys, x, h1, hq ys h2, h3⟩

def retO (P : Program) (fn : Func) (k : Nat) (Q : List (List AV) → Prop) : Exit → St → Prop
  | .ret, σ => ∃ g ys, g < E0 ∧ look σ.mem g = some (.buf k ys) ∧ ares P fn σ = some (.own g k 0 ys.length) ∧ Q ys
  | .normal, σ => ∃ g ys, g < E0 ∧ look σ.mem g = some (.buf k ys) ∧ ares P fn σ = some (.own g k 0 ys.length) ∧ Q ys
  | _, _ => False

theorem ext_new {w : World} {A : Nat → Prop} {w' : World} {p : Hp} (h : Ext w (none0 A) w' p) {g b : Nat} (hg : p.o g = some (some b)) (hA : ∀ b, A b → ¬ p.o g = some (some b)) : w.heap.size ≤ b := by
  by_cases hb : b < w.heap.size
  · exfalso
    by_cases hAb : A b
    · exact hA b hAb hg
    · exact (h.stab b ⟨hb, (fun _ h => by cases h), hAb⟩).1.2.1 g hg
  · omega

theorem deno_of_aw {f : Nat} {fn : Func} {c : Code} {args : List AV} {k : Nat} {Q : List (List AV) → Prop} (hf : P.funcs[f]? = some fn) (hb : fn.body = some c) (hn : args.length ≤ fn.ntmps)
    (h : ∀ w0 A, Fit w0 (none0 A) → AW P w0 (none0 A) c ⟨fn.ntmps, slotsFrom 0 args, []⟩ (retO P fn k Q)) : DenO P f args k Q := by
  intro A w vals hA hr
  refine calls_of_wp hf hb ?_
  have hfit : Fit w (none0 A) := ⟨fun _ _ => rfl, hA⟩
  have hrel : Rel w (none0 A) ⟨fn.ntmps, slotsFrom 0 args, []⟩ { tmps := vals.toArray ++ Array.replicate (fn.ntmps - vals.toArray.size) undef, defers := [] } w := by
    refine ⟨rfl, by have := hr.1; simp; omega, none0 A, Ext.refl _ _, fun t a ht => ?_, ⟨fun _ _ => rfl, fun g m h => by simp [look] at h, (fun g g' b h => by cases h), (fun g b h => by cases h)⟩⟩
    obtain ⟨_, ht⟩ := look_slotsFrom args 0 t a ht
    simp only [Nat.sub_zero] at ht
    have hlt : t < vals.length := by rw [← hr.1]; exact (List.getElem?_eq_some_iff.1 ht).1
    exact ⟨vals[t], by rw [Array.getElem?_append_left (by simpa using hlt)]; simp [hlt], hr.2 t a _ ht (by simp [hlt])⟩
  refine wp_mono (h w A hfit _ w hrel) ?_
  rintro e a' w' ⟨σ', hq, h1, h2, p, hE, hs, hm⟩
  have fin : (∃ g ys, g < E0 ∧ look σ'.mem g = some (.buf k ys) ∧ ares P fn σ' = some (.own g k 0 ys.length) ∧ Q ys) → a'.defers = [] ∧ ∃ v, (results fn a'.tmps).run P w' = .ok v w' ∧
      ∃ v' ys x, Ending.returned v = .returned v' ∧ Q ys ∧ (∀ b, x = some b → w.heap.size ≤ b) ∧ Ext w (none0 A) w' (one0 x A) ∧ AMRel w' (one0 x A) E0 (.buf k ys) ∧ RelV w' (one0 x A) (.own E0 k 0 ys.length) v' := by
    rintro ⟨g, ys, hgE, hl, hres, hQ⟩
    obtain ⟨v, hv, hrv⟩ := ares_run hs hm _ hres
    obtain ⟨x, hx⟩ : ∃ x, p.o g = some x := by
      rcases hm.holds g _ hl with h | ⟨b, cur, T, h, _⟩
      · exact ⟨_, h.2⟩
      · exact ⟨_, h⟩
    -- what this call's own other blocks are is forgotten
    have hpA : p.A = A := hE.A
    have hst : ∀ b, Stable w (none0 A) b → Stable w' (one0 x A) b := fun b hb => by
      have h := (hE.stab b hb).1
      exact ⟨h.1, fun g' hg' => by have := (one0_o hg').2; subst this; exact h.2.1 g hx, hpA ▸ h.2.2⟩
    have hmv : ∀ b, Stable w' p b → Stable w' (one0 x A) b := fun b hb => ⟨hb.1, fun g' hg' => by have := (one0_o hg').2; subst this; exact hb.2.1 g hx, hpA ▸ hb.2.2⟩
    refine ⟨h1, v, hv, v, ys, x, rfl, hQ, ?_, ?_, ?_, ?_⟩
    · rintro b rfl
      exact ext_new hE hx fun b' hA' h' => hm.avoid g b' h' (hpA ▸ hA')
    · exact ⟨hE.os, hE.tape, hE.output, hE.size, rfl, fun b hb => ⟨hst b hb, (hE.stab b hb).2⟩, hE.others, fun g' x' h' => by cases h'⟩
    · rcases hm.holds g _ hl with ⟨e1, e2⟩ | ⟨b, cur, T, h1, h2, h3, h4, h5⟩
      · rw [hx] at e2; cases e2; exact .inl ⟨e1, one0_E0 _ _⟩
      · rw [hx] at h1; cases h1
        refine .inr ⟨b, cur, T, one0_E0 _ _, h2, h3, h4, fun j y i c hy hc => ?_⟩
        obtain ⟨u, hu, hr⟩ := h5 j y i c hy hc
        exact ⟨u, hu, hr.move (ok := fun _ => false) (fun b hb => ⟨hmv b hb, rfl⟩) (fun _ _ h _ => by cases h) (AV.clean_of_leaf ((h4 y (List.mem_of_getElem? hy)).2 c (List.mem_of_getElem? hc)))⟩
    · generalize ys.length = n at hrv ⊢
      cases hrv with
      | ownn _ _ hg => rw [hx] at hg; cases hg; exact .ownn _ _ (one0_E0 _ _)
      | own _ _ _ _ _ _ _ _ hg e1 e2 e3 e4 => rw [hx] at hg; cases hg; exact .own _ _ _ _ _ _ _ _ (one0_E0 _ _) e1 e2 e3 e4
      | own0 _ _ _ _ _ hg => rw [hx] at hg; cases hg; exact .own0 _ _ _ _ _ (one0_E0 _ _)
  cases e with
  | normal => exact fin hq
  | ret => exact fin hq
  | _ => exact hq.elim

/-- A call that hands back a new slice of this call's own, called g. -/
theorem aop_callO {o : Oper} {σ : St} {K : St → Prop} (hf : Fit w0 p0) {fo : Operand} {xs : List Operand} {ts : Array TypeId} {f g k : Nat} {cap args : List AV} {Q : List (List AV) → Prop}
    (ho : o.op = .call { callee := .value fo, args := xs.toArray, argTypes := ts })
    (hent : ∀ args w, (callFunc f args).run P w = .ok (.enter f args) w) (hd : ∀ x, o.dst = some x → x < σ.n) (hfo : σ.ev fo = .fn f cap) (hargs : xs.map σ.ev ++ cap = args) (hcl : cleanL (fun _ => false) args = true) (hg : σ.fresh g)
    (hden : DenO P f args k Q) (hK : ∀ zs, Q zs → K ({ σ with mem := (g, .buf k zs) :: σ.mem }.putO o.dst (.own g k 0 zs.length))) : AOp P w0 p0 o σ K := by
  intro a w next Q' ⟨h1, h2, p, hE, hs, hm⟩ hn
  obtain ⟨vals, hrun, hrel⟩ := call_run (P := P) ho hent hs hfo
  rw [hargs] at hrel
  unfold Oper.wp
  rw [hrun]
  simp only [Oper.upon]
  have hA : ∀ b, p.all b → b < w.heap.size := fun b hb => by
    rcases hb with hb | ⟨g, hg⟩
    · exact Nat.lt_of_lt_of_le (hf.others b (hE.A ▸ hb)) hE.size
    · exact hm.lt hg
  have hall : ∀ b, Stable w p b → Stable w (none0 p.all) b := fun b hb => ⟨hb.1, (fun _ h => by cases h), fun h => h.elim hb.2.2 fun ⟨g, hg⟩ => hb.2.1 g hg⟩
  refine (hden p.all w vals hA ⟨hrel.1, fun i c v hc hv => (hrel.2 i c v hc hv).move (ok := fun _ => false) (fun b hb => ⟨hall b hb, rfl⟩) (fun _ _ h => by cases h) (cleanL_mem hcl c (List.mem_of_getElem? hc))⟩).mono ?_
  rintro e w' ⟨v, zs, x, rfl, hQ, hnew, hE', hb', hr⟩
  have hpg : p.o g = none := hm.dom g hg.2
  have hsame : ∀ b, b < w.heap.size → w'.heap[b]? = w.heap[b]? := fun b hb => by
    by_cases h : p.all b
    · exact hE'.others b hb h
    · exact (hE'.stab b ⟨hb, (fun _ h => by cases h), h⟩).2
  let q := p.upd g (some x)
  have hqg : q.o g = some x := by simp [q, Hp.upd]
  have hqo : ∀ g', g' ≠ g → q.o g' = p.o g' := fun g' h => by simp [q, Hp.upd, h]
  have hkeep : Keeps w p w' q := by
    refine ⟨fun b hb => ⟨⟨Nat.lt_of_lt_of_le hb.1 hE'.size, fun g' hg' => ?_, hb.2.2⟩, hsame b hb.1⟩, fun g' y hg' => ?_, fun g' b hg' cur T hh => ⟨cur, by rw [hsame b (hm.lt hg')]; exact hh, rfl⟩⟩
    · by_cases e : g' = g
      · subst e; rw [hqg] at hg'; cases hg'; have := hnew b rfl; have := hb.1; omega
      · rw [hqo g' e] at hg'; exact hb.2.1 g' hg'
    · have : g' ≠ g := fun e => by subst e; rw [hpg] at hg'; cases hg'
      rw [hqo g' this]; exact hg'
  have hE2 : Ext w0 p0 w' q := hE.step hkeep hE'.os hE'.tape hE'.output hE'.size rfl (fun b hb _ => hsame b hb) (fun g' h1 h2 => by
    by_cases e : g' = g
    · subst e; exact hf.names _ hg.1
    · rw [hqo g' e] at h2; exact absurd h1 h2)
  have hst' : ∀ b, Stable w' (one0 x p.all) b → Stable w' q b := fun b hb => by
    refine ⟨hb.1, fun g' hg' => ?_, fun h => hb.2.2 (.inl h)⟩
    by_cases e : g' = g
    · subst e; rw [hqg] at hg'; cases hg'; exact hb.2.1 E0 (one0_E0 _ _)
    · rw [hqo g' e] at hg'; exact hb.2.2 (.inr ⟨g', hg'⟩)
  have hm' : MemRel w' q ((g, .buf k zs) :: σ.mem) := by
    refine ⟨fun g' hl => ?_, fun g' m' hl => ?_, fun g1 g2 b e1 e2 => ?_, fun g' b hg' hAb => ?_⟩
    · rw [look_cons] at hl
      split at hl
      · cases hl
      · rename_i e; rw [hqo g' (fun h => e h.symm)]; exact hm.dom g' hl
    · rw [look_cons] at hl
      split at hl
      · rename_i e; subst e; cases hl
        rcases hb' with ⟨e1, e2⟩ | ⟨b, cur, T, h1, h2, h3, h4, h5⟩
        · have := (one0_o e2).2; subst this; exact .inl ⟨e1, hqg⟩
        · have := (one0_o h1).2; subst this
          refine .inr ⟨b, cur, T, hqg, h2, h3, h4, fun j y i c hy hc => ?_⟩
          obtain ⟨u, hu, hr⟩ := h5 j y i c hy hc
          exact ⟨u, hu, hr.move (ok := fun _ => false) (fun b hb => ⟨hst' b hb, rfl⟩) (fun _ _ h _ => by cases h) (AV.clean_of_leaf ((h4 y (List.mem_of_getElem? hy)).2 c (List.mem_of_getElem? hc)))⟩
      · exact (hm.holds g' m' hl).keep hkeep fun b hb => hsame b (hm.lt hb)
    · by_cases e1' : g1 = g
      · by_cases e2' : g2 = g
        · rw [e1', e2']
        · exfalso; rw [e1', hqg] at e1; rw [hqo g2 e2'] at e2; cases e1; have := hnew b rfl; have := hm.lt e2; omega
      · by_cases e2' : g2 = g
        · exfalso; rw [e2', hqg] at e2; rw [hqo g1 e1'] at e1; cases e2; have := hnew b rfl; have := hm.lt e1; omega
        · rw [hqo g1 e1'] at e1; rw [hqo g2 e2'] at e2; exact hm.inj g1 g2 b e1 e2
    · by_cases e : g' = g
      · subst e; rw [hqg] at hg'; cases hg'; have := hnew b rfl; have := hA b (.inl hAb); omega
      · rw [hqo g' e] at hg'; exact hm.avoid g' b hg' hAb
  have hr' : RelV w' q (.own g k 0 zs.length) v := by
    generalize zs.length = n at hr ⊢
    cases hr with
    | ownn _ _ hg => have := (one0_o hg).2; subst this; exact .ownn _ _ hqg
    | own _ _ _ _ _ _ _ _ hg e1 e2 e3 e4 => have := (one0_o hg).2; subst this; exact .own _ _ _ _ _ _ _ _ hqg e1 e2 e3 e4
    | own0 _ _ _ _ _ hg => have := (one0_o hg).2; subst this; exact .own0 _ _ _ _ _ hqg
  refine hn _ _ _ (hK zs hQ) ?_
  cases hdd : o.dst with
  | none => exact ⟨h1, h2, q, hE2, hs.keep hkeep, hm'⟩
  | some d => exact ⟨h1, by simpa [Act.put, St.putO, St.put] using h2, q, hE2, (hs.keep hkeep).put (by rw [h2]; exact hd d hdd) hr', hm'⟩
section
variable {n : Nat} {sl : List (Nat × AV)} {m : Mem} {ops : Array Oper} {rest : List Oper} {Q : Exit → St → Prop} {d ty : Nat} {ps : String} {af : Array Edge}
theorem y_callO (hf : Fit w0 p0) {fo : Operand} {xs : List Operand} {ts : Array TypeId} {f k : Nat} {cap args : List AV} {R : List (List AV) → Prop} (hd : lt d n = true) (hE : lt d E0 = true) (hl : lk m d = none) (hfo : ev sl fo = some (.fn f cap)) (hargs : evs sl cap xs = some args)
    (hent : ∀ args w, (callFunc f args).run P w = .ok (.enter f args) w) (hcl : cleanL (fun _ => false) args = true) (hden : DenO P f args k R) (hk : ∀ zs, R zs → AOps P w0 p0 ops rest ⟨n, (d, .own d k 0 zs.length) :: sl, (d, .buf k zs) :: m⟩ Q) :
    AOps P w0 p0 ops (⟨some d, .call { callee := .value fo, args := xs.toArray, argTypes := ts }, ty, ps, af, none⟩ :: rest) ⟨n, sl, m⟩ Q :=
  aops_cons rfl (aop_callO hf rfl hent (dst_of hd) (ev_eq hfo) (evs_eq hargs) hcl (fresh_of hE hl) hden hk)
end

end Go.Abs
