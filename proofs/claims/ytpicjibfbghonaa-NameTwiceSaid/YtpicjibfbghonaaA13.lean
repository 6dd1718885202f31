import Derived.Test.YtpicjibfbghonaaA12
set_option linter.unusedVariables false
set_option linter.unusedSimpArgs false
namespace Go.Abs
open Go Go.RowKit
variable {P : Program} {w0 : World} {p0 : Hp}

def none0 (A : Nat → Prop) : Hp := { o := fun _ => none, A := A }

/-- The contract of a function that writes nothing that was there: called with such arguments it returns a value of which Q holds, in whatever memory. -/
def Den (P : Program) (f : Nat) (args : List AV) (Q : AV → Prop) : Prop :=
  ∀ (A : Nat → Prop) (w : World) (vals : List Value), (∀ b, A b → b < w.heap.size) → RelL w (none0 A) args vals →
    Calls P f vals.toArray w (fun e w' => ∃ v r, e = .returned v ∧ Q r ∧ Ext w (none0 A) w' (none0 A) ∧ RelV w' (none0 A) r v)

theorem Den.mono {f : Nat} {args : List AV} {Q Q' : AV → Prop} (h : Den P f args Q) (hq : ∀ r, Q r → Q' r) : Den P f args Q' :=
  fun A w vals hA hr => (h A w vals hA hr).mono fun _ _ ⟨v, r, h1, h2, h3⟩ => ⟨v, r, h1, hq r h2, h3⟩

def slotsFrom : Nat → List AV → List (Nat × AV)
  | _, [] => []
  | n, a :: r => (n, a) :: slotsFrom (n + 1) r

def retQ (P : Program) (fn : Func) (Q : AV → Prop) : Exit → St → Prop
  | .ret, σ => ∃ r, ares P fn σ = some r ∧ Q (r.conv σ.mem)
  | .normal, σ => ∃ r, ares P fn σ = some r ∧ Q (r.conv σ.mem)
  | _, _ => False

theorem look_slotsFrom : ∀ (l : List AV) (n t : Nat) (a : AV), look (slotsFrom n l) t = some a → n ≤ t ∧ l[t - n]? = some a
  | [], _, _, _, h => by simp [slotsFrom, look] at h
  | b :: l, n, t, a, h => by
    simp only [slotsFrom, look] at h
    split at h
    · rename_i e; subst e; cases h; simp
    · rename_i hne
      obtain ⟨h1, h2⟩ := look_slotsFrom l (n + 1) t a h
      refine ⟨by omega, ?_⟩
      have e : t - n = (t - (n + 1)) + 1 := by omega
      rw [e, List.getElem?_cons_succ]; exact h2

theorem Ext.refl (w : World) (p : Hp) : Ext w p w p :=
  ⟨rfl, ⟨rfl, Nat.le_refl _⟩, rfl, Nat.le_refl _, rfl, fun _ h => ⟨h, rfl⟩, fun _ _ _ => rfl, fun g x h => .inr ⟨h, fun _ _ cur _ hh => ⟨cur, hh, rfl⟩⟩⟩

theorem den_of_aw {f : Nat} {fn : Func} {c : Code} {args : List AV} {Q : AV → Prop} (hf : P.funcs[f]? = some fn) (hb : fn.body = some c) (hn : args.length ≤ fn.ntmps)
    (h : ∀ w0 A, Fit w0 (none0 A) → AW P w0 (none0 A) c ⟨fn.ntmps, slotsFrom 0 args, []⟩ (retQ P fn Q)) : Den P f args Q := by
  intro A w vals hA hr
  refine calls_of_wp hf hb ?_
  have hfit : Fit w (none0 A) := ⟨fun _ _ => rfl, hA⟩
  have hrel : Rel w (none0 A) ⟨fn.ntmps, slotsFrom 0 args, []⟩ { tmps := vals.toArray ++ Array.replicate (fn.ntmps - vals.toArray.size) undef, defers := [] } w := by
    refine ⟨rfl, by have := hr.1; simp; omega, none0 A, Ext.refl _ _, fun t a ht => ?_, ⟨fun _ _ => rfl, fun g m h => by simp [look] at h, (fun g g' b h => by cases h), (fun g b h => by cases h)⟩⟩
    obtain ⟨_, ht⟩ := look_slotsFrom args 0 t a ht
    simp only [Nat.sub_zero] at ht
    have hlt : t < vals.length := by rw [← hr.1]; exact (List.getElem?_eq_some_iff.1 ht).1
    exact ⟨vals[t], by rw [Array.getElem?_append_left (by simpa using hlt)]; simp [hlt], hr.2 t a _ ht (by simp [hlt])⟩
  refine wp_mono (h w A hfit _ w hrel) ?_
  rintro e a' w' ⟨σ', hq, h1, h2, p, hE, hs, hm⟩
  have fin : (∃ r, ares P fn σ' = some r ∧ Q (r.conv σ'.mem)) → a'.defers = [] ∧ ∃ v, (results fn a'.tmps).run P w' = .ok v w' ∧ ∃ v' r, Ending.returned v = .returned v' ∧ Q r ∧ Ext w (none0 A) w' (none0 A) ∧ RelV w' (none0 A) r v' := by
    rintro ⟨r, hres, hQ⟩
    obtain ⟨v, hv, hrv⟩ := ares_run hs hm r hres
    have hc := hrv.conv hm
    have hbare : p.bare = none0 A := by simp [Hp.bare, none0, hE.A]
    rw [hbare] at hc
    exact ⟨h1, v, hv, v, _, rfl, hQ, ⟨hE.os, hE.tape, hE.output, hE.size, rfl, fun b hb => ⟨hbare ▸ (hE.stab b hb).1.bare, (hE.stab b hb).2⟩, hE.others, fun g x hx => by cases hx⟩, hc⟩
  cases e with
  | normal => exact fin hq
  | ret => exact fin hq
  | _ => exact hq.elim

mutual
theorem AV.clean_true : ∀ a : AV, a.clean (fun _ => true) = true
  | .s _ => rfl
  | .sl _ _ => rfl
  | .adr _ => rfl
  | .bad => rfl
  | .own _ _ _ _ => rfl
  | .ref _ _ _ _ => rfl
  | .agg cs => by simp only [AV.clean]; exact cleanL_true cs
  | .tup cs => by simp only [AV.clean]; exact cleanL_true cs
  | .fn _ cs => by simp only [AV.clean]; exact cleanL_true cs
theorem cleanL_true : ∀ cs : List AV, cleanL (fun _ => true) cs = true
  | [] => rfl
  | c :: cs => by simp only [cleanL, AV.clean_true c, cleanL_true cs]; rfl
end

mutual
/-- It holds no address. -/
def AV.flat : AV → Bool
  | .s _ => true
  | .agg cs => flatL cs
  | .tup cs => flatL cs
  | _ => false
def flatL : List AV → Bool
  | [] => true
  | c :: cs => c.flat && flatL cs
end
theorem flatL_mem : ∀ {cs : List AV}, flatL cs = true → ∀ c ∈ cs, c.flat = true
  | [], _, _, hc => by simp at hc
  | x :: cs, h, c, hc => by
    simp only [flatL, Bool.and_eq_true] at h
    rcases List.mem_cons.1 hc with rfl | hc
    · exact h.1
    · exact flatL_mem h.2 c hc
theorem RelV.flat {w : World} {p : Hp} {a : AV} {v : Value} (h : RelV w p a v) (w' : World) (q : Hp) : a.flat = true → RelV w' q a v := by
  induction h with
  | s v => exact fun _ => .s v
  | agg cs vs hl _ ih => exact fun hc => .agg cs vs hl fun i c v h1 h2 => ih i c v h1 h2 (flatL_mem hc c (List.mem_of_getElem? h1))
  | tup cs vs hl _ ih => exact fun hc => .tup cs vs hl fun i c v h1 h2 => ih i c v h1 h2 (flatL_mem hc c (List.mem_of_getElem? h1))
  | _ => exact fun hc => by simp [AV.flat] at hc

theorem AOp.le {o : Oper} {σ σ' : St} {K : St → Prop} (hl : Le σ σ') (h : AOp P w0 p0 o σ' K) : AOp P w0 p0 o σ K :=
  fun a w next Q hr hn => h a w next Q (hl _ _ _ _ hr) hn

/-- The blocks of others, and those of this call's own. -/
def Hp.all (p : Hp) : Nat → Prop := fun b => p.A b ∨ ∃ g, p.o g = some (some b)

theorem keeps_call {w : World} {p : Hp} {mem : Mem} (hm : MemRel w p mem) {A : Nat → Prop} {w' : World} (hE : Ext w (none0 A) w' (none0 A)) : Keeps w p w' p := by
  have hsame : ∀ b, b < w.heap.size → w'.heap[b]? = w.heap[b]? := fun b hb => by
    by_cases hA : A b
    · exact hE.others b hb hA
    · exact (hE.stab b ⟨hb, (fun g h => by cases h), hA⟩).2
  exact ⟨fun b hb => ⟨⟨Nat.lt_of_lt_of_le hb.1 hE.size, hb.2⟩, hsame b hb.1⟩, fun _ _ h => h, fun g b hg cur T hh => ⟨cur, by rw [hsame b (hm.lt hg)]; exact hh, rfl⟩⟩

theorem rel_call {σ : St} {a : Act} {w : World} {p : Hp} (h1 : a.defers = []) (h2 : a.tmps.size = σ.n) (hE0 : Ext w0 p0 w p) (hs : SlotsRel w p σ.slots a.tmps) (hm : MemRel w p σ.mem) {A : Nat → Prop} {w' : World} (hE : Ext w (none0 A) w' (none0 A))
    (d : Option Nat) (hd : ∀ x, d = some x → x < σ.n) {r : AV} {v : Value} (hv : RelV w' p r v) : Rel w0 p0 (σ.putO d r) (a.put d v) w' := by
  have hk := keeps_call hm hE
  have hsame : ∀ b, b < w.heap.size → w'.heap[b]? = w.heap[b]? := fun b hb => by
    by_cases hA : A b
    · exact hE.others b hb hA
    · exact (hE.stab b ⟨hb, (fun g h => by cases h), hA⟩).2
  have hE' : Ext w0 p0 w' p := hE0.step hk hE.os hE.tape hE.output hE.size rfl (fun b hb _ => hsame b hb) (fun g h1 h2 => absurd h1 h2)
  have hm' : MemRel w' p σ.mem := ⟨hm.dom, fun g m hl => (hm.holds g m hl).keep hk fun b hb => hsame b (hm.lt hb), hm.inj, hm.avoid⟩
  cases d with
  | none => exact ⟨h1, h2, p, hE', hs.keep hk, hm'⟩
  | some d => exact ⟨h1, by simpa [Act.put, St.putO, St.put] using h2, p, hE', (hs.keep hk).put (by rw [h2]; exact hd d rfl) hv, hm'⟩

theorem call_run {o : Oper} {σ : St} {act : Act} {w : World} {p : Hp} {fo : Operand} {xs : List Operand} {ts : Array TypeId} {f : Nat} {cap : List AV} (ho : o.op = .call { callee := .value fo, args := xs.toArray, argTypes := ts })
    (hent : ∀ args w, (callFunc f args).run P w = .ok (.enter f args) w) (hs : SlotsRel w p σ.slots act.tmps) (hfo : σ.ev fo = .fn f cap) :
    ∃ vals, (execOp act.eval o).run P w = .ok (.enter f vals.toArray) w ∧ RelL w p (xs.map σ.ev ++ cap) vals := by
  have h1 := ev_rel hs fo
  rw [hfo] at h1
  generalize hv : act.eval fo = v at *
  cases h1 with
  | fn _ _ vs hl h =>
    refine ⟨xs.map act.eval ++ vs.toList, by simp [execOp, ho, resolve, hv, Deferred.ofValue, invoke, hent], by simp [hl], fun i c u hc hu => ?_⟩
    by_cases hlt : i < xs.length
    · rw [List.getElem?_append_left (by simpa using hlt), List.getElem?_map] at hc hu
      simp [hlt] at hc hu
      subst hc; subst hu; exact ev_rel hs _
    · rw [List.getElem?_append_right (by simpa using hlt)] at hc hu
      simp only [List.length_map] at hc hu
      exact h _ c u hc (by simpa using hu)

/-- A call whose arguments hold nothing of this call's own. -/
theorem aop_callA {o : Oper} {σ : St} {K : St → Prop} (hf : Fit w0 p0) {fo : Operand} {xs : List Operand} {ts : Array TypeId} {f : Nat} {cap : List AV} {Q : AV → Prop} (ho : o.op = .call { callee := .value fo, args := xs.toArray, argTypes := ts })
    (hent : ∀ args w, (callFunc f args).run P w = .ok (.enter f args) w) (hd : ∀ x, o.dst = some x → x < σ.n) (hfo : σ.ev fo = .fn f cap) (hcl : ∀ a ∈ xs.map σ.ev ++ cap, a.clean (fun _ => false) = true)
    (hden : Den P f (xs.map σ.ev ++ cap) Q) (hK : ∀ r, Q r → K (σ.putO o.dst r)) : AOp P w0 p0 o σ K := by
  intro a w next Q' ⟨h1, h2, p, hE, hs, hm⟩ hn
  obtain ⟨vals, hrun, hrel⟩ := call_run (P := P) ho hent hs hfo
  unfold Oper.wp
  rw [hrun]
  simp only [Oper.upon]
  have hA : ∀ b, p.all b → b < w.heap.size := fun b hb => by
    rcases hb with hb | ⟨g, hg⟩
    · exact Nat.lt_of_lt_of_le (hf.others b (hE.A ▸ hb)) hE.size
    · exact hm.lt hg
  refine (hden p.all w vals hA ⟨hrel.1, fun i c v hc hv => (hrel.2 i c v hc hv).move (ok := fun _ => false) (fun b hb => ⟨⟨hb.1, (fun _ h => by cases h), ?_⟩, rfl⟩) (fun _ _ h => by cases h) (hcl c (List.mem_of_getElem? hc))⟩).mono ?_
  · rintro (h | ⟨g, hg⟩)
    · exact hb.2.2 h
    · exact hb.2.1 g hg
  · rintro e w' ⟨v, r, rfl, hQ, hE', hr⟩
    refine hn _ _ _ (hK r hQ) (rel_call h1 h2 hE hs hm hE' o.dst hd ?_)
    refine hr.move (p := none0 p.all) (q := p) (ok := fun _ => true) (fun b (hb : Stable w' (none0 p.all) b) => ⟨⟨hb.1, fun g hg => hb.2.2 (Or.inr ⟨g, hg⟩ : p.all b), fun h => hb.2.2 (Or.inl h : p.all b)⟩, rfl⟩) (fun _ _ _ h => by cases h) (AV.clean_true r)

/-- A call that is told what this call's own blocks hold, and hands back no address. -/
theorem aop_callB {o : Oper} {σ : St} {K : St → Prop} (hf : Fit w0 p0) {fo : Operand} {xs : List Operand} {ts : Array TypeId} {f : Nat} {cap : List AV} {Q : AV → Prop} (ho : o.op = .call { callee := .value fo, args := xs.toArray, argTypes := ts })
    (hent : ∀ args w, (callFunc f args).run P w = .ok (.enter f args) w) (hd : ∀ x, o.dst = some x → x < σ.n) (hfo : σ.ev fo = .fn f cap)
    (hden : Den P f ((xs.map σ.ev ++ cap).map (AV.conv σ.mem)) Q) (hfl : ∀ r, Q r → r.flat = true) (hK : ∀ r, Q r → K (σ.putO o.dst r)) : AOp P w0 p0 o σ K := by
  intro a w next Q' ⟨h1, h2, p, hE, hs, hm⟩ hn
  obtain ⟨vals, hrun, hrel⟩ := call_run (P := P) ho hent hs hfo
  unfold Oper.wp
  rw [hrun]
  simp only [Oper.upon]
  have hA : ∀ b, p.A b → b < w.heap.size := fun b hb => Nat.lt_of_lt_of_le (hf.others b (hE.A ▸ hb)) hE.size
  refine (hden p.A w vals hA ⟨by simpa using hrel.1, fun i c v hc hv => ?_⟩).mono ?_
  · rw [List.getElem?_map] at hc
    cases hi : (xs.map σ.ev ++ cap)[i]? with
    | none => simp [hi] at hc
    | some c' => simp [hi] at hc; subst hc; exact (hrel.2 i c' v hi hv).conv hm
  · rintro e w' ⟨v, r, rfl, hQ, hE', hr⟩
    exact hn _ _ _ (hK r hQ) (rel_call h1 h2 hE hs hm hE' o.dst hd (hr.flat _ _ (hfl r hQ)))

end Go.Abs
