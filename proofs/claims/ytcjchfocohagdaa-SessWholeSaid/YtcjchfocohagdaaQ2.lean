import Derived.Test.YtcjchfocohagdaaQ1
set_option linter.unusedVariables false
set_option linter.unusedSimpArgs false
namespace Go.Abs
open Go Go.RowKit
variable {P : Program} {w0 : World} {p0 : Hp}

def none0 (A : Nat → Prop) : Hp := { o := fun _ => none, A := A }

/-- The contract of a function that writes nothing that was there: called with such arguments it returns a value of which Q holds, in whatever memory. -/
def Den (P : Program) (f : Nat) (args : List AV) (Q : AV → Prop) : Prop :=
  ∀ (A : Nat → Prop) (w : World) (vals : List Value), (∀ b, A b → b < w.heap.size) → RelL w (none0 A) args vals →
    Calls P f vals.toArray w (fun e w' => ∃ v r, e = .returned v ∧ Q r ∧ Ext w (none0 A) w' (none0 A) ∧ RelV w' (none0 A) r v)

theorem Den.mono {f : Nat} {args : List AV} {Q Q' : AV → Prop} (h : Den P f args Q) (hq : ∀ r, Q r → Q' r) : Den P f args Q' :=
  fun A w vals hA hr => (h A w vals hA hr).mono fun _ _ ⟨v, r, h1, h2, h3⟩ => ⟨v, r, h1, hq r h2, h3⟩

def slotsFrom : Nat → List AV → List (Nat × AV)
  | _, [] => []
  | n, a :: r => (n, a) :: slotsFrom (n + 1) r

def retQ (P : Program) (fn : Func) (Q : AV → Prop) : Exit → St → Prop
  | .ret, σ => ∃ r, ares P fn σ = some r ∧ Q (r.conv σ.mem)
  | .normal, σ => ∃ r, ares P fn σ = some r ∧ Q (r.conv σ.mem)
  | _, _ => False

theorem look_slotsFrom : ∀ (l : List AV) (n t : Nat) (a : AV), look (slotsFrom n l) t = some a → n ≤ t ∧ l[t - n]? = some a
  | [], _, _, _, h => by simp [slotsFrom, look] at h
  | b :: l, n, t, a, h => by
    simp only [slotsFrom, look] at h
    split at h
    · rename_i e; subst e; cases h; simp
    · rename_i hne
      obtain ⟨h1, h2⟩ := look_slotsFrom l (n + 1) t a h
      refine ⟨by omega, ?_⟩
      have e : t - n = (t - (n + 1)) + 1 := by omega
      rw [e, List.getElem?_cons_succ]; exact h2

theorem Ext.refl (w : World) (p : Hp) : Ext w p w p :=
  ⟨rfl, ⟨rfl, Nat.le_refl _⟩, rfl, Nat.le_refl _, rfl, fun _ h => ⟨h, rfl⟩, fun _ _ _ => rfl, fun g x h => .inr ⟨h, fun _ _ cur _ hh => ⟨cur, hh, rfl⟩⟩⟩

theorem den_of_aw {f : Nat} {fn : Func} {c : Code} {args : List AV} {Q : AV → Prop} (hf : P.funcs[f]? = some fn) (hb : fn.body = some c) (hn : args.length ≤ fn.ntmps)
    (h : ∀ w0 A, Fit w0 (none0 A) → AW P w0 (none0 A) c ⟨fn.ntmps, slotsFrom 0 args, []⟩ (retQ P fn Q)) : Den P f args Q := by
  intro A w vals hA hr
  refine calls_of_wp hf hb ?_
  have hfit : Fit w (none0 A) := ⟨fun _ _ => rfl, hA⟩
  have hrel : Rel w (none0 A) ⟨fn.ntmps, slotsFrom 0 args, []⟩ { tmps := vals.toArray ++ Array.replicate (fn.ntmps - vals.toArray.size) undef, defers := [] } w := by
    refine ⟨rfl, by have := hr.1; simp; omega, none0 A, Ext.refl _ _, fun t a ht => ?_, ⟨fun _ _ => rfl, fun g m h => by simp [look] at h, (fun g g' b h => by cases h), (fun g b h => by cases h)⟩⟩
    obtain ⟨_, ht⟩ := look_slotsFrom args 0 t a ht
    simp only [Nat.sub_zero] at ht
    have hlt : t < vals.length := by rw [← hr.1]; exact (List.getElem?_eq_some_iff.1 ht).1
    exact ⟨vals[t], by rw [Array.getElem?_append_left (by simpa using hlt)]; simp [hlt], hr.2 t a _ ht (by simp [hlt])⟩
  refine wp_mono (h w A hfit _ w hrel) ?_
  rintro e a' w' ⟨σ', hq, h1, h2, p, hE, hs, hm⟩
  have fin : (∃ r, ares P fn σ' = some r ∧ Q (r.conv σ'.mem)) → a'.defers = [] ∧ ∃ v, (results fn a'.tmps).run P w' = .ok v w' ∧ ∃ v' r, Ending.returned v = .returned v' ∧ Q r ∧ Ext w (none0 A) w' (none0 A) ∧ RelV w' (none0 A) r v' := by
    rintro ⟨r, hres, hQ⟩
    obtain ⟨v, hv, hrv⟩ := ares_run hs hm r hres
    have hc := hrv.conv hm
    have hbare : p.bare = none0 A := by simp [Hp.bare, none0, hE.A]
    rw [hbare] at hc
    exact ⟨h1, v, hv, v, _, rfl, hQ, ⟨hE.os, hE.tape, hE.output, hE.size, rfl, fun b hb => ⟨hbare ▸ (hE.stab b hb).1.bare, (hE.stab b hb).2⟩, hE.others, fun g x hx => by cases hx⟩, hc⟩
  cases e with
  | normal => exact fin hq
  | ret => exact fin hq
  | _ => exact hq.elim

mutual
theorem AV.clean_true : ∀ a : AV, a.clean (fun _ => true) = true
  | .s _ => rfl
  | .sl _ _ => rfl
  | .adr _ => rfl
  | .bad => rfl
  | .own _ _ _ _ => rfl
  | .ref _ _ _ _ => rfl
  | .agg cs => by simp only [AV.clean]; exact cleanL_true cs
  | .tup cs => by simp only [AV.clean]; exact cleanL_true cs
  | .fn _ cs => by simp only [AV.clean]; exact cleanL_true cs
theorem cleanL_true : ∀ cs : List AV, cleanL (fun _ => true) cs = true
  | [] => rfl
  | c :: cs => by simp only [cleanL, AV.clean_true c, cleanL_true cs]; rfl
end

mutual
/-- It holds no address. -/
def AV.flat : AV → Bool
  | .s _ => true
  | .agg cs => flatL cs
  | .tup cs => flatL cs
  | _ => false
def flatL : List AV → Bool
  | [] => true
  | c :: cs => c.flat && flatL cs
end
theorem flatL_mem : ∀ {cs : List AV}, flatL cs = true → ∀ c ∈ cs, c.flat = true
  | [], _, _, hc => by simp at hc
  | x :: cs, h, c, hc => by
    simp only [flatL, Bool.and_eq_true] at h
    rcases List.mem_cons.1 hc with rfl | hc
    · exact h.1
    · exact flatL_mem h.2 c hc
theorem RelV.flat {w : World} {p : Hp} {a : AV} {v : Value} (h : RelV w p a v) (w' : World) (q : Hp) : a.flat = true → RelV w' q a v := by
  induction h with
  | s v => exact fun _ => .s v
  | agg cs vs hl _ ih => exact fun hc => .agg cs vs hl fun i c v h1 h2 => ih i c v h1 h2 (flatL_mem hc c (List.mem_of_getElem? h1))
  | tup cs vs hl _ ih => exact fun hc => .tup cs vs hl fun i c v h1 h2 => ih i c v h1 h2 (flatL_mem hc c (List.mem_of_getElem? h1))
  | _ => exact fun hc => by simp [AV.flat] at hc

theorem AOp.le {o : Oper} {σ σ' : St} {K : St → Prop} (hl : Le σ σ') (h : AOp P w0 p0 o σ' K) : AOp P w0 p0 o σ K :=
  fun a w next Q hr hn => h a w next Q (hl _ _ _ _ hr) hn

/-- The blocks of others, and those of this call's own. -/
def Hp.all (p : Hp) : Nat → Prop := fun b => p.A b ∨ ∃ g, p.o g = some (some b)

theorem keeps_call {w : World} {p : Hp} {mem : Mem} (hm : MemRel w p mem) {A : Nat → Prop} {w' : World} (hE : Ext w (none0 A) w' (none0 A)) : Keeps w p w' p := by
  have hsame : ∀ b, b < w.heap.size → w'.heap[b]? = w.heap[b]? := fun b hb => by
    by_cases hA : A b
    · exact hE.others b hb hA
    · exact (hE.stab b ⟨hb, (fun g h => by cases h), hA⟩).2
  exact ⟨fun b hb => ⟨⟨Nat.lt_of_lt_of_le hb.1 hE.size, hb.2⟩, hsame b hb.1⟩, fun _ _ h => h, fun g b hg cur T hh => ⟨cur, by rw [hsame b (hm.lt hg)]; exact hh, rfl⟩⟩

theorem rel_call {σ : St} {a : Act} {w : World} {p : Hp} (h1 : a.defers = []) (h2 : a.tmps.size = σ.n) (hE0 : Ext w0 p0 w p) (hs : SlotsRel w p σ.slots a.tmps) (hm : MemRel w p σ.mem) {A : Nat → Prop} {w' : World} (hE : Ext w (none0 A) w' (none0 A))
    (d : Option Nat) (hd : ∀ x, d = some x → x < σ.n) {r : AV} {v : Value} (hv : RelV w' p r v) : Rel w0 p0 (σ.putO d r) (a.put d v) w' := by
  have hk := keeps_call hm hE
  have hsame : ∀ b, b < w.heap.size → w'.heap[b]? = w.heap[b]? := fun b hb => by
    by_cases hA : A b
    · exact hE.others b hb hA
    · exact (hE.stab b ⟨hb, (fun g h => by cases h), hA⟩).2
  have hE' : Ext w0 p0 w' p := hE0.step hk hE.os hE.tape hE.output hE.size rfl (fun b hb _ => hsame b hb) (fun g h1 h2 => absurd h1 h2)
  have hm' : MemRel w' p σ.mem := ⟨hm.dom, fun g m hl => (hm.holds g m hl).keep hk fun b hb => hsame b (hm.lt hb), hm.inj, hm.avoid⟩
  cases d with
  | none => exact ⟨h1, h2, p, hE', hs.keep hk, hm'⟩
  | some d => exact ⟨h1, by simpa [Act.put, St.putO, St.put] using h2, p, hE', (hs.keep hk).put (by rw [h2]; exact hd d rfl) hv, hm'⟩

theorem call_run {o : Oper} {σ : St} {act : Act} {w : World} {p : Hp} {fo : Operand} {xs : List Operand} {ts : Array TypeId} {f : Nat} {cap : List AV} (ho : o.op = .call { callee := .value fo, args := xs.toArray, argTypes := ts })
    (hent : ∀ args w, (callFunc f args).run P w = .ok (.enter f args) w) (hs : SlotsRel w p σ.slots act.tmps) (hfo : σ.ev fo = .fn f cap) :
    ∃ vals, (execOp act.eval o).run P w = .ok (.enter f vals.toArray) w ∧ RelL w p (xs.map σ.ev ++ cap) vals := by
  have h1 := ev_rel hs fo
  rw [hfo] at h1
  generalize hv : act.eval fo = v at *
  cases h1 with
  | fn _ _ vs hl h =>
    refine ⟨xs.map act.eval ++ vs.toList, by simp [execOp, ho, resolve, hv, Deferred.ofValue, invoke, hent], by simp [hl], fun i c u hc hu => ?_⟩
    by_cases hlt : i < xs.length
    · rw [List.getElem?_append_left (by simpa using hlt), List.getElem?_map] at hc hu
      simp [hlt] at hc hu
      subst hc; subst hu; exact ev_rel hs _
    · rw [List.getElem?_append_right (by simpa using hlt)] at hc hu
      simp only [List.length_map] at hc hu
      exact h _ c u hc (by simpa using hu)

/-- A call whose arguments hold nothing of this call's own. -/
theorem aop_callA {o : Oper} {σ : St} {K : St → Prop} (hf : Fit w0 p0) {fo : Operand} {xs : List Operand} {ts : Array TypeId} {f : Nat} {cap : List AV} {Q : AV → Prop} (ho : o.op = .call { callee := .value fo, args := xs.toArray, argTypes := ts })
    (hent : ∀ args w, (callFunc f args).run P w = .ok (.enter f args) w) (hd : ∀ x, o.dst = some x → x < σ.n) (hfo : σ.ev fo = .fn f cap) (hcl : ∀ a ∈ xs.map σ.ev ++ cap, a.clean (fun _ => false) = true)
    (hden : Den P f (xs.map σ.ev ++ cap) Q) (hK : ∀ r, Q r → K (σ.putO o.dst r)) : AOp P w0 p0 o σ K := by
  intro a w next Q' ⟨h1, h2, p, hE, hs, hm⟩ hn
  obtain ⟨vals, hrun, hrel⟩ := call_run (P := P) ho hent hs hfo
  unfold Oper.wp
  rw [hrun]
  simp only [Oper.upon]
  have hA : ∀ b, p.all b → b < w.heap.size := fun b hb => by
    rcases hb with hb | ⟨g, hg⟩
    · exact Nat.lt_of_lt_of_le (hf.others b (hE.A ▸ hb)) hE.size
    · exact hm.lt hg
  refine (hden p.all w vals hA ⟨hrel.1, fun i c v hc hv => (hrel.2 i c v hc hv).move (ok := fun _ => false) (fun b hb => ⟨⟨hb.1, (fun _ h => by cases h), ?_⟩, rfl⟩) (fun _ _ h => by cases h) (hcl c (List.mem_of_getElem? hc))⟩).mono ?_
  · rintro (h | ⟨g, hg⟩)
    · exact hb.2.2 h
    · exact hb.2.1 g hg
  · rintro e w' ⟨v, r, rfl, hQ, hE', hr⟩
    refine hn _ _ _ (hK r hQ) (rel_call h1 h2 hE hs hm hE' o.dst hd ?_)
    refine hr.move (p := none0 p.all) (q := p) (ok := fun _ => true) (fun b (hb : Stable w' (none0 p.all) b) => ⟨⟨hb.1, fun g hg => hb.2.2 (Or.inr ⟨g, hg⟩ : p.all b), fun h => hb.2.2 (Or.inl h : p.all b)⟩, rfl⟩) (fun _ _ _ h => by cases h) (AV.clean_true r)

/-- A call that is told what this call's own blocks hold, and hands back no address. -/
theorem aop_callB {o : Oper} {σ : St} {K : St → Prop} (hf : Fit w0 p0) {fo : Operand} {xs : List Operand} {ts : Array TypeId} {f : Nat} {cap : List AV} {Q : AV → Prop} (ho : o.op = .call { callee := .value fo, args := xs.toArray, argTypes := ts })
    (hent : ∀ args w, (callFunc f args).run P w = .ok (.enter f args) w) (hd : ∀ x, o.dst = some x → x < σ.n) (hfo : σ.ev fo = .fn f cap)
    (hden : Den P f ((xs.map σ.ev ++ cap).map (AV.conv σ.mem)) Q) (hfl : ∀ r, Q r → r.flat = true) (hK : ∀ r, Q r → K (σ.putO o.dst r)) : AOp P w0 p0 o σ K := by
  intro a w next Q' ⟨h1, h2, p, hE, hs, hm⟩ hn
  obtain ⟨vals, hrun, hrel⟩ := call_run (P := P) ho hent hs hfo
  unfold Oper.wp
  rw [hrun]
  simp only [Oper.upon]
  have hA : ∀ b, p.A b → b < w.heap.size := fun b hb => Nat.lt_of_lt_of_le (hf.others b (hE.A ▸ hb)) hE.size
  refine (hden p.A w vals hA ⟨by simpa using hrel.1, fun i c v hc hv => ?_⟩).mono ?_
  · rw [List.getElem?_map] at hc
    cases hi : (xs.map σ.ev ++ cap)[i]? with
    | none => simp [hi] at hc
    | some c' => simp [hi] at hc; subst hc; exact (hrel.2 i c' v hi hv).conv hm
  · rintro e w' ⟨v, r, rfl, hQ, hE', hr⟩
    exact hn _ _ _ (hK r hQ) (rel_call h1 h2 hE hs hm hE' o.dst hd (hr.flat _ _ (hfl r hQ)))

end Go.Abs
set_option linter.unusedVariables false
set_option linter.unusedSimpArgs false
namespace Go.Abs
open Go Go.RowKit
variable {P : Program} {w0 : World} {p0 : Hp}

mutual
/-- The value as it reads once all names but those that are ok are given up. -/
def AV.only (ok : Nat → Bool) (mem : Mem) : AV → AV
  | .own g k off n => if ok g then .own g k off n else match look mem g with
    | some (.buf k' xs) => if (k = k' ∨ n = 0) ∧ off + n ≤ xs.length then .sl k ((xs.drop off).take n) else .bad
    | _ => .bad
  | .ref g k j f => if ok g then .ref g k j f else match look mem g with
    | some m => if (m.at k j f).all AV.leaf then .adr (m.at k j f) else .bad
    | none => .bad
  | .agg cs => .agg (onlyL ok mem cs)
  | .tup cs => .tup (onlyL ok mem cs)
  | .fn f cs => .fn f (onlyL ok mem cs)
  | .s v => .s v
  | .sl k xs => .sl k xs
  | .adr cs => .adr cs
  | .bad => .bad
def onlyL (ok : Nat → Bool) (mem : Mem) : List AV → List AV
  | [] => []
  | c :: cs => c.only ok mem :: onlyL ok mem cs
end
theorem onlyL_eq (ok : Nat → Bool) (mem : Mem) : ∀ cs, onlyL ok mem cs = cs.map (AV.only ok mem)
  | [] => rfl
  | c :: cs => by simp [onlyL, onlyL_eq ok mem cs]
theorem AV.only_leaf {ok : Nat → Bool} {mem : Mem} {c : AV} (h : c.leaf = true) : c.only ok mem = c := by cases c <;> first | rfl | (simp [AV.leaf] at h)

def Hp.only (ok : Nat → Bool) (p : Hp) : Hp := { o := fun g => if ok g then p.o g else none, A := p.A }
def Mem.only (ok : Nat → Bool) (mem : Mem) : Mem → Mem
  | [] => []
  | (g, m) :: r => if ok g then (g, match m with | .box cs => .box (onlyL ok mem cs) | m => m) :: Mem.only ok mem r else Mem.only ok mem r
def St.only (ok : Nat → Bool) (σ : St) : St := { n := σ.n, slots := σ.slots.map fun x => (x.1, x.2.only ok σ.mem), mem := Mem.only ok σ.mem σ.mem }

theorem Stable.only {w : World} {p : Hp} {ok : Nat → Bool} {b : Nat} (h : Stable w p b) : Stable w (p.only ok) b :=
  ⟨h.1, (fun g hg => by simp only [Hp.only] at hg; split at hg; exact h.2.1 g hg; cases hg), h.2.2⟩
theorem MemRel.only_stable {w : World} {p : Hp} {mem : Mem} (hm : MemRel w p mem) {ok : Nat → Bool} {g b : Nat} (hg : p.o g = some (some b)) (hok : ok g = false) : Stable w (p.only ok) b :=
  ⟨hm.lt hg, (fun g' h => by
    simp only [Hp.only] at h
    split at h
    · rename_i h2
      have := hm.inj g g' b hg h
      subst this; rw [hok] at h2; cases h2
    · cases h), hm.avoid g b hg⟩

theorem RelV.leaf_only {w : World} {p : Hp} {ok : Nat → Bool} {c : AV} {v : Value} (h : RelV w p c v) (hc : c.leaf = true) : RelV w (p.only ok) c v :=
  h.move (ok := fun _ => false) (fun b hb => ⟨hb.only, rfl⟩) (fun g x h _ => by cases h) (AV.clean_of_leaf hc)

theorem RelV.only {w : World} {p : Hp} {mem : Mem} (hm : MemRel w p mem) (ok : Nat → Bool) {a : AV} {v : Value} (h : RelV w p a v) : RelV w (p.only ok) (a.only ok mem) v := by
  induction h with
  | s v => exact .s v
  | agg cs vs hl _ ih =>
    simp only [AV.only, onlyL_eq]
    refine .agg _ vs (by simpa using hl) fun i c v h1 h2 => ?_
    rw [List.getElem?_map] at h1
    cases hi : cs[i]? with
    | none => simp [hi] at h1
    | some c' => simp [hi] at h1; subst h1; exact ih i c' v hi h2
  | tup cs vs hl _ ih =>
    simp only [AV.only, onlyL_eq]
    refine .tup _ vs (by simpa using hl) fun i c v h1 h2 => ?_
    rw [List.getElem?_map] at h1
    cases hi : cs[i]? with
    | none => simp [hi] at h1
    | some c' => simp [hi] at h1; subst h1; exact ih i c' v hi h2
  | fn f cs vs hl _ ih =>
    simp only [AV.only, onlyL_eq]
    refine .fn f _ vs (by simpa using hl) fun i c v h1 h2 => ?_
    rw [List.getElem?_map] at h1
    cases hi : cs[i]? with
    | none => simp [hi] at h1
    | some c' => simp [hi] at h1; subst h1; exact ih i c' v hi h2
  | sln k a cap hcap => exact .sln k a cap hcap
  | slc k xs b off cap f hb hn' hcap hkk hc hr ih =>
    exact .slc k xs b off cap f hb.only hn' hcap hkk hc (fun j x i c hj hi => by
      have := ih j x i c hj hi
      rwa [AV.only_leaf ((hkk x (List.mem_of_getElem? hj)).2 c (List.mem_of_getElem? hi))] at this)
  | adr cs b off f hb hkk hc hr ih =>
    exact .adr cs b off f hb.only hkk hc (fun i c hi => by
      have := ih i c hi
      rwa [AV.only_leaf (hkk c (List.mem_of_getElem? hi))] at this)
  | bad v => exact .bad v
  | ownn g k hg =>
    simp only [AV.only]
    split
    · rename_i hok; exact .ownn g k (by simp [Hp.only, hok, hg])
    · split
      · split
        · simp only [List.drop_zero, List.take_zero] at *
          exact .sln k none 0 (by simp)
        · exact .bad _
      · exact .bad _
  | own0 g k off b a hg =>
    simp only [AV.only]
    split
    · rename_i hok; exact .own0 g k off b a (by simp [Hp.only, hok, hg])
    · split
      · split
        · simp only [List.take_zero]
          exact .sln k _ 0 (by simp)
        · exact .bad _
      · exact .bad _
  | own g k off n b cap cur T hg hn' hcap hh hsz =>
    simp only [AV.only]
    split
    · rename_i hok; exact .own g k off n b cap cur T (by simp [Hp.only, hok, hg]) hn' hcap hh hsz
    · rename_i hok
      split
      · rename_i k' xs hl
        split
        · rename_i hc
          obtain ⟨hk, hlen⟩ := hc
          by_cases hn0 : n = 0
          · subst hn0
            simp only [List.take_zero]
            exact .sln k _ cap hcap
          · have hk' : k = k' := by rcases hk with h | h; exact h; exact absurd h hn0
            subst hk'
            rcases hm.holds g _ hl with ⟨rfl, _⟩ | ⟨b', cur', T', e1, e2, e3, e4, e5⟩
            · simp at hlen; omega
            · rw [hg] at e1; cases e1
              rw [hh] at e2; cases e2
              have hlen' : ((xs.drop off).take n).length = n := by simp; omega
              have hget : ∀ j x, ((xs.drop off).take n)[j]? = some x → xs[off + j]? = some x := fun j x h => by
                rw [List.getElem?_take] at h
                split at h
                · rwa [List.getElem?_drop] at h
                · cases h
              have key := RelV.slc (w := w) (p := p.only ok) k ((xs.drop off).take n) b (off * k) cap (fun j i => (cur[(off + j) * k + i]?).getD undef) (hm.only_stable hg (by simpa using hok)) (by rw [hlen']; exact hn') hcap
                (fun x hx => e4 x (List.mem_of_mem_drop (List.mem_of_mem_take hx)))
                (fun j x i c hj hi => by
                  obtain ⟨u, hu, _⟩ := e5 _ x i c (hget j x hj) hi
                  have e : off * k + j * k + i = (off + j) * k + i := by rw [Nat.add_mul]
                  rw [cell_of_heap hh, e, hu]; rfl)
                (fun j x i c hj hi => by
                  obtain ⟨u, hu, hr⟩ := e5 _ x i c (hget j x hj) hi
                  rw [hu]
                  exact hr.leaf_only ((e4 x (List.mem_of_getElem? (hget j x hj))).2 c (List.mem_of_getElem? hi)))
              rwa [hlen'] at key
        · exact .bad _
      · exact .bad _
  | ref g k j f b hg =>
    simp only [AV.only]
    split
    · rename_i hok; exact .ref g k j f b (by simp [Hp.only, hok, hg])
    · rename_i hok
      split
      · rename_i m hl
        split
        · rename_i hall
          have hall' : ∀ c ∈ m.at k j f, c.leaf = true := by simpa using hall
          exact .adr (m.at k j f) b (j * k + f) (fun i => (w.cell? ⟨b, j * k + f + i, none⟩).getD undef) (hm.only_stable hg (by simpa using hok)) hall'
            (fun i c hi => by obtain ⟨u, hu, _⟩ := (hm.holds g m hl).at hg i c hi; rw [hu]; rfl)
            (fun i c hi => by
              obtain ⟨u, hu, hr⟩ := (hm.holds g m hl).at hg i c hi
              rw [hu]; exact hr.leaf_only (hall' c (List.mem_of_getElem? hi)))
        · exact .bad _
      · exact .bad _

theorem look_memOnly (ok : Nat → Bool) (mem : Mem) : ∀ (l : Mem) (g : Nat), look (Mem.only ok mem l) g = if ok g then (look l g).map (fun m => match m with | .box cs => .box (onlyL ok mem cs) | m => m) else none
  | [], g => by simp [Mem.only, look]
  | (d, m) :: r, g => by
    simp only [Mem.only]
    by_cases hd : ok d = true
    · rw [if_pos hd]
      simp only [look]
      by_cases e : d = g
      · subst e; simp [hd]
      · rw [if_neg e, if_neg e]; exact look_memOnly ok mem r g
    · rw [if_neg hd, look_memOnly ok mem r g]
      simp only [look]
      by_cases e : d = g
      · subst e; simp [hd]
      · rw [if_neg e]

theorem look_map (f : AV → AV) : ∀ (l : List (Nat × AV)) (t : Nat), look (l.map fun x => (x.1, f x.2)) t = (look l t).map f
  | [], _ => rfl
  | (d, a) :: r, t => by
    simp only [List.map_cons, look]
    split
    · rfl
    · exact look_map f r t

theorem Le.only (ok : Nat → Bool) (σ : St) : Le σ (σ.only ok) := by
  intro w0 p0 a w ⟨h1, h2, p, hE, hs, hm⟩
  refine ⟨h1, h2, p.only ok, ⟨hE.os, hE.tape, hE.output, hE.size, hE.A, fun b hb => ⟨(hE.stab b hb).1.only, (hE.stab b hb).2⟩, hE.others, fun g x hx => ?_⟩, fun t b hb => ?_, ?_⟩
  · by_cases hok : ok g = true
    · rcases hE.name g x hx with h | h
      · exact .inl (by simp [Hp.only, h])
      · exact .inr ⟨by simp [Hp.only, hok, h.1], h.2⟩
    · exact .inl (by simp [Hp.only, hok])
  · simp only [St.only, look_map] at hb
    cases hl : look σ.slots t with
    | none => simp [hl] at hb
    | some c =>
      simp [hl] at hb; subst hb
      obtain ⟨v, hv, hr⟩ := hs t c hl
      exact ⟨v, hv, hr.only hm ok⟩
  · refine ⟨fun g hl => ?_, fun g m hl => ?_, fun g g' b e1 e2 => ?_, fun g b e => ?_⟩
    · simp only [St.only, look_memOnly] at hl
      by_cases hok : ok g = true
      · simp [hok] at hl
        simp [Hp.only, hm.dom g hl]
      · simp [Hp.only, hok]
    · simp only [St.only, look_memOnly] at hl
      by_cases hok : ok g = true
      · rw [if_pos hok] at hl
        cases hl' : look σ.mem g with
        | none => simp [hl'] at hl
        | some m' =>
          rw [hl'] at hl
          have := hm.holds g m' hl'
          cases m' with
          | box cs =>
            simp at hl; subst hl
            obtain ⟨b, cur, T, e1, e2, e3, e4⟩ := this
            refine ⟨b, cur, T, by simp [Hp.only, hok, e1], e2, by simpa [onlyL_eq] using e3, fun i c hc => ?_⟩
            rw [onlyL_eq, List.getElem?_map] at hc
            cases hi : cs[i]? with
            | none => simp [hi] at hc
            | some c' =>
              simp [hi] at hc; subst hc
              obtain ⟨v, hv, hr⟩ := e4 i c' hi
              exact ⟨v, hv, hr.only hm ok⟩
          | buf k xs =>
            simp at hl; subst hl
            rcases this with ⟨e0, e1⟩ | ⟨b, cur, T, e1, e2, e3, e4, e5⟩
            · exact .inl ⟨e0, by simp [Hp.only, hok, e1]⟩
            · exact .inr ⟨b, cur, T, by simp [Hp.only, hok, e1], e2, e3, e4, fun j x i c hx hc => by
                obtain ⟨v, hv, hr⟩ := e5 j x i c hx hc
                exact ⟨v, hv, hr.leaf_only ((e4 x (List.mem_of_getElem? hx)).2 c (List.mem_of_getElem? hc))⟩⟩
      · simp [hok] at hl
    · simp only [Hp.only] at e1 e2
      split at e1
      · split at e2
        · exact hm.inj g g' b e1 e2
        · cases e2
      · cases e1
    · simp only [Hp.only] at e
      split at e
      · exact hm.avoid g b e
      · cases e

/-- Fewer slots say less. -/
def covers (f : Nat → Option AV) : List (Nat × AV) → Prop
  | [] => True
  | (t, a) :: r => f t = some a ∧ covers f r
theorem covers_look {f : Nat → Option AV} : ∀ {l : List (Nat × AV)}, covers f l → ∀ t a, look l t = some a → f t = some a
  | [], _, _, _, h => by simp [look] at h
  | (d, b) :: r, hc, t, a, h => by
    simp only [look] at h
    split at h
    · rename_i e; subst e; cases h; exact hc.1
    · exact covers_look hc.2 t a h
theorem Le.cover {σ σ' : St} (hn : σ'.n = σ.n) (hm : σ'.mem = σ.mem) (hs : covers (look σ.slots) σ'.slots) : Le σ σ' := by
  intro w0 p0 a w ⟨h1, h2, p, hE, hsl, hmem⟩
  exact ⟨h1, by rw [hn]; exact h2, p, hE, fun t b hb => hsl t b (covers_look hs t b hb), by rw [hm]; exact hmem⟩

end Go.Abs
set_option linter.unusedVariables false
set_option linter.unusedSimpArgs false
namespace Go.Abs
open Go Go.RowKit
variable {P : Program} {w0 : World} {p0 : Hp}

/-- What a source of append holds. -/
def asrc (σ : St) (k : Nat) : AV → Option (List (List AV))
  | .sl k' ys => if k' = k ∨ ys = [] then some ys else none
  | .own g k' off m => match look σ.mem g with
    | some (.buf k2 xs) => if ((k' = k ∧ k2 = k) ∨ m = 0) ∧ off + m ≤ xs.length then some ((xs.drop off).take m) else none
    | _ => none
  | .s (.slice none 0 0) => some []
  | _ => none

/-- A source, as the world has it. -/
def Src (w : World) (p : Hp) (k : Nat) (ys : List (List AV)) (v : Value) : Prop :=
  ∃ (ax : Option Addr) (c : Nat) (news : List Value), v = .slice ax ys.length c ∧ news.length = ys.length * k ∧ (∀ x ∈ ys, x.length = k ∧ ∀ c ∈ x, c.leaf = true) ∧
    (ys ≠ [] → ∃ a, ax = some a ∧ ∀ j u, news[j]? = some u → w.cell? (a.add j) = some u) ∧
    (∀ (j : Nat) x (i : Nat) c, ys[j]? = some x → x[i]? = some c → ∃ u, news[j * k + i]? = some u ∧ RelV w p c u)

theorem src_nil {w : World} {p : Hp} {k : Nat} (ax : Option Addr) (c : Nat) : Src w p k [] (.slice ax 0 c) :=
  ⟨ax, c, [], rfl, by simp, by simp, by simp, by simp⟩

/-- Cells that stand one behind the other. -/
theorem src_of {w : World} {p : Hp} {k : Nat} {ys : List (List AV)} {b off c : Nat} (hk : ∀ x ∈ ys, x.length = k ∧ ∀ c ∈ x, c.leaf = true)
    (h : ∀ (j : Nat) x (i : Nat) c, ys[j]? = some x → x[i]? = some c → ∃ u, w.cell? ⟨b, off + (j * k + i), none⟩ = some u ∧ RelV w p c u) : Src w p k ys (.slice (some ⟨b, off, none⟩) ys.length c) := by
  have hfl := flatten_length (fun x hx => (hk x hx).1)
  have key : ∀ t, t < ys.length * k → ∃ j x i c, ys[j]? = some x ∧ x[i]? = some c ∧ t = j * k + i := by
    intro t ht
    have hk0 : 0 < k := by rcases Nat.eq_zero_or_pos k with h | h; (subst h; simp at ht); exact h
    have hj : t / k < ys.length := Nat.div_lt_of_lt_mul (by rw [Nat.mul_comm]; exact ht)
    have hx : ys[t / k]? = some ys[t / k] := by simp [hj]
    have hxl := (hk _ (List.mem_of_getElem? hx)).1
    have hi : t % k < (ys[t / k]).length := by rw [hxl]; exact Nat.mod_lt _ hk0
    exact ⟨t / k, _, t % k, _, hx, List.getElem?_eq_getElem hi, by rw [Nat.mul_comm]; exact (Nat.div_add_mod t k).symm⟩
  let news : List Value := (List.range (ys.length * k)).map (fun t => (w.cell? ⟨b, off + t, none⟩).getD undef)
  refine ⟨_, c, news, rfl, by simp [news], hk, fun _ => ⟨_, rfl, fun j u hu => ?_⟩, fun j x i c hj hi => ?_⟩
  · have hlt : j < ys.length * k := by have := (List.getElem?_eq_some_iff.1 hu).1; simpa [news] using this
    obtain ⟨j', x, i, c, e1, e2, e3⟩ := key j hlt
    obtain ⟨u', hu', _⟩ := h j' x i c e1 e2
    rw [← e3] at hu'
    simp only [news, List.getElem?_map, List.getElem?_range hlt, Option.map_some, Option.some.injEq] at hu
    rw [add_at, hu', ← hu, hu']; rfl
  · obtain ⟨u, hu, hr⟩ := h j x i c hj hi
    have hlt : j * k + i < ys.length * k := by
      have h1 := (List.getElem?_eq_some_iff.1 hj).1
      have h2 := (List.getElem?_eq_some_iff.1 hi).1
      rw [(hk x (List.mem_of_getElem? hj)).1] at h2
      calc j * k + i < j * k + k := by omega
        _ = (j + 1) * k := by rw [Nat.add_mul]; omega
        _ ≤ ys.length * k := Nat.mul_le_mul_right _ h1
    refine ⟨u, ?_, hr⟩
    simp only [news, List.getElem?_map, List.getElem?_range hlt, Option.map_some, hu]; rfl

theorem asrc_rel {σ : St} {a : Act} {w : World} {p : Hp} (hs : SlotsRel w p σ.slots a.tmps) (hm : MemRel w p σ.mem) {k : Nat} {x : Operand} {ys : List (List AV)} (h : asrc σ k (σ.ev x) = some ys) : Src w p k ys (a.eval x) := by
  have hr := ev_rel hs x
  generalize a.eval x = v at *
  generalize σ.ev x = av at *
  cases hr with
  | sln k' ax cap hcap => simp only [asrc] at h; split at h <;> cases h; exact src_nil ax cap
  | slc k' xs b off cap f hb hn hcap hkk hc hr =>
    simp only [asrc] at h
    split at h
    · rename_i hk
      have h' := Option.some.inj h
      subst h'
      by_cases hx : xs = []
      · subst hx; exact src_nil _ _
      · have : k' = k := by rcases hk with h | h; exact h; exact absurd h hx
        subst this
        exact src_of hkk fun j x i c hj hi => ⟨f j i, by rw [← Nat.add_assoc]; exact hc j x i c hj hi, hr j x i c hj hi⟩
    · cases h
  | s v =>
    simp only [asrc] at h
    split at h <;> first | (cases h; rename_i e; cases e; exact src_nil _ _) | (simp at *; done) | cases h
  | ownn g k' hg =>
    simp only [asrc] at h
    split at h
    · split at h
      · cases h; simp only [List.take_zero]; exact src_nil _ _
      · cases h
    · cases h
  | own0 g k' off b a' hg =>
    simp only [asrc] at h
    split at h
    · split at h
      · cases h; simp only [List.take_zero]; exact src_nil _ _
      · cases h
    · cases h
  | own g k' off n b cap cur T hg hn hcap hh hsz =>
    simp only [asrc] at h
    split at h
    · rename_i k2 xs hl
      split at h
      · rename_i hc
        cases h
        obtain ⟨hk, hlen⟩ := hc
        by_cases hn0 : n = 0
        · subst hn0; simp only [List.take_zero]; exact src_nil _ _
        · obtain ⟨ek1, ek2⟩ : k' = k ∧ k2 = k := by rcases hk with h | h; exact h; exact absurd h hn0
          subst ek2; subst ek1
          rcases hm.holds g _ hl with ⟨rfl, _⟩ | ⟨b', cur', T', e1, e2, e3, e4, e5⟩
          · simp at hlen; omega
          · rw [hg] at e1; cases e1
            rw [hh] at e2; cases e2
            have hlen' : ((xs.drop off).take n).length = n := by simp; omega
            have hget : ∀ j x, ((xs.drop off).take n)[j]? = some x → xs[off + j]? = some x := fun j x h => by
              rw [List.getElem?_take] at h
              split at h
              · rwa [List.getElem?_drop] at h
              · cases h
            have := src_of (w := w) (p := p) (k := k') (ys := (xs.drop off).take n) (b := b) (off := off * k') (c := cap) (fun x hx => e4 x (List.mem_of_mem_drop (List.mem_of_mem_take hx)))
              (fun j x i c hj hi => by
                obtain ⟨u, hu, hr⟩ := e5 _ x i c (hget j x hj) hi
                refine ⟨u, ?_, hr⟩
                have e : off * k' + (j * k' + i) = (off + j) * k' + i := by rw [Nat.add_mul]; omega
                rw [cell_of_heap hh, e, hu])
            rwa [hlen'] at this
      · cases h
    · cases h
  | _ => simp [asrc] at h

end Go.Abs
set_option linter.unusedVariables false
set_option linter.unusedSimpArgs false
namespace Go.Abs
open Go Go.RowKit
variable {P : Program} {w0 : World} {p0 : Hp}

/-- What names g is forgotten. -/
def AV.kill (g : Nat) (a : AV) : AV := if a.clean (fun x => x != g) = true then a else .bad
def killSlots (g : Nat) : List (Nat × AV) → List (Nat × AV)
  | [] => []
  | (t, a) :: r => (t, a.kill g) :: killSlots g r
def killMem (g : Nat) : Mem → Mem
  | [] => []
  | (g', m) :: r => if g' = g then killMem g r else (g', match m with | .box cs => .box (cs.map (AV.kill g)) | m => m) :: killMem g r

theorem look_killSlots (g : Nat) : ∀ (l : List (Nat × AV)) (t : Nat), look (killSlots g l) t = (look l t).map (AV.kill g)
  | [], _ => rfl
  | (d, a) :: r, t => by
    simp only [killSlots, look]
    split
    · rfl
    · exact look_killSlots g r t
theorem look_killMem (g : Nat) : ∀ (l : Mem) (t : Nat), t ≠ g → look (killMem g l) t = (look l t).map (fun m => match m with | .box cs => .box (cs.map (AV.kill g)) | m => m)
  | [], _, _ => rfl
  | (d, m) :: r, t, h => by
    simp only [killMem, look]
    by_cases e : d = g
    · rw [if_pos e, look_killMem g r t h, if_neg (by rw [e]; exact fun h' => h h'.symm)]
    · rw [if_neg e]
      simp only [look]
      split
      · rfl
      · exact look_killMem g r t h

theorem RelV.kill {w : World} {p : Hp} {w' : World} {q : Hp} {g : Nat} (hmv : ∀ a v, RelV w p a v → a.clean (fun x => x != g) = true → RelV w' q a v) {a : AV} {v : Value} (h : RelV w p a v) : RelV w' q (a.kill g) v := by
  unfold AV.kill
  split
  · rename_i hc; exact hmv a v h hc
  · exact .bad v

/-- A name's block changes: what it held is forgotten, what it holds now is said anew. -/
theorem rel_rebind {σ : St} {a : Act} {w : World} {p : Hp} (h1 : a.defers = []) (h2 : a.tmps.size = σ.n) (hs : SlotsRel w p σ.slots a.tmps) (hm : MemRel w p σ.mem) (g : Nat) {w' : World} {q : Hp} (hE : Ext w0 p0 w' q)
    (hmv : ∀ a v, RelV w p a v → a.clean (fun x => x != g) = true → RelV w' q a v) (hno : ∀ g', g' ≠ g → q.o g' = p.o g') (hheap : ∀ b g', g' ≠ g → p.o g' = some (some b) → w'.heap[b]? = w.heap[b]?)
    {m : AM} (hAM : AMRel w' q g m) (hinj : ∀ g' b, g' ≠ g → q.o g = some (some b) → p.o g' ≠ some (some b)) (hav : ∀ b, q.o g = some (some b) → ¬ q.A b) (hA : q.A = p.A)
    {d : Nat} (hd : d < σ.n) {av : AV} {v : Value} (hv : RelV w' q av v) : Rel w0 p0 ⟨σ.n, (d, av) :: killSlots g σ.slots, (g, m) :: killMem g σ.mem⟩ (a.put (some d) v) w' := by
  refine ⟨h1, by simpa [Act.put] using h2, q, hE, SlotsRel.put (fun t b hb => ?_) (by rw [h2]; exact hd) hv, ⟨fun g' hl => ?_, fun g' m' hl => ?_, fun g1 g2 b e1 e2 => ?_, fun g' b e => ?_⟩⟩
  · rw [look_killSlots] at hb
    cases hl : look σ.slots t with
    | none => simp [hl] at hb
    | some c =>
      simp [hl] at hb; subst hb
      obtain ⟨u, hu, hr⟩ := hs t c hl
      exact ⟨u, hu, hr.kill hmv⟩
  · rw [look_cons] at hl
    split at hl
    · cases hl
    · rename_i hne
      have hne' : g' ≠ g := fun e => hne e.symm
      rw [look_killMem g _ _ hne'] at hl
      rw [hno g' hne']
      refine hm.dom g' ?_
      cases h : look σ.mem g' with
      | none => rfl
      | some m => rw [h] at hl; cases hl
  · rw [look_cons] at hl
    split at hl
    · rename_i e; subst e; cases hl; exact hAM
    · rename_i hne
      have hne' : g' ≠ g := fun e => hne e.symm
      rw [look_killMem g _ _ hne'] at hl
      cases h : look σ.mem g' with
      | none => simp [h] at hl
      | some m0 =>
        rw [h] at hl
        have := hm.holds g' m0 h
        cases m0 with
        | box cs =>
          simp at hl; subst hl
          obtain ⟨b, cur, T, e1, e2, e3, e4⟩ := this
          refine ⟨b, cur, T, by rw [hno g' hne']; exact e1, by rw [hheap b g' hne' e1]; exact e2, by simpa using e3, fun i c hc => ?_⟩
          rw [List.getElem?_map] at hc
          cases hi : cs[i]? with
          | none => simp [hi] at hc
          | some c' =>
            simp [hi] at hc; subst hc
            obtain ⟨u, hu, hr⟩ := e4 i c' hi
            exact ⟨u, hu, hr.kill hmv⟩
        | buf k xs =>
          simp at hl; subst hl
          rcases this with ⟨e0, e1⟩ | ⟨b, cur, T, e1, e2, e3, e4, e5⟩
          · exact .inl ⟨e0, by rw [hno g' hne']; exact e1⟩
          · exact .inr ⟨b, cur, T, by rw [hno g' hne']; exact e1, by rw [hheap b g' hne' e1]; exact e2, e3, e4, fun j x i c hx hc => by
              obtain ⟨u, hu, hr⟩ := e5 j x i c hx hc
              exact ⟨u, hu, hmv c u hr (AV.clean_of_leaf ((e4 x (List.mem_of_getElem? hx)).2 c (List.mem_of_getElem? hc)))⟩⟩
  · by_cases c1 : g1 = g <;> by_cases c2 : g2 = g
    · rw [c1, c2]
    · subst c1; rw [hno g2 c2] at e2; exact absurd e2 (hinj g2 b c2 e1)
    · subst c2; rw [hno g1 c1] at e1; exact absurd e1 (hinj g1 b c1 e2)
    · rw [hno g1 c1] at e1; rw [hno g2 c2] at e2; exact hm.inj g1 g2 b e1 e2
  · by_cases c1 : g' = g
    · subst c1; exact hav b e
    · rw [hno g' c1] at e; rw [hA]; exact hm.avoid g' b e

theorem run_append_zero {t ty e : TypeId} {k : Nat} (ht : elem? P t = some e) (hk : cells? P e = some k) (base ax : Option Addr) (n cap c : Nat) (hn : n ≤ cap) (w : World) :
    (Builtin.append_ #[t, t] ty #[.slice base n cap, .slice ax 0 c]).run P w = .ok (.slice base n cap) w := by
  have hu := elem?_inv ht
  cases ax with
  | none => cases base <;> simp [Builtin.append_, run_underlying hu, run_size hk, Builtin.lenOf, hn, Builtin.firstCells, storeCells]
  | some a => cases base <;> simp [Builtin.append_, run_underlying hu, run_size hk, Builtin.lenOf, hn, Builtin.firstCells, loadCells, loadCellsFrom, storeCells]

theorem run_append_roomT {t ty e : TypeId} {k : Nat} (ht : elem? P t = some e) (hk : cells? P e = some k) {w : World} {T : TypeId}
    (g sLen sCap : Nat) (cur : Array Value) (hg : w.heap[g]? = some (.cells cur T (0, 0)))
    (a : Addr) (m c : Nat) (news : List Value) (hl : news.length = m * k) (hnews : ∀ j u, news[j]? = some u → w.cell? (a.add j) = some u) (h1 : ∀ u ∈ news, u.oneCell' = true)
    (hroom : sLen + m ≤ sCap) (hfit : sLen * k + news.length ≤ cur.size) :
    (Builtin.append_ #[t, t] ty #[.slice (some ⟨g, 0, none⟩) sLen sCap, .slice (some a) m c]).run P w =
      .ok (.slice (some ⟨g, 0, none⟩) (sLen + m) sCap) (w.setRow g (cur.toList.take (sLen * k) ++ news ++ cur.toList.drop (sLen * k + news.length)).toArray) := by
  have hf := run_firstCells_some (P := P) w k m a m c news hl hnews
  have hst := run_storeCells_at P g (sLen * k) T news 0 cur w hg (by simpa using hfit) h1
  simp only [Nat.add_zero] at hst
  simp [Builtin.append_, run_underlying (elem?_inv ht), run_size hk, Builtin.lenOf, hroom, hf, Addr.add_lit, hst]

end Go.Abs
set_option linter.unusedVariables false
set_option linter.unusedSimpArgs false
namespace Go.Abs
open Go Go.RowKit
variable {P : Program} {w0 : World} {p0 : Hp}

/-- A slice type: its element's type, cells and bytes. -/
def appT? (P : Program) (t : TypeId) : Option (Nat × Nat × Nat) := match elem? P t with
  | some e => match P.info? e with
    | some i => match i.zero with
      | some z => if z.cells.size = i.size ∧ 0 < i.size then some (e, i.size, i.bytes) else none
      | none => none
    | none => none
  | none => none
theorem appT?_inv {t e k by_ : Nat} (h : appT? P t = some (e, k, by_)) : elem? P t = some e ∧ cells? P e = some k ∧ 0 < k ∧ ∃ i z, P.info? e = some i ∧ i.zero = some z ∧ i.size = k ∧ i.bytes = by_ ∧ z.cells.size = k := by
  unfold appT? at h
  split at h
  · rename_i e' he
    split at h
    · rename_i i hi
      split at h
      · rename_i z hz
        split at h
        · rename_i hc
          cases h
          exact ⟨he, by simp [cells?, hi], hc.2, i, z, hi, hz, rfl, rfl, hc.1⟩
        · cases h
      · cases h
    · cases h
  · cases h

theorem aop_append {o : Oper} {σ : St} {K : St → Prop} (hf : Fit w0 p0) {s x : Operand} {t e k by_ d g n : Nat} {xs ys : List (List AV)} {k' : Nat} (ho : o.op = .call { callee := .builtin .append, args := #[s, x], argTypes := #[t, t] }) (hdst : o.dst = some d) (hd : d < σ.n)
    (ht : appT? P t = some (e, k, by_)) (hg : g < E0) (hs : σ.ev s = .own g k 0 n) (hl : look σ.mem g = some (.buf k' xs)) (hk' : k' = k ∨ xs = []) (hn : n = xs.length) (hx : asrc σ k (σ.ev x) = some ys)
    (hmax : n + ys.length ≤ maxLen) (hby : (n + ys.length) * by_ ≤ 140737488355328)
    (hK : K ⟨σ.n, (d, .own g k 0 (n + ys.length)) :: killSlots g σ.slots, (g, .buf k (xs ++ ys)) :: killMem g σ.mem⟩) : AOp P w0 p0 o σ K := by
  intro a w next Q ⟨h1, h2, p, hE, hsl, hm⟩ hnx
  obtain ⟨he, hck, hk0, i, z, hi, hz, rfl, rfl, hzc⟩ := appT?_inv ht
  have hsrc := asrc_rel hsl hm hx
  obtain ⟨ax, c, news, ex, hnl, hyk, hny, hnr⟩ := hsrc
  have hse := ev_rel hsl s
  rw [hs] at hse
  have hexec : (execOp a.eval o).run P w = ((Builtin.append_ #[t, t] o.type #[a.eval s, .slice ax ys.length c]).run P w).andThen fun v w' => .ok (.value v) w' := by
    simp only [execOp, ho, resolve, invoke, builtin, Sem.run_bind, Sem.run_pure, Result.andThen_ok, List.map_toArray, List.map_cons, List.map_nil, ex]
  have hp0 : p0.o g = none := hf.names g hg
  have hAb : ∀ b, p.A b → b < w.heap.size := fun b hb => Nat.lt_of_lt_of_le (hf.others b (hE.A ▸ hb)) hE.size
  have h63 : n + ys.length ≤ 9223372036854775807 := by unfold maxLen at hmax; omega
  have hone : ∀ u ∈ news, u.oneCell' = true := by
    intro u hu
    obtain ⟨t', ht'⟩ := List.getElem?_of_mem hu
    have hlt := (List.getElem?_eq_some_iff.1 ht').1
    rw [hnl] at hlt
    have hj : t' / i.size < ys.length := Nat.div_lt_of_lt_mul (by rw [Nat.mul_comm]; exact hlt)
    have hxx : ys[t' / i.size]? = some ys[t' / i.size] := by simp [hj]
    have hxl := (hyk _ (List.mem_of_getElem? hxx)).1
    have hii : t' % i.size < (ys[t' / i.size]).length := by rw [hxl]; exact Nat.mod_lt _ hk0
    obtain ⟨u', hu', hr⟩ := hnr _ _ _ _ hxx (List.getElem?_eq_getElem hii)
    have et : t' / i.size * i.size + t' % i.size = t' := by rw [Nat.mul_comm]; exact Nat.div_add_mod t' i.size
    rw [et, ht'] at hu'
    cases hu'
    exact hr.one (AV.one_of_leaf ((hyk _ (List.mem_of_getElem? hxx)).2 _ (List.getElem_mem hii)))
  have hyall : ∀ x ∈ xs ++ ys, (∀ x ∈ xs, x.length = i.size ∧ ∀ c ∈ x, c.leaf = true) → x.length = i.size ∧ ∀ c ∈ x, c.leaf = true := fun x hx h => by
    rcases List.mem_append.1 hx with hx | hx
    · exact h x hx
    · exact hyk x hx
  unfold Oper.wp
  rw [hexec]
  -- a new block
  have grow : ∀ (olds : List Value) (cap : Nat), olds.length = n * i.size → n + ys.length ≤ cap → cap ≤ maxLen → (∀ x ∈ xs, x.length = i.size ∧ ∀ c ∈ x, c.leaf = true) →
      (∀ (j : Nat) x (i' : Nat) c, xs[j]? = some x → x[i']? = some c → ∃ u, olds[j * i.size + i']? = some u ∧ RelV w p c u) →
      o.upon P a next Q (.ok (.value (.slice (some ⟨w.heap.size, 0, none⟩) (n + ys.length) cap)) (w.drew.alloc (.cells (olds.toArray ++ news.toArray ++ Builtin.zeroCells z.cells (cap - (n + ys.length))) e))) := by
    intro olds cap holen hcap hcm hxk holds
    simp only [Oper.upon]
    generalize hw' : w.drew.alloc (.cells (olds.toArray ++ news.toArray ++ Builtin.zeroCells z.cells (cap - (n + ys.length))) e) = w'
    have hheap : ∀ b, b < w.heap.size → w'.heap[b]? = w.heap[b]? := fun b hb => by rw [← hw']; exact Below.heap_alloc w.drew _ b hb
    have hnew : w'.heap[w.heap.size]? = some (.cells (olds.toArray ++ news.toArray ++ Builtin.zeroCells z.cells (cap - (n + ys.length))) e (0, 0)) := by rw [← hw']; exact heap_alloc_new w.drew _
    have hsize : w'.heap.size = w.heap.size + 1 := by rw [← hw']; simp
    have hmv : ∀ a v, RelV w p a v → a.clean (fun x => x != g) = true → RelV w' (p.upd g (some (some w.heap.size))) a v := fun a v hr hc =>
      hr.move (p := p) (q := p.upd g (some (some w.heap.size))) (ok := fun x => x != g) (fun b hb => ⟨⟨by rw [hsize]; have := hb.1; omega, fun g' hg' => by
        simp only [Hp.upd] at hg'
        split at hg'
        · cases hg'; exact absurd hb.1 (Nat.lt_irrefl _)
        · exact hb.2.1 g' hg', hb.2.2⟩, hheap b hb.1⟩)
        (fun g' x hok hx => by
          have hne : g' ≠ g := by simpa using hok
          refine ⟨by simp only [Hp.upd]; rw [if_neg hne]; exact hx, fun b hb cur T hh => ⟨cur, ?_, rfl⟩⟩
          subst hb
          rw [hheap b (hm.lt hx)]; exact hh) hc
    have hE' : Ext w0 p0 w' (p.upd g (some (some w.heap.size))) := by
      refine ⟨?_, ?_, ?_, ?_, hE.A, fun b hb => ?_, fun b hb hA => ?_, fun g' x hx => ?_⟩
      · rw [← hw']; exact hE.os
      · rw [← hw']; exact ⟨hE.tape.1, Nat.le_trans hE.tape.2 (Nat.le_succ _)⟩
      · rw [← hw']; exact hE.output
      · rw [hsize]; have := hE.size; omega
      · have hst := (hE.stab b hb).1
        refine ⟨⟨by rw [hsize]; have := hst.1; omega, fun g' hg' => ?_, hst.2.2⟩, by rw [hheap b hst.1]; exact (hE.stab b hb).2⟩
        simp only [Hp.upd] at hg'
        split at hg'
        · cases hg'; exact absurd hst.1 (Nat.lt_irrefl _)
        · exact hst.2.1 g' hg'
      · rw [hheap b (Nat.lt_of_lt_of_le hb hE.size)]; exact hE.others b hb hA
      · have hne : g' ≠ g := fun e => by rw [e, hp0] at hx; cases hx
        simp only [Hp.upd]
        rw [if_neg hne]
        rcases hE.name g' x hx with h | ⟨h, h'⟩
        · exact .inl h
        · refine .inr ⟨h, fun b hb cur T hh => ?_⟩
          obtain ⟨c1, e1, s1⟩ := h' b hb cur T hh
          exact ⟨c1, by rw [hheap b (hm.lt (hb ▸ h))]; exact e1, s1⟩
    have hAM : AMRel w' (p.upd g (some (some w.heap.size))) g (.buf i.size (xs ++ ys)) := by
      refine .inr ⟨w.heap.size, _, e, by simp [Hp.upd], hnew, ?_, fun x hx => hyall x hx hxk, fun j x i' c hj hi' => ?_⟩
      · simp only [List.length_append, Array.size_append, List.size_toArray, holen, hnl, ← hn, Nat.add_mul]; omega
      · have hlf : ∀ c, c ∈ x → c.leaf = true := (hyall x (List.mem_of_getElem? hj) hxk).2
        have hcl := AV.clean_of_leaf (ok := fun x => x != g) (hlf c (List.mem_of_getElem? hi'))
        by_cases hlt : j < xs.length
        · rw [List.getElem?_append_left hlt] at hj
          obtain ⟨u, hu, hr⟩ := holds j x i' c hj hi'
          have hl1 := (List.getElem?_eq_some_iff.1 hu).1
          exact ⟨u, by rw [Array.append_assoc, Array.getElem?_append_left (by simpa using hl1)]; simpa using hu, hmv c u hr hcl⟩
        · rw [List.getElem?_append_right (by omega)] at hj
          obtain ⟨u, hu, hr⟩ := hnr _ x i' c hj hi'
          have hl1 := (List.getElem?_eq_some_iff.1 hu).1
          refine ⟨u, ?_, hmv c u hr hcl⟩
          have e1 : j * i.size + i' = olds.length + ((j - xs.length) * i.size + i') := by
            rw [holen, hn]
            have : j = xs.length + (j - xs.length) := by omega
            conv => lhs; rw [this, Nat.add_mul]
            omega
          rw [e1, Array.append_assoc, Array.getElem?_append_right (by simp)]
          simp only [List.size_toArray, Nat.add_sub_cancel_left]
          rw [Array.getElem?_append_left (by simpa using hl1)]
          simpa using hu
    refine hnx _ _ _ hK ?_
    rw [hdst]
    refine rel_rebind h1 h2 hsl hm g hE' hmv (fun g' hne => by simp only [Hp.upd]; rw [if_neg hne]) (fun b g' hne hb => hheap b (hm.lt hb)) hAM (fun g' b hne hb hb' => ?_) (fun b hb hA => ?_) rfl hd ?_
    · simp [Hp.upd] at hb; subst hb; exact absurd (hm.lt hb') (Nat.lt_irrefl _)
    · simp [Hp.upd] at hb; subst hb; exact absurd (hAb _ hA) (Nat.lt_irrefl _)
    · have := RelV.own (w := w') (p := p.upd g (some (some w.heap.size))) g i.size 0 (n + ys.length) w.heap.size cap _ e (by simp [Hp.upd]) hcap hcm hnew
        (by
          have e1 : n * i.size + ys.length * i.size + (cap - (n + ys.length)) * i.size = cap * i.size := by rw [← Nat.add_mul, ← Nat.add_mul]; congr 1; omega
          simp only [Array.size_append, List.size_toArray, holen, hnl, size_zeroCells, hzc, e1]; omega)
      simpa using this
  -- nothing new
  have same : ys.length = 0 → ∀ v, a.eval s = v → RelV w p (.own g i.size 0 n) v → o.upon P a next Q (.ok (.value v) w) := by
    intro hy v hv hr
    have hys : ys = [] := List.eq_nil_of_length_eq_zero hy
    subst hys
    simp only [Oper.upon]
    refine hnx _ _ _ hK ?_
    rw [hdst]
    have hst := hm.holds g _ hl
    have hAM : AMRel w p g (.buf i.size (xs ++ [])) := by
      rw [List.append_nil]
      rcases hk' with rfl | rfl
      · exact hst
      · rcases hst with h | ⟨b, cur, T, e1, e2, _⟩
        · exact .inl h
        · exact .inr ⟨b, cur, T, e1, e2, by simp, by simp, by simp⟩
    refine rel_rebind h1 h2 hsl hm g hE (fun a v h _ => h) (fun _ _ => rfl) (fun _ _ _ _ => rfl) hAM (fun g' b hne hb hb' => hne (hm.inj g' g b hb' hb)) (fun b hb => hm.avoid g b hb) rfl hd (by simpa using hr)
  generalize hv : a.eval s = v at *
  cases hse with
  | ownn _ _ hgn =>
    have hx0 : xs = [] := List.eq_nil_of_length_eq_zero hn.symm
    subst hx0
    by_cases hy0 : ys.length = 0
    · rw [hy0, run_append_zero he hck none ax 0 0 c (Nat.le_refl _) w]
      exact same hy0 _ rfl (.ownn g _ hgn)
    · obtain ⟨ad, rfl, hads⟩ := hny (by intro h; simp [h] at hy0)
      rw [run_append_nil (P := P) w t o.type e i z (elem?_inv he) hi hz ad ys.length c news hnl hads (by omega) (by omega) (by simp at hby; omega)]
      have := grow [] (grownCap w ys.length 0 e) (by simp) (by simpa using grownCap_ge w _ _ _) (grownCap_le_maxLen w _ _ _ (by simpa using hmax)) (by simp) (by simp)
      simpa using this
  | own0 _ _ _ b ad0 hgb =>
    have hx0 : xs = [] := List.eq_nil_of_length_eq_zero hn.symm
    subst hx0
    by_cases hy0 : ys.length = 0
    · rw [hy0, run_append_zero he hck _ ax 0 0 c (Nat.le_refl _) w]
      exact same hy0 _ rfl (.own0 g _ 0 b ad0 hgb)
    · obtain ⟨ad, rfl, hads⟩ := hny (by intro h; simp [h] at hy0)
      rw [run_append_grow (P := P) w t o.type e i z (elem?_inv he) hi hz ⟨b, ad0, none⟩ 0 0 [] (by simp) (by simp) ad ys.length c news hnl hads (by omega) (by omega) (growslice_fits (by omega) (by simpa using hby))]
      have := grow [] (grownCap w (0 + ys.length) 0 e) (by simp) (by simpa using grownCap_ge w _ _ _) (grownCap_le_maxLen w _ _ _ (by simpa using hmax)) (by simp) (by simp)
      simpa using this
  | own _ _ _ _ b cap cur T hgb hnc hcap hh hsz =>
    simp only [Nat.zero_mul, Nat.zero_add] at hsz hv ⊢
    rcases hm.holds g _ hl with ⟨hx0, e0⟩ | ⟨b', cur', T', e1, e2, e3, e4, e5⟩
    · rw [hgb] at e0; cases e0
    · rw [hgb] at e1; cases e1
      rw [hh] at e2; cases e2
      have hxk : ∀ x ∈ xs, x.length = i.size ∧ ∀ c ∈ x, c.leaf = true := by
        rcases hk' with rfl | rfl
        · exact e4
        · simp
      have hxr : ∀ (j : Nat) x (i' : Nat) c, xs[j]? = some x → x[i']? = some c → ∃ v, cur[j * i.size + i']? = some v ∧ RelV w p c v := by
        rcases hk' with rfl | rfl
        · exact e5
        · simp
      have hncur : n * i.size ≤ cur.size := Nat.le_trans (Nat.mul_le_mul_right _ hnc) hsz
      by_cases hy0 : ys.length = 0
      · rw [hy0, run_append_zero he hck _ ax n cap c hnc w]
        refine same hy0 _ ?_ ?_
        · simp
        · have := RelV.own (w := w) (p := p) g i.size 0 n b cap cur T hgb hnc hcap hh (by simpa using hsz)
          simpa using this
      · obtain ⟨ad, rfl, hads⟩ := hny (by intro h; simp [h] at hy0)
        by_cases hroom : n + ys.length ≤ cap
        · have hfit : n * i.size + news.length ≤ cur.size := by rw [hnl, ← Nat.add_mul]; exact Nat.le_trans (Nat.mul_le_mul_right _ hroom) hsz
          rw [run_append_roomT he hck b n cap cur hh ad ys.length c news hnl hads hone hroom hfit]
          simp only [Result.andThen_ok, Oper.upon]
          generalize hcs : (cur.toList.take (n * i.size) ++ news ++ cur.toList.drop (n * i.size + news.length)).toArray = cs
          have hcsz : cs.size = cur.size := by rw [← hcs]; simp; omega
          have hbk : (w.setRow b cs).heap[b]? = some (.cells cs T (0, 0)) := setRow_heap w b cur cs T _ hh
          have hoth : ∀ b', b' ≠ b → (w.setRow b cs).heap[b']? = w.heap[b']? := fun b' hne => setRow_other w b b' cs hne
          have hwsz : (w.setRow b cs).heap.size = w.heap.size := by simp [World.setRow]
          have hkeep : Keeps w p (w.setRow b cs) p := by
            refine ⟨fun b' hb' => ?_, fun _ _ h => h, fun g' b' hg' cur2 T2 hh2 => ?_⟩
            · have hne : b' ≠ b := fun e => hb'.2.1 g (e ▸ hgb)
              exact ⟨⟨by rw [hwsz]; exact hb'.1, hb'.2⟩, hoth b' hne⟩
            · by_cases hne : b' = b
              · subst hne; rw [hh] at hh2; cases hh2; exact ⟨cs, hbk, hcsz⟩
              · exact ⟨cur2, by rw [hoth b' hne]; exact hh2, rfl⟩
          have hE' : Ext w0 p0 (w.setRow b cs) p := hE.step hkeep rfl ⟨rfl, Nat.le_refl _⟩ rfl (by rw [hwsz]; exact Nat.le_refl _) rfl (fun b' _ hA => hoth b' (fun e => hm.avoid g b hgb (e ▸ hA))) (fun g' h1 h2 => absurd h1 h2)
          have hAM : AMRel (w.setRow b cs) p g (.buf i.size (xs ++ ys)) := by
            refine .inr ⟨b, cs, T, hgb, hbk, ?_, fun x hx => hyall x hx hxk, fun j x i' c hj hi' => ?_⟩
            · rw [hcsz, List.length_append, ← hn]; exact Nat.le_trans (Nat.mul_le_mul_right _ hroom) hsz
            · by_cases hlt : j < xs.length
              · rw [List.getElem?_append_left hlt] at hj
                obtain ⟨u, hu, hr⟩ := hxr j x i' c hj hi'
                refine ⟨u, ?_, hr.keep hkeep⟩
                have hil := (List.getElem?_eq_some_iff.1 hi').1
                rw [(hxk x (List.mem_of_getElem? hj)).1] at hil
                have hpos : j * i.size + i' < n * i.size := by
                  calc j * i.size + i' < j * i.size + i.size := by omega
                    _ = (j + 1) * i.size := by rw [Nat.add_mul]; omega
                    _ ≤ n * i.size := Nat.mul_le_mul_right _ (by omega)
                rw [← hcs]
                simp only [List.getElem?_toArray]
                rw [List.append_assoc, List.getElem?_append_left (by simp; omega), List.getElem?_take, if_pos hpos]
                simpa using hu
              · rw [List.getElem?_append_right (by omega)] at hj
                obtain ⟨u, hu, hr⟩ := hnr _ x i' c hj hi'
                refine ⟨u, ?_, hr.keep hkeep⟩
                have hl1 := (List.getElem?_eq_some_iff.1 hu).1
                have e1 : j * i.size + i' = n * i.size + ((j - xs.length) * i.size + i') := by
                  have : j = n + (j - xs.length) := by omega
                  conv => lhs; rw [this, Nat.add_mul]
                  omega
                rw [← hcs]
                simp only [List.getElem?_toArray]
                rw [e1, List.append_assoc, List.getElem?_append_right (by simp; omega)]
                have e2 : n * i.size + ((j - xs.length) * i.size + i') - (cur.toList.take (n * i.size)).length = (j - xs.length) * i.size + i' := by simp; omega
                rw [e2, List.getElem?_append_left hl1]
                exact hu
          refine hnx _ _ _ hK ?_
          rw [hdst]
          refine rel_rebind h1 h2 hsl hm g hE' (fun a v h _ => h.keep hkeep) (fun _ _ => rfl) (fun b' g' hne hb' => hoth b' (fun e => hne (hm.inj g' g b (e ▸ hb') hgb))) hAM (fun g' b' hne hb hb' => hne (hm.inj g' g b' hb' hb)) (fun b' hb => hm.avoid g b' hb) rfl hd ?_
          have := RelV.own (w := w.setRow b cs) (p := p) g i.size 0 (n + ys.length) b cap cs T hgb hroom hcap hbk (by rw [hcsz]; simpa using hsz)
          simpa using this
        · have hold : ∀ j u, (cur.toList.take (n * i.size))[j]? = some u → w.cell? ((⟨b, 0, none⟩ : Addr).add j) = some u := fun j u hu => by
            rw [List.getElem?_take] at hu
            split at hu
            · rw [add_at, Nat.zero_add, cell_of_heap hh]; simpa using hu
            · cases hu
          have holen : (cur.toList.take (n * i.size)).length = n * i.size := by simp; omega
          rw [run_append_grow (P := P) w t o.type e i z (elem?_inv he) hi hz ⟨b, 0, none⟩ n cap _ holen hold ad ys.length c news hnl hads (by omega) (by omega) (growslice_fits (by omega) hby)]
          refine grow _ _ holen (grownCap_ge w _ _ _) (grownCap_le_maxLen w _ _ _ hmax) hxk fun j x i' c hj hi' => ?_
          obtain ⟨u, hu, hr⟩ := hxr j x i' c hj hi'
          refine ⟨u, ?_, hr⟩
          have hil := (List.getElem?_eq_some_iff.1 hi').1
          rw [(hxk x (List.mem_of_getElem? hj)).1] at hil
          have hjl := (List.getElem?_eq_some_iff.1 hj).1
          have hpos : j * i.size + i' < n * i.size := by
            calc j * i.size + i' < j * i.size + i.size := by omega
              _ = (j + 1) * i.size := by rw [Nat.add_mul]; omega
              _ ≤ n * i.size := Nat.mul_le_mul_right _ (by omega)
          rw [List.getElem?_take, if_pos hpos]
          simpa using hu

end Go.Abs
set_option linter.unusedVariables false
set_option linter.unusedSimpArgs false
namespace Go.Abs
open Go Go.RowKit
variable {P : Program} {w0 : World} {p0 : Hp}

theorem aop_nil {o : Oper} {σ : St} {K : St → Prop} (hf : Fit w0 p0) (k : Nat) {d : Nat} (ho : o.op = .assign (.const (.slice none 0 0))) (hdst : o.dst = some d) (hd : d < σ.n) (hfr : σ.fresh d)
    (hK : K ⟨σ.n, (d, .own d k 0 0) :: σ.slots, (d, .buf k []) :: σ.mem⟩) : AOp P w0 p0 o σ K := by
  intro a w next Q ⟨h1, h2, p, hE, hs, hm⟩ hn
  have hrun : (execOp a.eval o).run P w = .ok (.value (.slice none 0 0)) w := by simp [execOp, ho, Act.eval]
  unfold Oper.wp
  rw [hrun]
  have hp0 : p.o d = none := hm.dom d hfr.2
  have hk : Keeps w p w (p.upd d (some none)) := by
    refine ⟨fun b hb => ⟨⟨hb.1, fun g hg => ?_, hb.2.2⟩, rfl⟩, fun g x hx => ?_, fun g b hg cur T hh => ⟨cur, hh, rfl⟩⟩
    · simp only [Hp.upd] at hg
      split at hg
      · cases hg
      · exact hb.2.1 g hg
    · simp only [Hp.upd]
      split
      · rename_i e; subst e; rw [hp0] at hx; cases hx
      · exact hx
  have hE' : Ext w0 p0 w (p.upd d (some none)) := hE.step hk rfl ⟨rfl, Nat.le_refl _⟩ rfl (Nat.le_refl _) rfl (fun _ _ _ => rfl) (fun g h1 h2 => by
    simp only [Hp.upd] at h2
    split at h2
    · rename_i e; subst e; exact hf.names _ hfr.1
    · exact absurd h1 h2)
  refine hn _ _ _ hK ?_
  rw [hdst]
  refine ⟨h1, by simpa [Act.put] using h2, _, hE', (hs.keep hk).put (by rw [h2]; exact hd) (.ownn d k (by simp [Hp.upd])), ⟨fun g hl => ?_, fun g m hl => ?_, fun g g' b e1 e2 => ?_, fun g b e => ?_⟩⟩
  · rw [look_cons] at hl
    split at hl
    · cases hl
    · rename_i hne; simp only [Hp.upd]; rw [if_neg (fun e => hne e.symm)]; exact hm.dom g hl
  · rw [look_cons] at hl
    split at hl
    · rename_i e; subst e; cases hl; exact .inl ⟨rfl, by simp [Hp.upd]⟩
    · exact (hm.holds g m hl).keep hk fun _ _ => rfl
  · simp only [Hp.upd] at e1 e2
    split at e1
    · cases e1
    · split at e2
      · cases e2
      · exact hm.inj g g' b e1 e2
  · simp only [Hp.upd] at e
    split at e
    · cases e
    · exact hm.avoid g b e

/-- A bound of a slice expression. -/
def bnd (σ : St) (d : Nat) : Option Operand → Option Nat
  | none => some d
  | some x => match σ.ev x with | .s (.int _ n) => if 0 ≤ n then some n.toNat else none | _ => none

theorem run_bound {σ : St} {act : Act} {w : World} {p : Hp} (hs : SlotsRel w p σ.slots act.tmps) {x : Operand} {d n y : Nat} (h : bnd σ d (some x) = some n) (hy : n ≤ y) (code : BoundsCode) :
    (Instr.sliceBound (act.eval x) y code).run P w = .ok n w := by
  simp only [bnd] at h
  split at h
  · rename_i k i hx
    split at h
    · rename_i h0
      cases h
      have hle : i ≤ (y : Int) := by omega
      simp [Instr.sliceBound, ev_s hs hx, asIntOf, h0, hle]
    · cases h
  · cases h

theorem run_bounds {σ : St} {act : Act} {w : World} {p : Hp} (hs : SlotsRel w p σ.slots act.tmps) {lo hi : Option Operand} {len cap l h : Nat} (hl : bnd σ 0 lo = some l) (hh : bnd σ len hi = some h) (h1 : l ≤ h) (h2 : h ≤ cap) :
    (Instr.sliceBounds true len cap (lo.map act.eval) (hi.map act.eval) none).run P w = .ok (l, h, cap) w := by
  cases lo with
  | none =>
    have e1 : l = 0 := by simpa [bnd] using hl.symm
    subst e1
    cases hi with
    | none => have e2 : h = len := by simpa [bnd] using hh.symm
              subst e2; simp [Instr.sliceBounds]
    | some y => simp [Instr.sliceBounds, run_bound hs hh h2]
  | some x =>
    cases hi with
    | none => have e2 : h = len := by simpa [bnd] using hh.symm
              subst e2; simp [Instr.sliceBounds, run_bound hs hl h1]
    | some y => simp [Instr.sliceBounds, run_bound hs hh h2, run_bound hs hl h1]
theorem run_bounds3 {σ : St} {act : Act} {w : World} {p : Hp} (hs : SlotsRel w p σ.slots act.tmps) {lo : Option Operand} {y z : Operand} {len cap l h m : Nat} (hl : bnd σ 0 lo = some l) (hh : bnd σ len (some y) = some h) (hm : bnd σ cap (some z) = some m) (h1 : l ≤ h) (h2 : h ≤ m) (h3 : m ≤ cap) :
    (Instr.sliceBounds true len cap (lo.map act.eval) (some (act.eval y)) (some (act.eval z))).run P w = .ok (l, h, m) w := by
  cases lo with
  | none =>
    have e1 : l = 0 := by simpa [bnd] using hl.symm
    subst e1
    simp [Instr.sliceBounds, run_bound hs hh h2, run_bound hs hm h3]
  | some x => simp [Instr.sliceBounds, run_bound hs hh h2, run_bound hs hl h1, run_bound hs hm h3]

theorem pure_slice_sl {o : Oper} {σ : St} {x : Operand} {lo hi : Option Operand} {t e k l h : Nat} {xs : List (List AV)} (ho : o.op = .slice t x lo hi none) (ht : elem? P t = some e) (hk : cells? P e = some k)
    (hx : σ.ev x = .sl k xs) (hl : bnd σ 0 lo = some l) (hh : bnd σ xs.length hi = some h) (h1 : l ≤ h) (h2 : h ≤ xs.length) : PureOp P o σ (.sl k ((xs.take h).drop l)) := by
  intro act w p hs _
  have hr := ev_rel hs x
  rw [hx] at hr
  generalize hv : act.eval x = v at *
  have hlen : ((xs.take h).drop l).length = h - l := by simp; omega
  cases hr with
  | sln _ a cap hcap =>
    simp only [List.length_nil, Nat.le_zero] at h2
    subst h2
    have : l = 0 := by omega
    subst this
    refine ⟨.slice a 0 cap, ?_, by simpa using RelV.sln k a cap hcap⟩
    have hb := run_bounds (P := P) (w := w) hs hl hh (Nat.le_refl _) (Nat.zero_le cap)
    simp only [List.length_nil] at hb
    cases a <;> simp [execOp, ho, hv, Instr.sliceAt, Instr.slice, run_underlying (elem?_inv ht), hb, run_size hk, add_at, Addr.add]
  | slc _ _ b off cap f hb hn hcap hkk hc hr =>
    have hbd := run_bounds (P := P) (w := w) hs hl hh h1 (Nat.le_trans h2 hn)
    by_cases hlh : l = h
    · subst hlh
      refine ⟨.slice (if cap = l then some ⟨b, off, none⟩ else some ⟨b, off + l * k, none⟩) 0 (cap - l), ?_, ?_⟩
      · simp [execOp, ho, hv, Instr.sliceAt, Instr.slice, run_underlying (elem?_inv ht), hbd, run_size hk, add_at]
      · have e : (xs.take l).drop l = [] := List.eq_nil_of_length_eq_zero (by rw [hlen]; omega)
        rw [e]; exact .sln k _ _ (by omega)
    · have hcl : ¬ cap = l := by omega
      refine ⟨.slice (some ⟨b, off + l * k, none⟩) (h - l) (cap - l), ?_, ?_⟩
      · simp [execOp, ho, hv, Instr.sliceAt, Instr.slice, run_underlying (elem?_inv ht), hbd, run_size hk, add_at, hcl]
      · have hget : ∀ j y, ((xs.take h).drop l)[j]? = some y → xs[l + j]? = some y := fun j y hy => by
          rw [List.getElem?_drop, List.getElem?_take] at hy
          split at hy
          · exact hy
          · cases hy
        have := RelV.slc (w := w) (p := p) k ((xs.take h).drop l) b (off + l * k) (cap - l) (fun j i => f (l + j) i) hb (by rw [hlen]; omega) (by omega) (fun y hy => hkk y (List.mem_of_mem_take (List.mem_of_mem_drop hy)))
          (fun j y i c hj hi => by
            have := hc (l + j) y i c (hget j y hj) hi
            have e : off + l * k + j * k + i = off + (l + j) * k + i := by rw [Nat.add_mul]; omega
            rw [e]; exact this)
          (fun j y i c hj hi => hr (l + j) y i c (hget j y hj) hi)
        rwa [hlen] at this

theorem own_sliced {w : World} {p : Hp} {g k off n : Nat} {v : Value} (hr : RelV w p (.own g k off n) v) {l h m : Nat} (h1 : l ≤ h) (h2 : h ≤ n) : ∃ a cap, v = .slice a n cap ∧ n ≤ cap ∧
    (h ≤ m → m ≤ cap → RelV w p (.own g k (off + l) (h - l)) (.slice (if m = l then a else a.map (fun a => a.add (l * k))) (h - l) (m - l))) := by
  cases hr with
  | ownn _ _ hg =>
    refine ⟨none, 0, rfl, Nat.le_refl _, fun h3 h4 => ?_⟩
    obtain rfl : h = 0 := by omega
    obtain rfl : l = 0 := by omega
    obtain rfl : m = 0 := by omega
    simpa using RelV.ownn (w := w) (p := p) g k hg
  | own0 _ _ _ b a0 hg =>
    refine ⟨_, 0, rfl, Nat.le_refl _, fun h3 h4 => ?_⟩
    obtain rfl : h = 0 := by omega
    obtain rfl : l = 0 := by omega
    obtain rfl : m = 0 := by omega
    simpa using RelV.own0 (w := w) (p := p) g k off b a0 hg
  | own _ _ _ _ b cap cur T hg hn hcap hh hs =>
    refine ⟨_, cap, rfl, hn, fun h3 h4 => ?_⟩
    by_cases hml : m = l
    · subst hml
      obtain rfl : h = m := by omega
      simp only [Nat.sub_self, if_true]
      exact RelV.own0 g k (off + h) b _ hg
    · rw [if_neg hml]
      simp only [Option.map_some, add_at]
      have e : off * k + l * k = (off + l) * k := by rw [Nat.add_mul]
      rw [e]
      refine RelV.own g k (off + l) (h - l) b (m - l) cur T hg (by omega) (by omega) hh ?_
      rw [← Nat.add_mul] at hs ⊢
      exact Nat.le_trans (Nat.mul_le_mul_right _ (by omega)) hs

theorem pure_slice_own {o : Oper} {σ : St} {x : Operand} {lo hi : Option Operand} {t e g k off n l h : Nat} (ho : o.op = .slice t x lo hi none) (ht : elem? P t = some e) (hk : cells? P e = some k)
    (hx : σ.ev x = .own g k off n) (hl : bnd σ 0 lo = some l) (hh : bnd σ n hi = some h) (h1 : l ≤ h) (h2 : h ≤ n) : PureOp P o σ (.own g k (off + l) (h - l)) := by
  intro act w p hs _
  have hr := ev_rel hs x
  rw [hx] at hr
  obtain ⟨a, cap, hv, hn, hrel⟩ := own_sliced hr (m := 0) h1 h2
  obtain ⟨a', cap', hv', _, hrel'⟩ := own_sliced hr (m := cap) h1 h2
  rw [hv] at hv'; cases hv'
  have hb := run_bounds (P := P) (w := w) hs hl hh h1 (Nat.le_trans h2 hn)
  refine ⟨_, ?_, hrel' (Nat.le_trans h2 hn) (Nat.le_refl _)⟩
  simp [execOp, ho, hv, Instr.sliceAt, Instr.slice, run_underlying (elem?_inv ht), hb, run_size hk]

theorem pure_slice3_own {o : Oper} {σ : St} {x y z : Operand} {lo : Option Operand} {t e g k off n l h m : Nat} (ho : o.op = .slice t x lo (some y) (some z)) (ht : elem? P t = some e) (hk : cells? P e = some k)
    (hx : σ.ev x = .own g k off n) (hl : bnd σ 0 lo = some l) (hh : bnd σ n (some y) = some h) (hm : bnd σ n (some z) = some m) (h1 : l ≤ h) (h2 : h ≤ m) (h3 : m ≤ n) : PureOp P o σ (.own g k (off + l) (h - l)) := by
  intro act w p hs _
  have hr := ev_rel hs x
  rw [hx] at hr
  obtain ⟨a, cap, hv, hn, hrel⟩ := own_sliced hr (m := m) h1 (Nat.le_trans h2 h3)
  have hb := run_bounds3 (P := P) (w := w) (len := n) (cap := cap) hs hl hh (by simpa [bnd] using hm) h1 h2 (Nat.le_trans h3 hn)
  refine ⟨_, ?_, hrel h2 (Nat.le_trans h3 hn)⟩
  simp [execOp, ho, hv, Instr.sliceAt, Instr.slice, run_underlying (elem?_inv ht), hb, run_size hk]

end Go.Abs
set_option linter.unusedVariables false
set_option linter.unusedSimpArgs false
namespace Go.Abs
open Go Go.RowKit
variable {P : Program} {w0 : World} {p0 : Hp}

def setMem (g : Nat) (m : AM) : Mem → Mem
  | [] => []
  | (g', m') :: r => if g' = g then (g, m) :: r else (g', m') :: setMem g m r
theorem look_setMem (g : Nat) (m : AM) : ∀ (l : Mem), (look l g).isSome = true → ∀ t, look (setMem g m l) t = if t = g then some m else look l t
  | [], h, _ => by simp [look] at h
  | (d, m') :: r, h, t => by
    simp only [setMem]
    by_cases e : d = g
    · rw [if_pos e]
      simp only [look]
      subst e
      by_cases e2 : t = d
      · subst e2; simp
      · rw [if_neg (fun h => e2 h.symm), if_neg e2, if_neg (fun h => e2 h.symm)]
    · rw [if_neg e]
      simp only [look, if_neg e] at h ⊢
      by_cases e2 : d = t
      · subst e2; simp [e]
      · rw [if_neg e2, if_neg e2]; exact look_setMem g m r h t

/-- What a store makes of a block's contents. -/
def AM.store (m : AM) (k j f : Nat) (rs : List AV) : Option AM :=
  match m with
  | .box cs => if j = 0 ∧ f + rs.length ≤ cs.length then some (.box (splice cs f rs)) else none
  | .buf k' xs => match xs[j]? with
    | some x => if k' = k ∧ f + rs.length ≤ k then some (.buf k (xs.set j (splice x f rs))) else none
    | none => none

theorem splice_get {α : Type} (l r : List α) (off : Nat) (h : off + r.length ≤ l.length) (i : Nat) : (splice l off r)[i]? = if off ≤ i ∧ i < off + r.length then r[i - off]? else l[i]? := by
  unfold splice
  simp only [List.getElem?_append, List.getElem?_take, List.getElem?_drop, List.length_append, List.length_take]
  grind

theorem aop_store {o : Oper} {σ : St} {K : St → Prop} (hf : Fit w0 p0) {t : TypeId} {x y : Operand} {g k j f n : Nat} {m m' : AM} (ho : o.op = .store t x y) (hdst : o.dst = none) (hx : σ.ev x = .ref g k j f) (hl : look σ.mem g = some m)
    (hn : cells? P t = some n) (hlen : (σ.ev y).cells.length = n) (h1c : ∀ c ∈ (σ.ev y).cells, c.one = true) (hlf : ∀ k xs, m = .buf k xs → ∀ c ∈ (σ.ev y).cells, c.leaf = true) (hm' : m.store k j f (σ.ev y).cells = some m')
    (hK : K { σ with mem := setMem g m' σ.mem }) : AOp P w0 p0 o σ K := by
  intro a w next Q ⟨h1, h2, p, hE, hs, hm⟩ hnx
  have hr := ev_rel hs x
  rw [hx] at hr
  generalize hv : a.eval x = v at *
  cases hr with
  | ref _ _ _ _ b hg =>
    obtain ⟨e1, e2⟩ := (ev_rel hs y).cells h1c
    generalize hyv : a.eval y = yv at *
    generalize hya : (σ.ev y).cells = rs at *
    have hone : ∀ u ∈ yv.cells.toList, u.oneCell' = true := by
      intro u hu
      obtain ⟨i, hi⟩ := List.getElem?_of_mem hu
      have hlt := (List.getElem?_eq_some_iff.1 hi).1
      have hlt' : i < rs.length := by simp at hlt; omega
      obtain ⟨u', hu', hr'⟩ := e2 i _ (List.getElem?_eq_getElem hlt')
      simp only [Array.getElem?_toList] at hi
      rw [hi] at hu'; cases hu'
      exact hr'.one (h1c _ (List.getElem_mem hlt'))
    have hyl : yv.cells.toList.length = n := by simp; omega
    have hcur : ∃ cur T, w.heap[b]? = some (.cells cur T (0, 0)) ∧ j * k + f + n ≤ cur.size := by
      have := hm.holds g m hl
      cases m with
      | box cs =>
        obtain ⟨b', cur, T, d1, d2, d3, d4⟩ := this
        rw [hg] at d1; cases d1
        simp only [AM.store] at hm'
        split at hm'
        · rename_i hc; exact ⟨cur, T, d2, by rw [hc.1]; simp; omega⟩
        · cases hm'
      | buf k' xs =>
        simp only [AM.store] at hm'
        split at hm'
        · rename_i z hz
          split at hm'
          · rename_i hc
            rcases this with ⟨d0, d1⟩ | ⟨b', cur, T, d1, d2, d3, d4, d5⟩
            · rw [hg] at d1; cases d1
            · rw [hg] at d1; cases d1
              refine ⟨cur, T, d2, ?_⟩
              have hj := (List.getElem?_eq_some_iff.1 hz).1
              have : (j + 1) * k ≤ cur.size := by
                rw [← hc.1]; exact Nat.le_trans (Nat.mul_le_mul_right _ hj) d3
              rw [Nat.add_mul] at this
              omega
          · cases hm'
        · cases hm'
    obtain ⟨cur, T, hh, hfit⟩ := hcur
    generalize hcs : (cur.toList.take (j * k + f) ++ yv.cells.toList ++ cur.toList.drop (j * k + f + yv.cells.toList.length)).toArray = cs
    have hrun : (execOp a.eval o).run P w = .ok .skip (w.setRow b cs) := by
      have hst := run_storeCells_at P b (j * k + f) T yv.cells.toList 0 cur w hh (by rw [hyl]; simpa using hfit) hone
      simp only [Nat.add_zero] at hst
      rw [hcs] at hst
      have hsz : yv.cells.size = n := by simpa using hyl
      simp [execOp, ho, hv, hyv, Instr.storeAt, Instr.sureAddr, storeVar, run_size hn, hsz, hst]
    have hspl : cs.toList = splice cur.toList (j * k + f) yv.cells.toList := by rw [← hcs]; rfl
    have hcsz : cs.size = cur.size := by rw [← hcs]; simp; simp at hyl; omega
    have hbk : (w.setRow b cs).heap[b]? = some (.cells cs T (0, 0)) := setRow_heap w b cur cs T _ hh
    have hoth : ∀ b', b' ≠ b → (w.setRow b cs).heap[b']? = w.heap[b']? := fun b' hne => setRow_other w b b' cs hne
    have hwsz : (w.setRow b cs).heap.size = w.heap.size := by simp [World.setRow]
    have hkeep : Keeps w p (w.setRow b cs) p := by
      refine ⟨fun b' hb' => ?_, fun _ _ h => h, fun g' b' hg' cur2 T2 hh2 => ?_⟩
      · have hne : b' ≠ b := fun e => hb'.2.1 g (e ▸ hg)
        exact ⟨⟨by rw [hwsz]; exact hb'.1, hb'.2⟩, hoth b' hne⟩
      · by_cases hne : b' = b
        · subst hne; rw [hh] at hh2; cases hh2; exact ⟨cs, hbk, hcsz⟩
        · exact ⟨cur2, by rw [hoth b' hne]; exact hh2, rfl⟩
    have hE' : Ext w0 p0 (w.setRow b cs) p := hE.step hkeep rfl ⟨rfl, Nat.le_refl _⟩ rfl (by rw [hwsz]; exact Nat.le_refl _) rfl (fun b' _ hA => hoth b' (fun e => hm.avoid g b hg (e ▸ hA))) (fun g' h1 h2 => absurd h1 h2)
    have hget : ∀ i, cs[i]? = if j * k + f ≤ i ∧ i < j * k + f + n then yv.cells[i - (j * k + f)]? else cur[i]? := by
      intro i
      have := splice_get cur.toList yv.cells.toList (j * k + f) (by rw [hyl]; simpa using hfit) i
      rw [← hspl, hyl] at this
      simpa using this
    have hAM : AMRel (w.setRow b cs) p g m' := by
      have := hm.holds g m hl
      cases m with
      | box cells =>
        obtain ⟨b', cur', T', d1, d2, d3, d4⟩ := this
        rw [hg] at d1; cases d1
        rw [hh] at d2; cases d2
        simp only [AM.store] at hm'
        split at hm'
        · rename_i hc
          cases hm'
          obtain ⟨hj0, hfl⟩ := hc
          subst hj0
          simp only [Nat.zero_mul, Nat.zero_add] at hget
          refine ⟨b, cs, T, hg, hbk, by rw [hcsz, ← d3]; simp [splice]; omega, fun i c hc => ?_⟩
          rw [splice_get _ _ _ hfl] at hc
          rw [hget i, ← hlen]
          split at hc
          · rename_i hin
            rw [if_pos hin]
            obtain ⟨u, hu, hru⟩ := e2 _ c hc
            exact ⟨u, hu, hru.keep hkeep⟩
          · rename_i hin
            rw [if_neg hin]
            obtain ⟨u, hu, hru⟩ := d4 i c hc
            exact ⟨u, hu, hru.keep hkeep⟩
        · cases hm'
      | buf k' xs =>
        simp only [AM.store] at hm'
        split at hm'
        · rename_i z hz
          split at hm'
          · rename_i hc
            cases hm'
            obtain ⟨hkk, hfl⟩ := hc
            subst hkk
            rcases this with ⟨d0, d1⟩ | ⟨b', cur', T', d1, d2, d3, d4, d5⟩
            · rw [hg] at d1; cases d1
            · rw [hg] at d1; cases d1
              rw [hh] at d2; cases d2
              have hzk := d4 z (List.mem_of_getElem? hz)
              have hjl := (List.getElem?_eq_some_iff.1 hz).1
              refine .inr ⟨b, cs, T, hg, hbk, by rw [hcsz]; simpa using d3, fun x hx => ?_, fun j' x i c hj' hi => ?_⟩
              · rcases List.mem_or_eq_of_mem_set hx with hx | rfl
                · exact d4 x hx
                · refine ⟨by simp [splice]; omega, fun c hc => ?_⟩
                  simp only [splice, List.mem_append] at hc
                  rcases hc with (hc | hc) | hc
                  · exact hzk.2 c (List.mem_of_mem_take hc)
                  · exact hlf k' xs rfl c hc
                  · exact hzk.2 c (List.mem_of_mem_drop hc)
              · by_cases hjj : j' = j
                · subst hjj
                  rw [List.getElem?_set_self hjl] at hj'
                  cases hj'
                  rw [splice_get _ _ _ (by omega)] at hi
                  rw [hget]
                  by_cases hin : f ≤ i ∧ i < f + rs.length
                  · rw [if_pos hin] at hi
                    rw [if_pos ⟨by omega, by omega⟩]
                    obtain ⟨u, hu, hru⟩ := e2 _ c hi
                    have e : j' * k' + i - (j' * k' + f) = i - f := by omega
                    rw [e]
                    exact ⟨u, hu, hru.keep hkeep⟩
                  · rw [if_neg hin] at hi
                    rw [if_neg (by omega)]
                    obtain ⟨u, hu, hru⟩ := d5 j' z i c hz hi
                    exact ⟨u, hu, hru.keep hkeep⟩
                · rw [List.getElem?_set_ne (by omega)] at hj'
                  obtain ⟨u, hu, hru⟩ := d5 j' x i c hj' hi
                  have hil := (List.getElem?_eq_some_iff.1 hi).1
                  rw [(d4 x (List.mem_of_getElem? hj')).1] at hil
                  have hout : ¬ (j * k' + f ≤ j' * k' + i ∧ j' * k' + i < j * k' + f + n) := by
                    rintro ⟨a1, a2⟩
                    rcases Nat.lt_or_gt_of_ne hjj with h | h
                    · have : (j' + 1) * k' ≤ j * k' := Nat.mul_le_mul_right _ h
                      rw [Nat.add_mul] at this; omega
                    · have : (j + 1) * k' ≤ j' * k' := Nat.mul_le_mul_right _ h
                      rw [Nat.add_mul] at this; omega
                  exact ⟨u, by rw [hget, if_neg hout]; exact hu, hru.keep hkeep⟩
          · cases hm'
        · cases hm'
    unfold Oper.wp
    rw [hrun]
    simp only [Oper.upon, hdst]
    have hsome : (look σ.mem g).isSome = true := by rw [hl]; rfl
    refine hnx _ _ _ hK ⟨h1, h2, p, hE', hs.keep hkeep, ⟨fun g' hl' => ?_, fun g' m2 hl' => ?_, hm.inj, hm.avoid⟩⟩
    · rw [look_setMem g m' _ hsome] at hl'
      split at hl'
      · cases hl'
      · exact hm.dom g' hl'
    · rw [look_setMem g m' _ hsome] at hl'
      split at hl'
      · rename_i e; subst e; cases hl'; exact hAM
      · rename_i hne
        exact (hm.holds g' m2 hl').keep hkeep fun b' hb' => hoth b' (fun e => hne (hm.inj g' g b (e ▸ hb') hg))

end Go.Abs
