import Derived.WalkKit
import Derived.WalkSpells
import Derived.WalkLawsBesides
import Derived.Deep.LoopGhost
import Derived.ChangeKeysEq
namespace Go.Abs
open Go Go.RowKit

/-- An abstract value. 's': a concrete scalar; 'sl': a slice that is only read, by its elements' cells; 'own': a view of a slice of this call's own; 'adr': an address of cells that are only read; 'ref': an address in a block of this call's own (element j of k cells each, cell f in it). -/
inductive AV where
  | s (v : Value)
  | agg (cs : List AV)
  | tup (vs : List AV)
  | sl (k : Nat) (xs : List (List AV))
  | own (g k off n : Nat)
  | adr (cs : List AV)
  | ref (g k j f : Nat)
  | fn (f : Nat) (cap : List AV)
  | bad
  deriving Inhabited

/-- A cell of memory that is only read: one cell, and nothing of this call's own. -/
def AV.leaf : AV → Bool
  | .s v => v.oneCell'
  | .sl _ _ => true
  | _ => false

/-- Which block a name has: none: no such name; some none: a nil slice. -/
abbrev Names := Nat → Option (Option Nat)

/-- 'o': the names of what this call may write; 'A': the blocks of others that this call never touches and never hands on. -/
structure Hp where
  o : Names
  A : Nat → Prop

def Stable (w : World) (h : Hp) (b : Nat) : Prop := b < w.heap.size ∧ (∀ g, h.o g ≠ some (some b)) ∧ ¬ h.A b

inductive RelV (w : World) (p : Hp) : AV → Value → Prop where
  | s (v : Value) : RelV w p (.s v) v
  | agg (cs : List AV) (vs : Array Value) (hl : cs.length = vs.size) (h : ∀ (i : Nat) c v, cs[i]? = some c → vs[i]? = some v → RelV w p c v) : RelV w p (.agg cs) (.agg vs)
  | tup (cs : List AV) (vs : Array Value) (hl : cs.length = vs.size) (h : ∀ (i : Nat) c v, cs[i]? = some c → vs[i]? = some v → RelV w p c v) : RelV w p (.tup cs) (.tuple vs)
  | sln (k : Nat) (a : Option Addr) (cap : Nat) (hcap : cap ≤ maxLen) : RelV w p (.sl k []) (.slice a 0 cap)
  | slc (k : Nat) (xs : List (List AV)) (b off cap : Nat) (f : Nat → Nat → Value) (hb : Stable w p b) (hn : xs.length ≤ cap) (hcap : cap ≤ maxLen)
      (hk : ∀ x ∈ xs, x.length = k ∧ ∀ c ∈ x, c.leaf = true)
      (hc : ∀ (j : Nat) x (i : Nat) c, xs[j]? = some x → x[i]? = some c → w.cell? ⟨b, off + j * k + i, none⟩ = some (f j i))
      (hr : ∀ (j : Nat) x (i : Nat) c, xs[j]? = some x → x[i]? = some c → RelV w p c (f j i)) :
      RelV w p (.sl k xs) (.slice (some ⟨b, off, none⟩) xs.length cap)
  | ownn (g k : Nat) (hg : p.o g = some none) : RelV w p (.own g k 0 0) (.slice none 0 0)
  | own (g k off n b cap : Nat) (cur : Array Value) (T : TypeId) (hg : p.o g = some (some b)) (hn : n ≤ cap) (hcap : cap ≤ maxLen)
      (hh : w.heap[b]? = some (.cells cur T (0, 0))) (hs : off * k + cap * k ≤ cur.size) : RelV w p (.own g k off n) (.slice (some ⟨b, off * k, none⟩) n cap)
  | own0 (g k off b a : Nat) (hg : p.o g = some (some b)) : RelV w p (.own g k off 0) (.slice (some ⟨b, a, none⟩) 0 0)
  | adr (cs : List AV) (b off : Nat) (f : Nat → Value) (hb : Stable w p b) (hk : ∀ c ∈ cs, c.leaf = true)
      (hc : ∀ (i : Nat) c, cs[i]? = some c → w.cell? ⟨b, off + i, none⟩ = some (f i))
      (hr : ∀ (i : Nat) c, cs[i]? = some c → RelV w p c (f i)) : RelV w p (.adr cs) (.pointer (some ⟨b, off, none⟩))
  | ref (g k j f b : Nat) (hg : p.o g = some (some b)) : RelV w p (.ref g k j f) (.pointer (some ⟨b, j * k + f, none⟩))
  | fn (f : Nat) (cs : List AV) (vs : Array Value) (hl : cs.length = vs.size) (h : ∀ (i : Nat) c v, cs[i]? = some c → vs[i]? = some v → RelV w p c v) : RelV w p (.fn f cs) (.func (.func f) #[] vs)
  | bad (v : Value) : RelV w p .bad v

/-- From (w, p) on to (w', q): what is stable stays, and is as it was; names keep their blocks. -/
structure Keeps (w : World) (p : Hp) (w' : World) (q : Hp) : Prop where
  stab : ∀ b, Stable w p b → Stable w' q b ∧ w'.heap[b]? = w.heap[b]?
  name : ∀ g x, p.o g = some x → q.o g = some x
  shape : ∀ g b, p.o g = some (some b) → ∀ cur T, w.heap[b]? = some (.cells cur T (0, 0)) → ∃ cur', w'.heap[b]? = some (.cells cur' T (0, 0)) ∧ cur'.size = cur.size

theorem Keeps.refl (w : World) (p : Hp) : Keeps w p w p := ⟨fun _ h => ⟨h, rfl⟩, fun _ _ h => h, fun _ _ _ cur _ h => ⟨cur, h, rfl⟩⟩
theorem Keeps.trans {w p w1 p1 w2 p2} (h : Keeps w p w1 p1) (k : Keeps w1 p1 w2 p2) : Keeps w p w2 p2 := by
  refine ⟨fun b hb => ?_, fun g x hg => k.name g x (h.name g x hg), fun g b hg cur T hh => ?_⟩
  · have h1 := h.stab b hb
    have h2 := k.stab b h1.1
    exact ⟨h2.1, h2.2.trans h1.2⟩
  · obtain ⟨c1, e1, s1⟩ := h.shape g b hg cur T hh
    obtain ⟨c2, e2, s2⟩ := k.shape g b (h.name g _ hg) c1 T e1
    exact ⟨c2, e2, s2.trans s1⟩

theorem RelV.keep {w p w' q} (hk : Keeps w p w' q) {a : AV} {v : Value} (h : RelV w p a v) : RelV w' q a v := by
  induction h with
  | s v => exact .s v
  | agg cs vs hl _ ih => exact .agg cs vs hl ih
  | tup cs vs hl _ ih => exact .tup cs vs hl ih
  | sln k a cap hcap => exact .sln k a cap hcap
  | slc k xs b off cap f hb hn hcap hkk hc _ ih =>
    have h1 := hk.stab b hb
    exact .slc k xs b off cap f h1.1 hn hcap hkk (fun j x i c hj hi => by rw [World.cell?_of_block (w := w) h1.2]; exact hc j x i c hj hi) ih
  | ownn g k hg => exact .ownn g k (hk.name _ _ hg)
  | own g k off n b cap cur T hg hn hcap hh hs =>
    obtain ⟨cur', h1, h2⟩ := hk.shape g b hg cur T hh
    exact .own g k off n b cap cur' T (hk.name _ _ hg) hn hcap h1 (by omega)
  | own0 g k off b a hg => exact .own0 g k off b a (hk.name _ _ hg)
  | adr cs b off f hb hkk hc _ ih =>
    have h1 := hk.stab b hb
    exact .adr cs b off f h1.1 hkk (fun i c hi => by rw [World.cell?_of_block (w := w) h1.2]; exact hc i c hi) ih
  | ref g k j f b hg => exact .ref g k j f b (hk.name _ _ hg)
  | fn f cs vs hl _ ih => exact .fn f cs vs hl ih
  | bad v => exact .bad v

/-- What a block of this call's own holds: the cells of a variable; the elements of a slice. -/
inductive AM where
  | box (cs : List AV)
  | buf (k : Nat) (xs : List (List AV))
  deriving Inhabited

abbrev Mem := List (Nat × AM)

def look {α : Type} : List (Nat × α) → Nat → Option α
  | [], _ => none
  | (d, a) :: r, t => if d = t then some a else look r t

def AMRel (w : World) (p : Hp) (g : Nat) : AM → Prop
  | .box cs => ∃ b cur T, p.o g = some (some b) ∧ w.heap[b]? = some (.cells cur T (0, 0)) ∧ cs.length = cur.size ∧
      ∀ (i : Nat) c, cs[i]? = some c → ∃ v, cur[i]? = some v ∧ RelV w p c v
  | .buf k xs => (xs = [] ∧ p.o g = some none) ∨ ∃ b cur T, p.o g = some (some b) ∧ w.heap[b]? = some (.cells cur T (0, 0)) ∧ xs.length * k ≤ cur.size ∧ (∀ x ∈ xs, x.length = k ∧ ∀ c ∈ x, c.leaf = true) ∧
      ∀ (j : Nat) x (i : Nat) c, xs[j]? = some x → x[i]? = some c → ∃ v, cur[j * k + i]? = some v ∧ RelV w p c v

structure MemRel (w : World) (p : Hp) (mem : Mem) : Prop where
  dom : ∀ g, look mem g = none → p.o g = none
  holds : ∀ g m, look mem g = some m → AMRel w p g m
  inj : ∀ g g' b, p.o g = some (some b) → p.o g' = some (some b) → g = g'
  avoid : ∀ g b, p.o g = some (some b) → ¬ p.A b

structure St where
  n : Nat
  slots : List (Nat × AV)
  mem : Mem

def SlotsRel (w : World) (p : Hp) (slots : List (Nat × AV)) (tmps : Array Value) : Prop :=
  ∀ t a, look slots t = some a → ∃ v, tmps[t]? = some v ∧ RelV w p a v

/-- What a call leaves: what was stable is as it was, and so are the others' blocks; a name that was there has its block, or is gone. -/
structure Ext (w : World) (p : Hp) (w' : World) (q : Hp) : Prop where
  os : w'.os = w.os
  tape : w'.tape = w.tape ∧ w.drawn ≤ w'.drawn
  output : w'.output = w.output
  size : w.heap.size ≤ w'.heap.size
  A : q.A = p.A
  stab : ∀ b, Stable w p b → Stable w' q b ∧ w'.heap[b]? = w.heap[b]?
  others : ∀ b, b < w.heap.size → p.A b → w'.heap[b]? = w.heap[b]?
  name : ∀ g x, p.o g = some x → q.o g = none ∨ (q.o g = some x ∧ ∀ b, x = some b → ∀ cur T, w.heap[b]? = some (.cells cur T (0, 0)) → ∃ cur', w'.heap[b]? = some (.cells cur' T (0, 0)) ∧ cur'.size = cur.size)

def Rel (w0 : World) (p0 : Hp) (σ : St) (a : Act) (w : World) : Prop :=
  a.defers = [] ∧ a.tmps.size = σ.n ∧ ∃ p, Ext w0 p0 w p ∧ SlotsRel w p σ.slots a.tmps ∧ MemRel w p σ.mem

end Go.Abs
namespace Go.Abs
open Go Go.RowKit
variable {P : Program} {w0 : World} {p0 : Hp}

/-- Code from an abstract state on. -/
def AW (P : Program) (w0 : World) (p0 : Hp) (c : Code) (σ : St) (Q : Exit → St → Prop) : Prop :=
  ∀ a w, Rel w0 p0 σ a w → c.wp P (fun e a' w' => ∃ σ', Q e σ' ∧ Rel w0 p0 σ' a' w') a w

/-- σ says no less than σ'. -/
def Le (σ σ' : St) : Prop := ∀ w0 p0 a w, Rel w0 p0 σ a w → Rel w0 p0 σ' a w
theorem Le.refl (σ : St) : Le σ σ := fun _ _ _ _ h => h
theorem Le.trans {a b c : St} (h : Le a b) (k : Le b c) : Le a c := fun _ _ _ _ x => k _ _ _ _ (h _ _ _ _ x)

theorem AW.mono {c : Code} {σ : St} {Q Q' : Exit → St → Prop} (h : AW P w0 p0 c σ Q) (hq : ∀ e σ', Q e σ' → Q' e σ') : AW P w0 p0 c σ Q' :=
  fun a w hr => wp_mono (h a w hr) fun _ _ _ ⟨σ', h1, h2⟩ => ⟨σ', hq _ _ h1, h2⟩
theorem AW.le {c : Code} {σ σ' : St} {Q : Exit → St → Prop} (hl : Le σ σ') (h : AW P w0 p0 c σ' Q) : AW P w0 p0 c σ Q :=
  fun a w hr => h a w (hl _ _ _ _ hr)

theorem aw_skip {σ : St} {Q : Exit → St → Prop} (h : Q .normal σ) : AW P w0 p0 .skip σ Q :=
  fun _ _ hr => wp_skip ⟨σ, h, hr⟩
theorem aw_exit {id : Nat} {σ : St} {Q : Exit → St → Prop} (h : Q (.exit id) σ) : AW P w0 p0 (.exit id) σ Q :=
  fun _ _ hr => wp_exit ⟨σ, h, hr⟩
theorem aw_ret {σ : St} {Q : Exit → St → Prop} (h : Q .ret σ) : AW P w0 p0 .ret σ Q :=
  fun _ _ hr => wp_ret ⟨σ, h, hr⟩

/-- What stands behind a normal end. -/
def thenQ (K : St → Prop) (Q : Exit → St → Prop) : Exit → St → Prop
  | .normal, σ => K σ
  | e, σ => Q e σ
def blockQ (id : Nat) (Q : Exit → St → Prop) : Exit → St → Prop
  | .exit id', σ => if id' = id then Q .normal σ else Q (.exit id') σ
  | e, σ => Q e σ

theorem aw_seq {x y : Code} {σ : St} {Q : Exit → St → Prop} (h : AW P w0 p0 x σ (thenQ (fun σ' => AW P w0 p0 y σ' Q) Q)) : AW P w0 p0 (.seq x y) σ Q := by
  intro a w hr
  refine wp_seq (wp_mono (h a w hr) ?_)
  rintro e a' w' ⟨σ', h1, h2⟩
  cases e <;> first | exact h1 a' w' h2 | exact ⟨σ', h1, h2⟩

theorem aw_block {id : Nat} {c : Code} {σ : St} {Q : Exit → St → Prop} (h : AW P w0 p0 c σ (blockQ id Q)) : AW P w0 p0 (.block id c) σ Q := by
  intro a w hr
  refine wp_block (wp_mono (h a w hr) ?_)
  rintro e a' w' ⟨σ', h1, h2⟩
  cases e with
  | exit id' =>
    simp only [blockQ] at h1
    simp only [Exit.inBlock]
    split at h1 <;> rename_i hid
    · rw [if_pos hid]; exact ⟨σ', h1, h2⟩
    · rw [if_neg hid]; exact ⟨σ', h1, h2⟩
  | _ => exact ⟨σ', h1, h2⟩

theorem aw_loop {ι : Type} {c : Code} {σ : St} {Q : Exit → St → Prop} (I : ι → St) (C : ι → Prop) (μ : ι → Nat) (i0 : ι) (hc : C i0) (h0 : Le σ (I i0))
    (round : ∀ i, C i → AW P w0 p0 c (I i) (thenQ (fun σ' => ∃ i', C i' ∧ μ i' < μ i ∧ Le σ' (I i')) Q)) : AW P w0 p0 (.loop c) σ Q := by
  intro a w hr
  refine wp_loop_ghost (fun n a w => ∃ i, C i ∧ μ i = n ∧ Rel w0 p0 (I i) a w) (μ i0) ⟨i0, hc, rfl, h0 _ _ _ _ hr⟩ ?_
  rintro n a w ⟨i, hci, rfl, hri⟩
  refine wp_mono (round i hci a w hri) ?_
  rintro e a' w' ⟨σ', h1, h2⟩
  cases e with
  | normal => obtain ⟨i', hc', hm, hle⟩ := h1; exact ⟨μ i', hm, i', hc', rfl, hle _ _ _ _ h2⟩
  | _ => exact ⟨σ', h1, h2⟩

theorem SlotsRel.get {w : World} {p : Hp} {l : List (Nat × AV)} {tmps : Array Value} (h : SlotsRel w p l tmps) {t : Nat} {a : AV} (ha : look l t = some a) :
    ∃ v, tmps[t]? = some v ∧ RelV w p a v := h t a ha

theorem SlotsRel.put {w : World} {p : Hp} {l : List (Nat × AV)} {tmps : Array Value} (h : SlotsRel w p l tmps) {d : Nat} (hd : d < tmps.size) {a : AV} {v : Value} (hv : RelV w p a v) :
    SlotsRel w p ((d, a) :: l) (tmps.setIfInBounds d v) := by
  intro t b hb
  simp only [look] at hb
  split at hb
  · rename_i hdt; subst hdt
    cases hb
    exact ⟨v, by simp [hd], hv⟩
  · rename_i hdt
    obtain ⟨u, h1, h2⟩ := h t b hb
    exact ⟨u, by rw [Array.getElem?_setIfInBounds_ne (by omega)]; exact h1, h2⟩

theorem SlotsRel.keep {w : World} {p : Hp} {w' : World} {q : Hp} (hk : Keeps w p w' q) {l : List (Nat × AV)} {tmps : Array Value} (h : SlotsRel w p l tmps) : SlotsRel w' q l tmps :=
  fun t a ha => let ⟨v, h1, h2⟩ := h t a ha; ⟨v, h1, h2.keep hk⟩

def St.get (σ : St) (t : Nat) : AV := (look σ.slots t).getD .bad
def St.ev (σ : St) : Operand → AV
  | .tmp t => σ.get t
  | .const (.agg cs) => .agg (cs.toList.map .s)
  | .const v => .s v
  | .func f => .fn f []
  | .global _ => .bad
def St.put (σ : St) (d : Nat) (a : AV) : St := { σ with slots := (d, a) :: σ.slots }
def St.putO (σ : St) : Option Nat → AV → St
  | some d, a => σ.put d a
  | none, _ => σ

theorem ev_rel {σ : St} {a : Act} {w : World} {p : Hp} (hs : SlotsRel w p σ.slots a.tmps) (x : Operand) : RelV w p (σ.ev x) (a.eval x) := by
  cases x with
  | tmp t =>
    simp only [St.ev, St.get, Act.eval]
    cases hl : look σ.slots t with
    | none => exact .bad _
    | some b =>
      obtain ⟨v, h1, h2⟩ := hs t b hl
      simpa [Array.getD_eq_getD_getElem?, h1] using h2
  | const v =>
    cases v with
    | agg cs =>
      refine .agg _ _ (by simp) (fun i c u hc hu => ?_)
      simp only [List.getElem?_map, Array.getElem?_toList] at hc
      simp only [hu, Option.map_some, Option.some.injEq] at hc
      subst hc; exact .s u
    | _ => exact .s _
  | func f => exact .fn f [] #[] rfl (by simp)
  | global g => exact .bad _

end Go.Abs
set_option linter.unusedVariables false
namespace Go.Abs
open Go Go.RowKit
variable {P : Program} {w0 : World} {p0 : Hp}

/-- One operation from an abstract state on. -/
def AOp (P : Program) (w0 : World) (p0 : Hp) (o : Oper) (σ : St) (K : St → Prop) : Prop :=
  ∀ (a : Act) (w : World) (next : Act → World → Prop) (Q : Exit → Act → World → Prop), Rel w0 p0 σ a w →
    (∀ σ' a' w', K σ' → Rel w0 p0 σ' a' w' → next a' w') → o.wp P a w next Q

def AOps (P : Program) (w0 : World) (p0 : Hp) (ops : Array Oper) (rest : List Oper) (σ : St) (Q : Exit → St → Prop) : Prop :=
  ∀ a w, Rel w0 p0 σ a w → wpList P ops (fun e a' w' => ∃ σ', Q e σ' ∧ Rel w0 p0 σ' a' w') rest a w

theorem aw_region {id : Nat} {l : List Oper} {σ : St} {Q : Exit → St → Prop} (h : AOps P w0 p0 l.toArray l σ Q) : AW P w0 p0 (.region id l.toArray false) σ Q :=
  fun a w hr => wp_region_lit (h a w hr)
theorem aops_nil {ops : Array Oper} {σ : St} {Q : Exit → St → Prop} (h : Q .normal σ) : AOps P w0 p0 ops [] σ Q :=
  fun _ _ hr => wpList_nil ⟨σ, h, hr⟩
theorem aops_cons {ops : Array Oper} {o : Oper} {rest : List Oper} {σ : St} {Q : Exit → St → Prop} (hg : o.guard = none)
    (h : AOp P w0 p0 o σ (fun σ' => AOps P w0 p0 ops rest σ' Q)) : AOps P w0 p0 ops (o :: rest) σ Q :=
  fun a w hr => wpList_plain hg fun K hK => h a w K _ hr fun σ' a' w' h1 h2 => hK _ _ (h1 a' w' h2)

theorem Rel.putO {σ : St} {a : Act} {w : World} (hr : Rel w0 p0 σ a w) (d : Option Nat) (hd : ∀ x, d = some x → x < σ.n) (av : AV) (v : Value)
    (hv : ∀ p, Ext w0 p0 w p → SlotsRel w p σ.slots a.tmps → MemRel w p σ.mem → RelV w p av v) : Rel w0 p0 (σ.putO d av) (a.put d v) w := by
  obtain ⟨h1, h2, p, hE, hs, hm⟩ := hr
  cases d with
  | none => exact ⟨h1, h2, p, hE, hs, hm⟩
  | some d =>
    exact ⟨h1, by simpa [Act.put, St.putO, St.put] using h2, p, hE, hs.put (by rw [h2]; exact hd d rfl) (hv p hE hs hm), hm⟩

/-- An operation that leaves the world alone. -/
theorem aop_pure {o : Oper} {σ : St} {K : St → Prop} (hd : ∀ d, o.dst = some d → d < σ.n) (av : AV)
    (h : ∀ (act : Act) w p, SlotsRel w p σ.slots act.tmps → MemRel w p σ.mem → ∃ v, (execOp act.eval o).run P w = .ok (.value v) w ∧ RelV w p av v)
    (hk : K (σ.putO o.dst av)) : AOp P w0 p0 o σ K := by
  intro a w next Q hr hn
  obtain ⟨h1, h2, p, hE, hs, hm⟩ := hr
  obtain ⟨v, hv, hrel⟩ := h a w p hs hm
  unfold Oper.wp
  rw [hv]
  have hr : Rel w0 p0 σ a w := ⟨h1, h2, p, hE, hs, hm⟩
  refine hn _ _ _ hk ?_
  cases ho : o.dst with
  | none => exact ⟨h1, h2, p, hE, hs, hm⟩
  | some d => exact ⟨h1, by simpa [Act.put, St.putO, St.put] using h2, p, hE, hs.put (by rw [h2]; exact hd d ho) hrel, hm⟩

/-- An operation whose guard is decided. -/
theorem aops_guard {ops : Array Oper} {o : Oper} {rest : List Oper} {σ : St} {Q : Exit → St → Prop} {j : Nat} {b t : Bool} {d : Nat} (hg : o.guard = some (j, b))
    (hj : (ops[j]?).bind (·.dst) = some d) (hd : look σ.slots d = some (.s (.bool t))) (hdst : ∀ x, o.dst = some x → x < σ.n)
    (h1 : t = b → AOp P w0 p0 o σ (fun σ' => AOps P w0 p0 ops rest σ' Q)) (h2 : t ≠ b → AOps P w0 p0 ops rest (σ.putO o.dst (.s undef)) Q) : AOps P w0 p0 ops (o :: rest) σ Q := by
  intro a w hr
  have hy : yielded ops a.tmps j = some t := by
    obtain ⟨_, _, p, _, hs, _⟩ := hr
    obtain ⟨v, hv1, hv2⟩ := hs d _ hd
    cases hv2
    simp [yielded, hj, hv1]
  refine wpList_step fun K hK => ?_
  by_cases htb : t = b
  · have hw : Region.wanted o (yielded ops a.tmps) = true := by simp [Region.wanted, hg, hy, htb]
    rw [if_pos hw]
    exact h1 htb a w K _ hr fun σ' a' w' h1 h2 => hK _ _ (h1 a' w' h2)
  · have hw : ¬ Region.wanted o (yielded ops a.tmps) = true := by simp [Region.wanted, hg, hy, htb]
    rw [if_neg hw]
    exact hK _ _ (h2 htb _ w (hr.putO o.dst hdst _ _ fun _ _ _ _ => .s _))

theorem aw_cond {x y : Code} {c : Operand} {σ : St} {Q : Exit → St → Prop} {t : Bool} (hc : σ.ev c = .s (.bool t))
    (h1 : t = true → AW P w0 p0 x σ Q) (h2 : t = false → AW P w0 p0 y σ Q) : AW P w0 p0 (.cond c x y) σ Q := by
  intro a w hr
  have he : a.eval c = .bool t := by
    obtain ⟨_, _, p, _, hs, _⟩ := hr
    have := ev_rel hs c
    rw [hc] at this
    generalize a.eval c = v at *
    cases this
    rfl
  refine wp_cond he ?_
  cases t
  · exact h2 rfl a w hr
  · exact h1 rfl a w hr

end Go.Abs
set_option linter.unusedVariables false
namespace Go.Abs
open Go Go.RowKit
variable {P : Program}

/-- The operation yields this abstract value, and leaves the world alone. -/
def PureOp (P : Program) (o : Oper) (σ : St) (av : AV) : Prop :=
  ∀ (act : Act) (w : World) (p : Hp), SlotsRel w p σ.slots act.tmps → MemRel w p σ.mem → ∃ v, (execOp act.eval o).run P w = .ok (.value v) w ∧ RelV w p av v

theorem RelV.s_inv {w : World} {p : Hp} {u v : Value} (h : RelV w p (.s u) v) : v = u := by cases h; rfl

theorem ev_s {σ : St} {act : Act} {w : World} {p : Hp} (hs : SlotsRel w p σ.slots act.tmps) {x : Operand} {u : Value} (h : σ.ev x = .s u) : act.eval x = u :=
  RelV.s_inv (h ▸ ev_rel hs x)

theorem pure_move {o : Oper} {σ : St} {x : Operand} (ho : o.op = .move x) : PureOp P o σ (σ.ev x) :=
  fun act w p hs _ => ⟨act.eval x, by simp [execOp, ho], ev_rel hs x⟩
theorem pure_assign {o : Oper} {σ : St} {x : Operand} (ho : o.op = .assign x) : PureOp P o σ (σ.ev x) :=
  fun act w p hs _ => ⟨act.eval x, by simp [execOp, ho], ev_rel hs x⟩
theorem pure_pick {o : Oper} {σ : St} {c a b : Operand} {t : Bool} (ho : o.op = .pick c a b) (hc : σ.ev c = .s (.bool t)) : PureOp P o σ (if t then σ.ev a else σ.ev b) := by
  intro act w p hs _
  have := ev_s hs hc
  refine ⟨if t then act.eval a else act.eval b, ?_, ?_⟩
  · simp [execOp, ho, this, asBool]
  · cases t
    · exact ev_rel hs b
    · exact ev_rel hs a

/-- Arithmetic and comparison of integers. -/
def aint (op : BinOp) (k : IntKind) (a b : Int) : Option Value :=
  match op with
  | .add => some (.int k (k.wrap (a + b)))
  | .sub => some (.int k (k.wrap (a - b)))
  | .mul => some (.int k (k.wrap (a * b)))
  | .quo => if b = 0 then none else some (.int k (k.wrap (a.tdiv b)))
  | .rem => if b = 0 then none else some (.int k (a.tmod b))
  | .eql => some (.bool (a == b))
  | .neq => some (.bool (a != b))
  | .lss => some (.bool (a < b))
  | .leq => some (.bool (a ≤ b))
  | .gtr => some (.bool (a > b))
  | .geq => some (.bool (a ≥ b))
  | _ => none
def astr (op : BinOp) (x y : ByteArray) : Option Value :=
  match op with
  | .eql => some (.bool (x.toList == y.toList))
  | .neq => some (.bool (!(x.toList == y.toList)))
  | .lss => some (.bool (Op.bytesLess x.toList y.toList))
  | .leq => some (.bool (Op.bytesLess x.toList y.toList || x.toList == y.toList))
  | .gtr => some (.bool (!(Op.bytesLess x.toList y.toList || x.toList == y.toList)))
  | .geq => some (.bool (!Op.bytesLess x.toList y.toList))
  | _ => none
def abin (P : Program) (op : BinOp) (t : TypeId) (x y : Value) : Option Value :=
  match x, y with
  | .int k a, .int k' b => if k = k' then aint op k a b else none
  | .string a, .string b => astr op a b
  | .bool a, .bool b => match P.underlying t, op with | some .bool, .eql => some (.bool (a == b)) | some .bool, .neq => some (.bool (!(a == b))) | _, _ => none
  | _, _ => none

theorem run_equalIn_bool (d : Nat) {t : TypeId} (ht : P.underlying t = some .bool) (a b : Bool) (w : World) : (Op.equalIn (d + 1) t (.bool a) (.bool b)).run P w = .ok (a == b) w := by
  simp [Op.equalIn, run_underlying ht]
theorem run_equal_bool {t : TypeId} (ht : P.underlying t = some .bool) (a b : Bool) (w : World) : (Op.equal t (.bool a) (.bool b)).run P w = .ok (a == b) w :=
  run_equalIn_bool 9999 ht a b w

theorem abin_run {op : BinOp} {t : TypeId} {x y r : Value} (h : abin P op t x y = some r) (xo yo : Operand) (w : World) :
    Sem.run P (do eqGuard op t xo yo x y; binOp op t x y) w = .ok r w := by
  unfold abin at h
  split at h
  · rename_i k a k' b
    split at h
    · rename_i hk; subst hk
      cases op <;> simp_all [aint, eqGuard, binOp, Op.intArith, Op.intDiv, Op.intCmp]
    · cases h
  · rename_i a b
    cases op <;> simp_all [astr, eqGuard, binOp, Op.stringOp]
  · rename_i a b
    split at h
    · rename_i ht
      cases h
      simp [eqGuard, binOp, run_equal_bool ht]
    · rename_i ht
      cases h
      simp [eqGuard, binOp, run_equal_bool ht]
    · cases h
  · cases h

theorem pure_bin {o : Oper} {σ : St} {op : BinOp} {t yt : TypeId} {x y : Operand} {u v r : Value} (ho : o.op = .binOp op t x y yt) (hx : σ.ev x = .s u) (hy : σ.ev y = .s v)
    (h : abin P op t u v = some r) : PureOp P o σ (.s r) := by
  intro act w p hs _
  refine ⟨r, ?_, .s r⟩
  have e1 := ev_s hs hx
  have e2 := ev_s hs hy
  have := abin_run (P := P) h x y w
  simp only [execOp, ho, e1, e2]
  rw [Sem.run_bind, this]
  simp

theorem pure_not {o : Oper} {σ : St} {t : TypeId} {x : Operand} {b : Bool} (ho : o.op = .unOp .not t x) (hx : σ.ev x = .s (.bool b)) : PureOp P o σ (.s (.bool !b)) := by
  intro act w p hs _
  exact ⟨_, by simp [execOp, ho, ev_s hs hx, Op.unary], .s _⟩
theorem pure_neg {o : Oper} {σ : St} {t : TypeId} {x : Operand} {k : IntKind} {n : Int} (ho : o.op = .unOp .neg t x) (hx : σ.ev x = .s (.int k n)) : PureOp P o σ (.s (.int k (k.wrap (0 - n)))) := by
  intro act w p hs _
  exact ⟨_, by simp [execOp, ho, ev_s hs hx, Op.unary, Op.intArith], .s _⟩

end Go.Abs
set_option linter.unusedVariables false
set_option linter.unusedSimpArgs false
namespace Go.Abs
open Go Go.RowKit
variable {P : Program}

/-- How many cells a type has, and whether it is a struct or an array. -/
def cells? (P : Program) (t : TypeId) : Option Nat := (P.info? t).map (·.size)
def agg? (P : Program) (t : TypeId) : Option Bool := (P.underlying t).map fun | .struct _ => true | .array _ _ => true | _ => false
def elem? (P : Program) (t : TypeId) : Option TypeId := match P.underlying t with | some (.slice e) => some e | _ => none
def field? (P : Program) (t : TypeId) (f : Nat) : Option (Nat × TypeId) := match P.underlying t with | some (.struct fs) => (fs[f]?).map fun x => (x.offset, x.type) | _ => none

theorem elem?_inv {t e : TypeId} (h : elem? P t = some e) : P.underlying t = some (.slice e) := by
  unfold elem? at h; split at h <;> simp_all
theorem run_size {t : TypeId} {n : Nat} (h : cells? P t = some n) (w : World) : (sizeOf t).run P w = .ok n w := by
  unfold cells? at h
  cases hi : P.info? t with
  | none => simp [hi] at h
  | some i => simp [hi] at h; simp [sizeOf, typeInfo, hi, h]
theorem run_agg {t : TypeId} {b : Bool} (h : agg? P t = some b) (w : World) : (isAgg t).run P w = .ok b w := by
  unfold agg? at h
  cases hi : P.underlying t with
  | none => simp [hi] at h
  | some d => simp [hi] at h; unfold isAgg; rw [Sem.run_bind, run_underlying hi]; cases d <;> simp_all
theorem add_at (b off n : Nat) : (⟨b, off, none⟩ : Addr).add n = ⟨b, off + n, none⟩ := by
  unfold Addr.add; split <;> simp_all

theorem pure_len_str {o : Oper} {σ : St} {x : Operand} {t : TypeId} {s : ByteArray} (ho : o.op = .call { callee := .builtin .len, args := #[x], argTypes := #[t] })
    (ht : P.underlying t = some .string) (hx : σ.ev x = .s (.string s)) : PureOp P o σ (.s (.int .i64 s.size)) := by
  intro act w p hs _
  exact ⟨_, by simp [execOp, ho, resolve, invoke, builtin, Builtin.len_, ev_s hs hx, run_underlying ht, goInt], .s _⟩

theorem RelV.sl_inv {w : World} {p : Hp} {k : Nat} {xs : List (List AV)} {v : Value} (h : RelV w p (.sl k xs) v) : ∃ a cap, v = .slice a xs.length cap := by
  cases h with
  | sln k a cap => exact ⟨a, cap, rfl⟩
  | slc k xs b off cap f => exact ⟨_, cap, rfl⟩
theorem RelV.own_inv {w : World} {p : Hp} {g k off n : Nat} {v : Value} (h : RelV w p (.own g k off n) v) : ∃ a cap, v = .slice a n cap := by
  cases h with
  | ownn => exact ⟨_, _, rfl⟩
  | own => exact ⟨_, _, rfl⟩
  | own0 => exact ⟨_, _, rfl⟩

theorem pure_len_of {o : Oper} {σ : St} {x : Operand} {t e : TypeId} {av : AV} {n : Nat} (ho : o.op = .call { callee := .builtin .len, args := #[x], argTypes := #[t] })
    (ht : elem? P t = some e) (hx : σ.ev x = av) (hl : ∀ w p v, RelV w p av v → ∃ a cap, v = .slice a n cap) : PureOp P o σ (.s (.int .i64 n)) := by
  intro act w p hs _
  obtain ⟨a, cap, hv⟩ := hl w p _ (hx ▸ ev_rel hs x)
  exact ⟨_, by simp [execOp, ho, resolve, invoke, builtin, Builtin.len_, hv, run_underlying (elem?_inv ht), goInt], .s _⟩
theorem pure_len_sl {o : Oper} {σ : St} {x : Operand} {t e : TypeId} {k : Nat} {xs : List (List AV)} (ho : o.op = .call { callee := .builtin .len, args := #[x], argTypes := #[t] })
    (ht : elem? P t = some e) (hx : σ.ev x = .sl k xs) : PureOp P o σ (.s (.int .i64 xs.length)) := pure_len_of ho ht hx fun _ _ _ h => h.sl_inv
theorem pure_len_own {o : Oper} {σ : St} {x : Operand} {t e : TypeId} {g k off n : Nat} (ho : o.op = .call { callee := .builtin .len, args := #[x], argTypes := #[t] })
    (ht : elem? P t = some e) (hx : σ.ev x = .own g k off n) : PureOp P o σ (.s (.int .i64 n)) := pure_len_of ho ht hx fun _ _ _ h => h.own_inv

theorem pure_min {o : Oper} {σ : St} {x y : Operand} {t1 t2 : TypeId} {k k' : IntKind} {a b : Int} (ho : o.op = .call { callee := .builtin .min, args := #[x, y], argTypes := #[t1, t2] })
    (hx : σ.ev x = .s (.int k a)) (hy : σ.ev y = .s (.int k' b)) : PureOp P o σ (.s (.int k (min a b))) := by
  intro act w p hs _
  refine ⟨.int k (if b < a then b else a), by simp [execOp, ho, resolve, invoke, builtin, Builtin.min_, Builtin.min2, ev_s hs hx, ev_s hs hy], ?_⟩
  have : min a b = if b < a then b else a := by split <;> omega
  rw [this]; exact .s _
theorem pure_max {o : Oper} {σ : St} {x y : Operand} {t1 t2 : TypeId} {k k' : IntKind} {a b : Int} (ho : o.op = .call { callee := .builtin .max, args := #[x, y], argTypes := #[t1, t2] })
    (hx : σ.ev x = .s (.int k a)) (hy : σ.ev y = .s (.int k' b)) : PureOp P o σ (.s (.int k (max a b))) := by
  intro act w p hs _
  refine ⟨.int k (if b > a then b else a), by simp [execOp, ho, resolve, invoke, builtin, Builtin.max_, Builtin.max2, ev_s hs hx, ev_s hs hy], ?_⟩
  have : max a b = if b > a then b else a := by split <;> omega
  rw [this]; exact .s _

theorem pure_extract {o : Oper} {σ : St} {x : Operand} {i : Nat} {vs : List AV} {c : AV} (ho : o.op = .extract x i) (hx : σ.ev x = .tup vs) (hi : vs[i]? = some c) : PureOp P o σ c := by
  intro act w p hs _
  have := ev_rel hs x
  rw [hx] at this
  generalize hv : act.eval x = v at *
  cases this with
  | tup cs us hl h =>
    have hlt : i < us.size := by rw [← hl]; exact (List.getElem?_eq_some_iff.1 hi).1
    have e : us[i]? = some us[i] := by simp [hlt]
    exact ⟨us[i], by simp [execOp, ho, hv, Instr.extract, e], h i c _ hi e⟩

theorem pure_indexAddr_sl {o : Oper} {σ : St} {x i : Operand} {t e : TypeId} {k : Nat} {xs : List (List AV)} {c : List AV} {kd : IntKind} {n : Int} (ho : o.op = .indexAddr t x i) (ht : elem? P t = some e) (hk : cells? P e = some k)
    (hx : σ.ev x = .sl k xs) (hi : σ.ev i = .s (.int kd n)) (hn : 0 ≤ n ∧ xs[n.toNat]? = some c) : PureOp P o σ (.adr c) := by
  intro act w p hs _
  have h1 := ev_rel hs x
  rw [hx] at h1
  have e2 := ev_s hs hi
  obtain ⟨h0, hc⟩ := hn
  have hlt : n.toNat < xs.length := (List.getElem?_eq_some_iff.1 hc).1
  generalize hv : act.eval x = v at *
  cases h1 with
  | sln => simp at hlt
  | slc _ _ b off cap f hb hn' hcap hkk hcc hr =>
    refine ⟨.pointer (some ⟨b, off + n.toNat * k, none⟩), ?_, .adr c b (off + n.toNat * k) (f n.toNat) hb ((hkk c (List.mem_of_getElem? hc)).2) (fun j y hy => ?_) (fun j y hy => hr _ _ j y hc hy)⟩
    · have : n < (xs.length : Int) := by omega
      simp [execOp, ho, hv, e2, Instr.indexAt, asIntOf, run_underlying (elem?_inv ht), h0, this, run_size hk, add_at]
    · exact hcc _ _ j y hc hy

theorem pure_load_adr {o : Oper} {σ : St} {x : Operand} {t : TypeId} {cs : List AV} {c : AV} (ho : o.op = .load t x) (ht : agg? P t = some false) (hx : σ.ev x = .adr cs) (hc : cs[0]? = some c) : PureOp P o σ c := by
  intro act w p hs _
  have h1 := ev_rel hs x
  rw [hx] at h1
  generalize hv : act.eval x = v at *
  cases h1 with
  | adr _ b off f hb hkk hcc hr =>
    refine ⟨f 0, ?_, hr 0 c hc⟩
    have := hcc 0 c hc
    simp only [Nat.add_zero] at this
    simp [execOp, ho, hv, Instr.loadAt, Instr.sureAddr, loadVar, run_agg ht, this]

theorem pure_load_adrs {o : Oper} {σ : St} {x : Operand} {t : TypeId} {cs : List AV} {n : Nat} (ho : o.op = .load t x) (ht : agg? P t = some true) (hk : cells? P t = some n) (hx : σ.ev x = .adr cs) (hn : n ≤ cs.length) :
    PureOp P o σ (.agg (cs.take n)) := by
  intro act w p hs _
  have h1 := ev_rel hs x
  rw [hx] at h1
  generalize hv : act.eval x = v at *
  cases h1 with
  | adr _ b off f hb hkk hcc hr =>
    have hall : ∀ j, j < n → w.cell? ((⟨b, off, none⟩ : Addr).add j) = some (f j) := fun j hj => by
      rw [add_at]; exact hcc j cs[j] (by simp)
    refine ⟨.agg ((List.range n).map f).toArray, ?_, .agg _ _ (by simp; omega) (fun i c u hi hu => ?_)⟩
    · have := run_loadCells (P := P) (w := w) (⟨b, off, none⟩ : Addr) n f hall
      simp [execOp, ho, hv, Instr.loadAt, Instr.sureAddr, loadVar, run_agg ht, run_size hk, this]
    · rw [List.getElem?_take] at hi
      split at hi
      · rename_i hlt
        simp [hlt] at hu
        rw [← hu]; exact hr i c hi
      · cases hi


theorem field?_inv {t : TypeId} {f off : Nat} {u : TypeId} (h : field? P t f = some (off, u)) : ∃ fs fd, P.underlying t = some (.struct fs) ∧ fs[f]? = some fd ∧ fd.offset = off ∧ fd.type = u := by
  unfold field? at h
  split at h
  · rename_i fs hu
    cases hf : fs[f]? with
    | none => simp [hf] at h
    | some fd => simp [hf] at h; exact ⟨fs, fd, hu, hf, h.1, h.2⟩
  · cases h

theorem run_fieldPlace {fd : Field} {n : Nat} (hn : cells? P fd.type = some n) (h0 : n ≠ 0) (a : Addr) (w : World) : (fieldPlace a fd).run P w = .ok (a.add fd.offset) w := by
  simp [fieldPlace, run_size hn, h0]

theorem pure_fieldAddr_adr {o : Oper} {σ : St} {x : Operand} {t u : TypeId} {f off n : Nat} {cs : List AV} (ho : o.op = .fieldAddr t x f) (ht : field? P t f = some (off, u)) (hu : cells? P u = some n) (h0 : n ≠ 0)
    (hx : σ.ev x = .adr cs) : PureOp P o σ (.adr (cs.drop off)) := by
  intro act w p hs _
  obtain ⟨fs, fd, e1, e2, rfl, rfl⟩ := field?_inv ht
  have h1 := ev_rel hs x
  rw [hx] at h1
  generalize hv : act.eval x = v at *
  cases h1 with
  | adr _ b off f hb hkk hcc hr =>
    refine ⟨.pointer (some ⟨b, off + fd.offset, none⟩), by simp [execOp, ho, hv, Instr.fieldAt, Instr.sureAddr, run_underlying e1, e2, run_fieldPlace hu h0, add_at], .adr _ b _ (fun i => f (fd.offset + i)) hb (fun c hc => hkk c (List.mem_of_mem_drop hc)) (fun i c hi => ?_) (fun i c hi => ?_)⟩
    · rw [List.getElem?_drop] at hi
      rw [Nat.add_assoc]; exact hcc _ c hi
    · rw [List.getElem?_drop] at hi
      exact hr _ c hi

theorem pure_fieldAddr_ref {o : Oper} {σ : St} {x : Operand} {t u : TypeId} {f off n : Nat} {g k j i : Nat} (ho : o.op = .fieldAddr t x f) (ht : field? P t f = some (off, u)) (hu : cells? P u = some n) (h0 : n ≠ 0)
    (hx : σ.ev x = .ref g k j i) : PureOp P o σ (.ref g k j (i + off)) := by
  intro act w p hs _
  obtain ⟨fs, fd, e1, e2, rfl, rfl⟩ := field?_inv ht
  have h1 := ev_rel hs x
  rw [hx] at h1
  generalize hv : act.eval x = v at *
  cases h1 with
  | ref _ _ _ _ b hg =>
    refine ⟨.pointer (some ⟨b, j * k + (i + fd.offset), none⟩), by simp [execOp, ho, hv, Instr.fieldAt, Instr.sureAddr, run_underlying e1, e2, run_fieldPlace hu h0, add_at, Nat.add_assoc], .ref _ _ _ _ b hg⟩

theorem pure_indexAddr_own {o : Oper} {σ : St} {x i : Operand} {t e : TypeId} {g k off m : Nat} {kd : IntKind} {n : Int} (ho : o.op = .indexAddr t x i) (ht : elem? P t = some e) (hk : cells? P e = some k)
    (hx : σ.ev x = .own g k off m) (hi : σ.ev i = .s (.int kd n)) (hn : 0 ≤ n ∧ n < m) : PureOp P o σ (.ref g k (off + n.toNat) 0) := by
  intro act w p hs _
  have h1 := ev_rel hs x
  rw [hx] at h1
  have e2 := ev_s hs hi
  obtain ⟨h0, hlt⟩ := hn
  generalize hv : act.eval x = v at *
  cases h1 with
  | ownn => omega
  | own0 => omega
  | own _ _ _ _ b cap cur T hg hnc hcap hh hsz =>
    refine ⟨.pointer (some ⟨b, off * k + n.toNat * k, none⟩), ?_, ?_⟩
    · simp [execOp, ho, hv, e2, Instr.indexAt, asIntOf, run_underlying (elem?_inv ht), h0, hlt, run_size hk, add_at]
    · have : off * k + n.toNat * k = (off + n.toNat) * k + 0 := by rw [Nat.add_mul]; rfl
      rw [this]; exact .ref _ _ _ _ b hg

theorem run_part1 {t : TypeId} (ht : agg? P t = some false) {cs : Array Value} {off : Nat} {v : Value} (hv : cs[off]? = some v) (w : World) : (part t cs off).run P w = .ok v w := by
  simp [part, run_agg ht, hv]
theorem run_parts {t : TypeId} {n : Nat} (ht : agg? P t = some true) (hn : cells? P t = some n) (cs : Array Value) (off : Nat) (w : World) : (part t cs off).run P w = .ok (.agg (cs.extract off (off + n))) w := by
  simp [part, run_agg ht, run_size hn]

theorem pure_field1 {o : Oper} {σ : St} {x : Operand} {t u : TypeId} {f off : Nat} {cs : List AV} {c : AV} (ho : o.op = .field t x f) (ht : field? P t f = some (off, u)) (hu : agg? P u = some false)
    (hx : σ.ev x = .agg cs) (hc : cs[off]? = some c) : PureOp P o σ c := by
  intro act w p hs _
  obtain ⟨fs, fd, e1, e2, rfl, rfl⟩ := field?_inv ht
  have h1 := ev_rel hs x
  rw [hx] at h1
  generalize hv : act.eval x = v at *
  cases h1 with
  | agg _ us hl h =>
    have hlt : fd.offset < us.size := by rw [← hl]; exact (List.getElem?_eq_some_iff.1 hc).1
    have e : us[fd.offset]? = some us[fd.offset] := by simp [hlt]
    exact ⟨us[fd.offset], by simp [execOp, ho, hv, Instr.field, asAgg, run_underlying e1, e2, run_part1 hu e], h _ c _ hc e⟩

theorem pure_fields {o : Oper} {σ : St} {x : Operand} {t u : TypeId} {f off n : Nat} {cs : List AV} (ho : o.op = .field t x f) (ht : field? P t f = some (off, u)) (hu : agg? P u = some true) (hn : cells? P u = some n)
    (hx : σ.ev x = .agg cs) (hlen : off + n ≤ cs.length) : PureOp P o σ (.agg ((cs.drop off).take n)) := by
  intro act w p hs _
  obtain ⟨fs, fd, e1, e2, rfl, rfl⟩ := field?_inv ht
  have h1 := ev_rel hs x
  rw [hx] at h1
  generalize hv : act.eval x = v at *
  cases h1 with
  | agg _ us hl h =>
    refine ⟨.agg (us.extract fd.offset (fd.offset + n)), by simp [execOp, ho, hv, Instr.field, asAgg, run_underlying e1, e2, run_parts hu hn], .agg _ _ (by simp; omega) (fun i c v hi hv => ?_)⟩
    rw [List.getElem?_take] at hi
    split at hi
    · rename_i hlt
      rw [List.getElem?_drop] at hi
      rw [Array.getElem?_extract] at hv
      split at hv
      · exact h _ c v hi hv
      · cases hv
    · cases hi

theorem pure_index_str {o : Oper} {σ : St} {x i : Operand} {t : TypeId} {s : ByteArray} {kd : IntKind} {n : Int} {b : UInt8} (ho : o.op = .index t x i) (ht : P.underlying t = some .string)
    (hx : σ.ev x = .s (.string s)) (hi : σ.ev i = .s (.int kd n)) (hn : 0 ≤ n ∧ s.data[n.toNat]? = some b) : PureOp P o σ (.s (.int .u8 b.toNat)) := by
  intro act w p hs _
  obtain ⟨h0, hb⟩ := hn
  have hlt : n.toNat < s.size := (Array.getElem?_eq_some_iff.1 hb).1
  have e : s[n.toNat]? = some b := by
    rw [getElem?_pos s n.toNat hlt]
    obtain ⟨_, h⟩ := Array.getElem?_eq_some_iff.1 hb
    exact congrArg some h
  exact ⟨_, by simp [execOp, ho, ev_s hs hx, ev_s hs hi, Instr.index, asIntOf, run_underlying ht, h0, e], .s _⟩

theorem pure_makeFunc {o : Oper} {σ : St} {f : Nat} {l : List Operand} (ho : o.op = .makeFunc (.func f) #[] l.toArray) : PureOp P o σ (.fn f (l.map σ.ev)) := by
  intro act w p hs _
  refine ⟨.func (.func f) #[] (l.map act.eval).toArray, by simp [execOp, ho, Instr.makeFunc], .fn _ _ _ (by simp) (fun i c v hc hv => ?_)⟩
  rw [List.getElem?_map] at hc
  simp only [List.getElem?_toArray, List.getElem?_map] at hv
  cases hl : l[i]? with
  | none => simp [hl] at hc
  | some x => simp [hl] at hc hv; rw [← hc, ← hv]; exact ev_rel hs x

end Go.Abs
set_option linter.unusedVariables false
set_option linter.unusedSimpArgs false
namespace Go.Abs
open Go Go.RowKit
variable {P : Program} {w0 : World} {p0 : Hp}

def AV.one : AV → Bool
  | .s v => v.oneCell'
  | .agg _ | .tup _ | .bad => false
  | _ => true
theorem AV.one_of_leaf {c : AV} (h : c.leaf = true) : c.one = true := by cases c <;> first | exact h | rfl | (simp [AV.leaf] at h)
/-- The cells of a value. -/
def AV.cells : AV → List AV
  | .agg cs => cs
  | a => [a]

theorem RelV.one {w : World} {p : Hp} {c : AV} {v : Value} (h : RelV w p c v) (h1 : c.one = true) : v.oneCell' = true := by
  cases h <;> first | exact h1 | (simp [AV.one] at h1; done) | rfl

theorem RelV.cells {w : World} {p : Hp} {a : AV} {v : Value} (h : RelV w p a v) (h1 : ∀ c ∈ a.cells, c.one = true) :
    a.cells.length = v.cells.size ∧ ∀ (i : Nat) c, a.cells[i]? = some c → ∃ u, v.cells[i]? = some u ∧ RelV w p c u := by
  by_cases hagg : ∃ cs, a = .agg cs
  · obtain ⟨cs, rfl⟩ := hagg
    cases h with
    | agg _ vs hl h =>
      refine ⟨hl, fun i c hi => ?_⟩
      simp only [AV.cells] at hi
      have hlt : i < vs.size := by rw [← hl]; exact (List.getElem?_eq_some_iff.1 hi).1
      exact ⟨vs[i], by simp [Value.cells, hlt], h i c _ hi (by simp [hlt])⟩
  · have e : a.cells = [a] := by cases a <;> first | rfl | (exact absurd ⟨_, rfl⟩ hagg)
    have h2 := h.one (h1 a (by simp [e]))
    have e2 : v.cells = #[v] := by cases v <;> first | rfl | (simp [Value.oneCell'] at h2)
    rw [e, e2]
    refine ⟨rfl, fun i c hi => ?_⟩
    cases i with
    | zero => simp at hi; exact ⟨v, rfl, hi ▸ h⟩
    | succ i => simp at hi

/-- A cell of a block of this call's own. -/
theorem cell_of_heap {w : World} {b : Nat} {cur : Array Value} {T : TypeId} {z : Nat × Nat} (h : w.heap[b]? = some (.cells cur T z)) (i : Nat) : w.cell? ⟨b, i, none⟩ = cur[i]? := by
  simp [World.cell?, h]

/-- What stands at element j, from cell f on, of a block. -/
def AM.at (m : AM) (k j f : Nat) : List AV :=
  match m with
  | .box cs => if j = 0 then cs.drop f else []
  | .buf k' xs => if k' = k then ((xs[j]?).getD []).drop f else []

theorem AMRel.at {w : World} {p : Hp} {g : Nat} {m : AM} (h : AMRel w p g m) {k j f b : Nat} (hg : p.o g = some (some b)) (i : Nat) (c : AV) (hc : (m.at k j f)[i]? = some c) :
    ∃ v, w.cell? ⟨b, j * k + f + i, none⟩ = some v ∧ RelV w p c v := by
  cases m with
  | box cs =>
    simp only [AM.at] at hc
    split at hc
    · rename_i hj; subst hj
      obtain ⟨b', cur, T, h1, h2, h3, h4⟩ := h
      rw [hg] at h1; cases h1
      rw [List.getElem?_drop] at hc
      obtain ⟨v, hv, hr⟩ := h4 _ c hc
      exact ⟨v, by rw [cell_of_heap h2, Nat.zero_mul, Nat.zero_add]; exact hv, hr⟩
    · simp at hc
  | buf k' xs =>
    simp only [AM.at] at hc
    split at hc
    · rename_i hk; subst hk
      cases hx : xs[j]? with
      | none => simp [hx] at hc
      | some x =>
        simp only [hx, Option.getD_some, List.getElem?_drop] at hc
        rcases h with ⟨rfl, h1⟩ | ⟨b', cur, T, h1, h2, h3, h4, h5⟩
        · simp at hx
        · rw [hg] at h1; cases h1
          obtain ⟨v, hv, hr⟩ := h5 j x _ c hx hc
          exact ⟨v, by rw [cell_of_heap h2, Nat.add_assoc]; exact hv, hr⟩
    · simp at hc

theorem pure_load_ref {o : Oper} {σ : St} {x : Operand} {t : TypeId} {g k j f : Nat} {m : AM} {c : AV} (ho : o.op = .load t x) (ht : agg? P t = some false) (hx : σ.ev x = .ref g k j f) (hm : look σ.mem g = some m)
    (hc : (m.at k j f)[0]? = some c) : PureOp P o σ c := by
  intro act w p hs hmem
  have h1 := ev_rel hs x
  rw [hx] at h1
  generalize hv : act.eval x = v at *
  cases h1 with
  | ref _ _ _ _ b hg =>
    obtain ⟨v, hv', hr⟩ := (hmem.holds g m hm).at hg 0 c hc
    simp only [Nat.add_zero] at hv'
    exact ⟨v, by simp [execOp, ho, hv, Instr.loadAt, Instr.sureAddr, loadVar, run_agg ht, hv'], hr⟩

theorem pure_load_refs {o : Oper} {σ : St} {x : Operand} {t : TypeId} {g k j f n : Nat} {m : AM} (ho : o.op = .load t x) (ht : agg? P t = some true) (hk : cells? P t = some n) (hx : σ.ev x = .ref g k j f) (hm : look σ.mem g = some m)
    (hn : n ≤ (m.at k j f).length) : PureOp P o σ (.agg ((m.at k j f).take n)) := by
  intro act w p hs hmem
  have h1 := ev_rel hs x
  rw [hx] at h1
  generalize hv : act.eval x = v at *
  cases h1 with
  | ref _ _ _ _ b hg =>
    have hall : ∀ i, i < n → ∃ u, w.cell? ⟨b, j * k + f + i, none⟩ = some u ∧ ∀ c, (m.at k j f)[i]? = some c → RelV w p c u := fun i hi => by
      have e := List.getElem?_eq_getElem (l := m.at k j f) (i := i) (by omega)
      obtain ⟨u, h1, h2⟩ := (hmem.holds g m hm).at hg i _ e
      exact ⟨u, h1, fun c hc => by rw [e] at hc; cases hc; exact h2⟩
    let F : Nat → Value := fun i => if h : i < n then (hall i h).choose else undef
    have hF : ∀ i, (h : i < n) → w.cell? ⟨b, j * k + f + i, none⟩ = some (F i) ∧ ∀ c, (m.at k j f)[i]? = some c → RelV w p c (F i) := fun i h => by
      have := (hall i h).choose_spec
      simpa [F, h] using this
    refine ⟨.agg ((List.range n).map F).toArray, ?_, .agg _ _ (by simp; omega) (fun i c u hi hu => ?_)⟩
    · have := run_loadCells (P := P) (w := w) (⟨b, j * k + f, none⟩ : Addr) n F (fun i hi => by rw [add_at]; exact (hF i hi).1)
      simp [execOp, ho, hv, Instr.loadAt, Instr.sureAddr, loadVar, run_agg ht, run_size hk, this]
    · rw [List.getElem?_take] at hi
      split at hi
      · rename_i hlt
        simp [hlt] at hu
        rw [← hu]; exact (hF i hlt).2 c hi
      · cases hi

end Go.Abs
set_option linter.unusedVariables false
set_option linter.unusedSimpArgs false
namespace Go.Abs
open Go Go.RowKit
variable {P : Program} {w0 : World} {p0 : Hp}

def Hp.upd (p : Hp) (g : Nat) (x : Option (Option Nat)) : Hp := { o := fun g' => if g' = g then x else p.o g', A := p.A }

theorem AMRel.keep {w : World} {p : Hp} {w' : World} {q : Hp} (hk : Keeps w p w' q) {g : Nat} {m : AM} (h : AMRel w p g m)
    (hh : ∀ b, p.o g = some (some b) → w'.heap[b]? = w.heap[b]?) : AMRel w' q g m := by
  cases m with
  | box cs =>
    obtain ⟨b, cur, T, h1, h2, h3, h4⟩ := h
    exact ⟨b, cur, T, hk.name _ _ h1, by rw [hh b h1]; exact h2, h3, fun i c hc => let ⟨v, a, r⟩ := h4 i c hc; ⟨v, a, r.keep hk⟩⟩
  | buf k xs =>
    rcases h with ⟨rfl, h1⟩ | ⟨b, cur, T, h1, h2, h3, h4, h5⟩
    · exact .inl ⟨rfl, hk.name _ _ h1⟩
    · exact .inr ⟨b, cur, T, hk.name _ _ h1, by rw [hh b h1]; exact h2, h3, h4, fun j x i c hx hc => let ⟨v, a, r⟩ := h5 j x i c hx hc; ⟨v, a, r.keep hk⟩⟩

theorem look_cons {α : Type} (d : Nat) (a : α) (l : List (Nat × α)) (t : Nat) : look ((d, a) :: l) t = if d = t then some a else look l t := rfl

/-- A new block under a new name. -/
theorem keeps_alloc {w : World} {p : Hp} {g : Nat} (hg : p.o g = none) (ob : Obj) : Keeps w p (w.alloc ob) (p.upd g (some (some w.heap.size))) := by
  refine ⟨fun b hb => ⟨⟨by simp; have := hb.1; omega, fun g' h => ?_, hb.2.2⟩, Below.heap_alloc _ _ _ hb.1⟩, fun g' x h => ?_, fun g' b h cur T hh => ?_⟩
  · simp only [Hp.upd] at h
    split at h
    · cases h; exact absurd hb.1 (Nat.lt_irrefl _)
    · exact hb.2.1 g' h
  · simp only [Hp.upd]
    split
    · rename_i e; subst e; rw [hg] at h; cases h
    · exact h
  · have hlt : b < w.heap.size := (Array.getElem?_eq_some_iff.1 hh).1
    exact ⟨cur, by rw [Below.heap_alloc _ _ _ hlt]; exact hh, rfl⟩

/-- Steps that keep, and only make or write what is this call's own, extend. -/
theorem Ext.step {w : World} {p : Hp} (h : Ext w0 p0 w p) {w' : World} {q : Hp} (hk : Keeps w p w' q) (hos : w'.os = w.os) (ht : w'.tape = w.tape ∧ w.drawn ≤ w'.drawn) (ho : w'.output = w.output)
    (hsz : w.heap.size ≤ w'.heap.size) (hA : q.A = p.A) (hoth : ∀ b, b < w.heap.size → p.A b → w'.heap[b]? = w.heap[b]?)
    (hnew : ∀ g, p.o g = none → q.o g ≠ none → p0.o g = none) : Ext w0 p0 w' q := by
  refine ⟨hos.trans h.os, ⟨ht.1.trans h.tape.1, Nat.le_trans h.tape.2 ht.2⟩, ho.trans h.output, Nat.le_trans h.size hsz, hA.trans h.A, fun b hb => ?_, fun b hb hAb => ?_, fun g x hx => ?_⟩
  · have h1 := h.stab b hb
    have h2 := hk.stab b h1.1
    exact ⟨h2.1, h2.2.trans h1.2⟩
  · rw [hoth b (Nat.lt_of_lt_of_le hb h.size) (by rw [h.A]; exact hAb)]
    exact h.others b hb hAb
  · rcases h.name g x hx with h1 | ⟨h1, h2⟩
    · by_cases hq : q.o g = none
      · exact .inl hq
      · rw [hnew g h1 hq] at hx; cases hx
    · refine .inr ⟨hk.name g x h1, fun b hb cur T hh => ?_⟩
      obtain ⟨c1, e1, s1⟩ := h2 b hb cur T hh
      obtain ⟨c2, e2, s2⟩ := hk.shape g b (hb ▸ h1) c1 T e1
      exact ⟨c2, e2, s2.trans s1⟩


/-- The names that a call makes by itself lie below this one; those that it is handed, from it on. -/
def E0 : Nat := 1048576
/-- What is asked of the names at a call's beginning, and of the others' blocks. -/
structure Fit (w0 : World) (p0 : Hp) : Prop where
  names : ∀ g, g < E0 → p0.o g = none
  others : ∀ b, p0.A b → b < w0.heap.size

def St.fresh (σ : St) (g : Nat) : Prop := g < E0 ∧ look σ.mem g = none

theorem MemRel.lt {w : World} {p : Hp} {mem : Mem} (hmem : MemRel w p mem) {g b : Nat} (hb : p.o g = some (some b)) : b < w.heap.size := by
  cases hl : look mem g with
  | none => rw [hmem.dom g hl] at hb; cases hb
  | some m' =>
    have := hmem.holds g m' hl
    cases m' with
    | box cs => obtain ⟨b', cur', T', e1, e2, _⟩ := this; rw [hb] at e1; cases e1; exact (Array.getElem?_eq_some_iff.1 e2).1
    | buf k xs =>
      rcases this with ⟨_, e1⟩ | ⟨b', cur', T', e1, e2, _⟩
      · rw [hb] at e1; cases e1
      · rw [hb] at e1; cases e1; exact (Array.getElem?_eq_some_iff.1 e2).1

/-- One operation that makes a block. -/
theorem rel_alloc {σ : St} {a : Act} {w : World} (hf : Fit w0 p0) (hr : Rel w0 p0 σ a w) {g : Nat} (hg : σ.fresh g) (d : Option Nat) (hd : ∀ x, d = some x → x < σ.n) (cur : Array Value) (T : TypeId) (m : AM) (av : AV) (v : Value)
    (hm : ∀ p, SlotsRel w p σ.slots a.tmps → MemRel w p σ.mem → Keeps w p (w.alloc (.cells cur T)) (p.upd g (some (some w.heap.size))) → AMRel (w.alloc (.cells cur T)) (p.upd g (some (some w.heap.size))) g m)
    (hv : ∀ p, MemRel w p σ.mem → RelV (w.alloc (.cells cur T)) (p.upd g (some (some w.heap.size))) av v) :
    Rel w0 p0 ({ σ with mem := (g, m) :: σ.mem }.putO d av) (a.put d v) (w.alloc (.cells cur T)) := by
  obtain ⟨h1, h2, p, hE, hs, hmem⟩ := hr
  have hk := keeps_alloc (w := w) (hmem.dom g hg.2) (.cells cur T)
  have hA : ∀ b, p.A b → b < w.heap.size := fun b hb => Nat.lt_of_lt_of_le (hf.others b (hE.A ▸ hb)) hE.size
  have hE' : Ext w0 p0 (w.alloc (.cells cur T)) (p.upd g (some (some w.heap.size))) :=
    hE.step hk rfl ⟨rfl, Nat.le_refl _⟩ rfl (by simp) rfl (fun b hb _ => Below.heap_alloc _ _ _ hb) (fun g' hp hq => by
      simp only [Hp.upd] at hq
      split at hq
      · rename_i e; subst e; exact hf.names _ hg.1
      · exact absurd hp hq)
  have hmem' : MemRel (w.alloc (.cells cur T)) (p.upd g (some (some w.heap.size))) ((g, m) :: σ.mem) := by
    refine ⟨fun g' hl => ?_, fun g' m' hl => ?_, fun g1 g2 b e1 e2 => ?_, fun g' b e hb => ?_⟩
    · rw [look_cons] at hl
      split at hl
      · cases hl
      · rename_i hne
        simp only [Hp.upd]; rw [if_neg (fun e => hne e.symm)]; exact hmem.dom g' hl
    · rw [look_cons] at hl
      split at hl
      · rename_i e; subst e; cases hl
        exact hm p hs hmem hk
      · refine (hmem.holds g' m' hl).keep hk fun b hb => ?_
        have hlt : b < w.heap.size := hmem.lt hb
        exact Below.heap_alloc _ _ _ hlt
    · have hlt : ∀ g', ∀ b, p.o g' = some (some b) → b < w.heap.size := fun g' b hb => hmem.lt hb
      simp only [Hp.upd] at e1 e2
      split at e1 <;> split at e2 <;> rename_i c1 c2
      · rw [c1, c2]
      · cases e1; exact absurd (hlt _ _ e2) (Nat.lt_irrefl _)
      · cases e2; exact absurd (hlt _ _ e1) (Nat.lt_irrefl _)
      · exact hmem.inj g1 g2 b e1 e2
    · simp only [Hp.upd] at e hb
      split at e
      · cases e; exact absurd (hA _ hb) (Nat.lt_irrefl _)
      · exact hmem.avoid g' b e hb
  cases d with
  | none => exact ⟨h1, h2, _, hE', hs.keep hk, hmem'⟩
  | some d => exact ⟨h1, by simpa [Act.put, St.putO, St.put] using h2, _, hE', (hs.keep hk).put (by rw [h2]; exact hd d rfl) (hv p hmem), hmem'⟩

end Go.Abs
set_option linter.unusedVariables false
set_option linter.unusedSimpArgs false
namespace Go.Abs
open Go Go.RowKit
variable {P : Program} {w0 : World} {p0 : Hp}

theorem aop_box {o : Oper} {σ : St} {K : St → Prop} (hf : Fit w0 p0) {elem : TypeId} {x : Operand} {d : Nat} {av : AV} (ho : o.op = .box elem x) (hdst : o.dst = some d) (hd : d < σ.n) (hfr : σ.fresh d) (hx : σ.ev x = av)
    (h1 : ∀ c ∈ av.cells, c.one = true) (hk : K ({ σ with mem := (d, .box av.cells) :: σ.mem }.put d (.ref d 0 0 0))) : AOp P w0 p0 o σ K := by
  subst hx
  intro a w next Q hr hn
  have hrun : (execOp a.eval o).run P w = .ok (.value (.pointer (some ⟨w.heap.size, 0, none⟩))) (w.alloc (.cells (a.eval x).cells elem)) := by
    simp [execOp, ho, Instr.box, newVar, newRow]
  unfold Oper.wp
  rw [hrun]
  refine hn _ _ _ hk ?_
  have := rel_alloc hf hr hfr o.dst (fun y hy => by rw [hdst] at hy; cases hy; exact hd) (a.eval x).cells elem (.box (σ.ev x).cells) (.ref d 0 0 0) (.pointer (some ⟨w.heap.size, 0, none⟩)) ?_ ?_
  · rw [hdst] at this ⊢; exact this
  · intro p hs hm hkp
    obtain ⟨hl, hc⟩ := ((ev_rel hs x).keep hkp).cells h1
    exact ⟨w.heap.size, _, elem, by simp [Hp.upd], heap_alloc_new w _, hl, hc⟩
  · intro p hm
    exact .ref d 0 0 0 w.heap.size (by simp [Hp.upd])

/-- Pointwise. -/
def RelL (w : World) (p : Hp) (cs : List AV) (vs : List Value) : Prop := cs.length = vs.length ∧ ∀ (i : Nat) c v, cs[i]? = some c → vs[i]? = some v → RelV w p c v

def splice {α : Type} (l : List α) (off : Nat) (r : List α) : List α := l.take off ++ r ++ l.drop (off + r.length)

theorem foldl_set (cells : Array Value) (off : Nat) : ∀ (vs : List Value) (n : Nat), off + n + vs.length ≤ cells.size →
    ((vs.zipIdx n).foldl (fun cs (cj : Value × Nat) => cs.setIfInBounds (off + cj.2) cj.1) cells).toList = splice cells.toList (off + n) vs := by
  intro vs
  induction vs generalizing cells with
  | nil => intro n h; simp [splice]
  | cons v vs ih =>
    intro n h
    simp only [List.length_cons] at h
    simp only [List.zipIdx_cons, List.foldl_cons]
    rw [ih _ (n + 1) (by simp; omega)]
    simp only [splice, Array.toList_setIfInBounds, List.length_cons]
    apply List.ext_getElem?
    intro i
    simp only [List.getElem?_append, List.getElem?_take, List.getElem?_drop, List.length_append, List.length_take, List.length_set, List.getElem?_set, Array.length_toList, List.getElem?_cons]
    grind

theorem RelL.splice {w : World} {p : Hp} {cs : List AV} {vs : List Value} (h : RelL w p cs vs) {off : Nat} {rs : List AV} {us : List Value} (hr : RelL w p rs us) (hoff : off + rs.length ≤ cs.length) : RelL w p (splice cs off rs) (splice vs off us) := by
  obtain ⟨h1, h2⟩ := h
  obtain ⟨h3, h4⟩ := hr
  refine ⟨by simp [Abs.splice, h1, h3], fun i c v hc hv => ?_⟩
  simp only [Abs.splice, List.getElem?_append, List.getElem?_take, List.getElem?_drop, List.length_append, List.length_take] at hc hv
  rw [← h1, ← h3] at hv
  split at hc
  · rename_i hlt
    rw [if_pos hlt] at hv
    split at hc
    · rename_i hlt2
      rw [if_pos hlt2] at hv
      split at hc
      · rename_i h5; rw [if_pos h5] at hv; exact h2 i c v hc hv
      · cases hc
    · rename_i hlt2
      rw [if_neg hlt2] at hv
      exact h4 _ c v hc hv
  · rename_i hlt
    rw [if_neg hlt] at hv
    exact h2 _ c v hc hv

end Go.Abs
set_option linter.unusedVariables false
set_option linter.unusedSimpArgs false
namespace Go.Abs
open Go Go.RowKit
variable {P : Program} {w0 : World} {p0 : Hp}

def afill (place : Nat → Option (Nat × Nat)) (cs : List AV) : List (Nat × AV) → Option (List AV)
  | [] => some cs
  | (i, a) :: r => match place i with
    | none => none
    | some (off, size) => if a.cells.length = size ∧ off + size ≤ cs.length then afill place (splice cs off a.cells) r else none

theorem fill_rel {w : World} {p : Hp} {σ : St} {act : Act} (hs : SlotsRel w p σ.slots act.tmps) (place : Nat → Option (Nat × Nat)) : ∀ (parts : List (Nat × Operand)) (cs cs' : List AV) (cells : Array Value),
    RelL w p cs cells.toList → (∀ x ∈ parts, ∀ c ∈ (σ.ev x.2).cells, c.one = true) → afill place cs (parts.map fun x => (x.1, σ.ev x.2)) = some cs' →
    ∃ cells', Instr.fill place cells (parts.map fun x => (x.1, act.eval x.2)) = some cells' ∧ RelL w p cs' cells'.toList := by
  intro parts
  induction parts with
  | nil => intro cs cs' cells h _ hf; simp [afill] at hf; subst hf; exact ⟨cells, rfl, h⟩
  | cons x parts ih =>
    intro cs cs' cells h h1 hf
    simp only [List.map_cons, afill] at hf
    cases hpl : place x.1 with
    | none => simp [hpl] at hf
    | some os =>
      obtain ⟨off, size⟩ := os
      simp only [hpl] at hf
      split at hf
      · rename_i hc
        obtain ⟨hlen, hoff⟩ := hc
        obtain ⟨e1, e2⟩ := (ev_rel hs x.2).cells (h1 x (by simp))
        have hrl : RelL w p (σ.ev x.2).cells (act.eval x.2).cells.toList := ⟨by simpa using e1, fun i c v hc hv => by
          obtain ⟨u, hu, hr⟩ := e2 i c hc
          simp only [Array.getElem?_toList] at hv
          rw [hu] at hv; cases hv; exact hr⟩
        have hsz : (act.eval x.2).cells.size = size := by rw [← e1]; exact hlen
        have hcs : off + size ≤ cells.size := by have := h.1; simp at this; omega
        have hset := foldl_set cells off (act.eval x.2).cells.toList 0 (by simp [hsz]; omega)
        obtain ⟨cells', hf', hr'⟩ := ih (splice cs off (σ.ev x.2).cells) cs' ((act.eval x.2).cells.zipIdx.foldl (fun cs (cj : Value × Nat) => cs.setIfInBounds (off + cj.2) cj.1) cells)
          (by
            have e : ((act.eval x.2).cells.zipIdx.foldl (fun cs (cj : Value × Nat) => cs.setIfInBounds (off + cj.2) cj.1) cells).toList = splice cells.toList off (act.eval x.2).cells.toList := by
              rw [← Array.foldl_toList, Array.toList_zipIdx]; simpa using hset
            rw [e]; exact h.splice hrl (by omega))
          (fun y hy => h1 y (by simp [hy])) hf
        refine ⟨cells', ?_, hr'⟩
        simp only [List.map_cons, Instr.fill, hpl]
        rw [if_neg (by simp [hsz]; omega)]
        exact hf'
      · cases hf

def zeros? (P : Program) (t : TypeId) : Option (List Value) := (P.info? t).bind fun i => i.zero.map fun z => z.cells.toList
def places? (P : Program) (t : TypeId) : Option (List (Nat × Nat)) := match P.underlying t with | some (.struct fs) => fs.toList.mapM fun f => (cells? P f.type).map fun n => (f.offset, n) | _ => none

theorem run_places (P : Program) (w : World) : ∀ (fs : List Field) (l : List (Nat × Nat)), (fs.mapM fun f => (cells? P f.type).map fun n => (f.offset, n)) = some l →
    (fs.mapM (m := Sem) fun f => Prod.mk f.offset <$> sizeOf f.type).run P w = .ok l w := by
  intro fs
  induction fs with
  | nil => intro l h; simp at h; subst h; rfl
  | cons f fs ih =>
    intro l h
    simp only [List.mapM_cons] at h ⊢
    cases hc : cells? P f.type with
    | none => simp [hc] at h
    | some n =>
      cases hm : (fs.mapM fun f => (cells? P f.type).map fun n => (f.offset, n)) with
      | none => simp [hc, hm] at h
      | some l' =>
        simp [hc, hm] at h
        subst h
        simp [Sem.run_bind, run_size hc, ih l' hm]

theorem zeros?_inv {t : TypeId} {zs : List Value} (h : zeros? P t = some zs) (w : World) : ∃ z, (zeroValue t).run P w = .ok z w ∧ z.cells.toList = zs := by
  unfold zeros? at h
  cases hi : P.info? t with
  | none => simp [hi] at h
  | some i =>
    cases hz : i.zero with
    | none => simp [hi, hz] at h
    | some z => simp [hi, hz] at h; exact ⟨z, by simp [zeroValue, typeInfo, hi, hz], h⟩

theorem pure_build {o : Oper} {σ : St} {t : TypeId} {parts : List (Nat × Operand)} {zs : List Value} {pl : List (Nat × Nat)} {cs : List AV} (ho : o.op = .build t parts.toArray) (hz : zeros? P t = some zs) (hp : places? P t = some pl)
    (h1 : ∀ x ∈ parts, ∀ c ∈ (σ.ev x.2).cells, c.one = true) (hc : afill (fun i => pl[i]?) (zs.map .s) (parts.map fun x => (x.1, σ.ev x.2)) = some cs) : PureOp P o σ (.agg cs) := by
  intro act w p hs _
  obtain ⟨z, hz1, hz2⟩ := zeros?_inv hz w
  have hu : ∃ fs, P.underlying t = some (.struct fs) ∧ fs.toList.mapM (fun f => (cells? P f.type).map fun n => (f.offset, n)) = some pl := by
    unfold places? at hp
    split at hp
    · rename_i fs hu; exact ⟨fs, hu, hp⟩
    · cases hp
  obtain ⟨fs, hu, hm⟩ := hu
  have hzr : RelL w p (zs.map .s) z.cells.toList := by
    rw [hz2]
    refine ⟨by simp, fun i c v hc hv => ?_⟩
    simp [hv] at hc; subst hc; exact .s v
  obtain ⟨cells', hf, hr⟩ := fill_rel hs (fun i => pl[i]?) parts (zs.map .s) cs z.cells hzr h1 hc
  refine ⟨.agg cells', ?_, .agg _ _ (by simpa using hr.1) (fun i c v hc hv => hr.2 i c v hc (by simpa using hv))⟩
  have hpl := run_places P w fs.toList pl hm
  have hpl2 : (fs.mapM (m := Sem) fun f => Prod.mk f.offset <$> sizeOf f.type).run P w = .ok pl.toArray w := by
    rw [Array.mapM_eq_mapM_toList, map_eq_pure_bind, Sem.run_bind, hpl]
    rfl
  simp only [execOp, ho, Instr.build]
  simp [Sem.run_bind, hz1, run_underlying hu, hpl2]
  rw [hf]
  simp

end Go.Abs
set_option linter.unusedVariables false
set_option linter.unusedSimpArgs false
namespace Go.Abs
open Go Go.RowKit
variable {P : Program} {w0 : World} {p0 : Hp}

theorem flatten_length {α : Type} {k : Nat} : ∀ {xs : List (List α)}, (∀ x ∈ xs, x.length = k) → xs.flatten.length = xs.length * k
  | [], _ => by simp
  | x :: xs, h => by
    have := flatten_length (xs := xs) (fun y hy => h y (by simp [hy]))
    simp only [List.flatten_cons, List.length_append, List.length_cons, this, h x (by simp)]
    rw [Nat.add_mul]; omega

theorem flatten_get {α : Type} {k : Nat} : ∀ {xs : List (List α)}, (∀ x ∈ xs, x.length = k) → ∀ {j : Nat} {x : List α} {i : Nat} {c : α}, xs[j]? = some x → x[i]? = some c → xs.flatten[j * k + i]? = some c
  | [], _, _, _, _, _, hj, _ => by simp at hj
  | y :: xs, h, 0, x, i, c, hj, hi => by
    simp at hj; subst hj
    have hlt := (List.getElem?_eq_some_iff.1 hi).1
    simp only [List.flatten_cons, Nat.zero_mul, Nat.zero_add]
    rw [List.getElem?_append_left hlt]; exact hi
  | y :: xs, h, j + 1, x, i, c, hj, hi => by
    have hy := h y (by simp)
    simp only [List.flatten_cons]
    rw [List.getElem?_append_right (by rw [hy, Nat.add_mul]; omega)]
    have e : (j + 1) * k + i - y.length = j * k + i := by rw [hy, Nat.add_mul]; omega
    rw [e]
    exact flatten_get (fun z hz => h z (by simp [hz])) (by simpa using hj) hi

theorem afill_all {k : Nat} : ∀ (l : List (Nat × AV)) (n : Nat) (cs : List AV), l.map (·.1) = List.range' n l.length → (∀ x ∈ l, x.2.cells.length = k) → (n + l.length) * k ≤ cs.length →
    afill (fun i => some (i * k, k)) cs l = some (cs.take (n * k) ++ (l.map fun x => x.2.cells).flatten ++ cs.drop ((n + l.length) * k))
  | [], n, cs, _, _, _ => by simp [afill]
  | x :: l, n, cs, hm, hk, hl => by
    simp only [List.map_cons, List.length_cons, List.range'_succ, List.cons.injEq] at hm
    obtain ⟨h1, h2⟩ := hm
    have hx := hk x (by simp)
    have hnk : (n + (l.length + 1)) * k = n * k + k + l.length * k := by rw [Nat.add_mul, Nat.add_mul]; omega
    simp only [List.length_cons] at hl
    obtain ⟨i, a⟩ := x
    simp only at h1 hx
    subst h1
    simp only [afill]
    rw [if_pos ⟨hx, by omega⟩]
    have hs : (splice cs (i * k) a.cells).length = cs.length := by simp [splice, hx]; omega
    rw [afill_all l (i + 1) _ h2 (fun y hy => hk y (by simp [hy])) (by rw [hs]; have : (i + 1 + l.length) * k = (i + (l.length + 1)) * k := by congr 1; omega
                                                                       omega)]
    congr 1
    have e1 : (splice cs (i * k) a.cells).take ((i + 1) * k) = cs.take (i * k) ++ a.cells := by
      simp only [splice]
      rw [List.take_append_of_le_length (by simp [hx, Nat.add_mul]; omega)]
      rw [List.take_of_length_le (by simp [hx, Nat.add_mul]; omega)]
    have e2 : (splice cs (i * k) a.cells).drop ((i + 1 + l.length) * k) = cs.drop ((i + (l.length + 1)) * k) := by
      have e3 : (i + 1 + l.length) * k = i * k + k + l.length * k := by rw [Nat.add_mul, Nat.add_mul]; omega
      simp only [splice, e3]
      rw [List.drop_append]
      rw [List.drop_eq_nil_of_le (by simp [hx]; omega)]
      simp only [List.nil_append, List.drop_drop, List.length_append, List.length_take, hx]
      congr 1
      rw [hnk]; omega
    rw [e1, e2]
    simp [List.append_assoc]

theorem aop_buildSlice {o : Oper} {σ : St} {K : St → Prop} (hf : Fit w0 p0) {t e : TypeId} {len k d : Nat} {parts : List (Nat × Operand)} {xs : List (List AV)} (ho : o.op = .buildSlice t len parts.toArray) (hdst : o.dst = some d) (hd : d < σ.n) (hfr : σ.fresh d)
    (ht : elem? P t = some e) (hk : cells? P e = some k) (hk0 : 0 < k) (hz : (zeros? P e).isSome = true) (hidx : parts.map (·.1) = List.range len) (hbig : len * k ≤ 2 ^ 24)
    (hxs : (parts.map fun x => (σ.ev x.2).cells) = xs) (hx : ∀ x ∈ xs, x.length = k ∧ ∀ c ∈ x, c.leaf = true)
    (hK : K ({ σ with mem := (d, .buf k xs) :: σ.mem }.put d (.own d k 0 len))) : AOp P w0 p0 o σ K := by
  intro a w next Q hr hn
  obtain ⟨zs, hzs⟩ := Option.isSome_iff_exists.1 hz
  obtain ⟨z, hz1, hz2⟩ := zeros?_inv hzs w
  have hlen : parts.length = len := by have := congrArg List.length hidx; simpa using this
  -- the cells as they are before the parts are laid
  let z0 : Array Value := if len * k = 0 then #[] else z.cells
  let init : Array Value := (Array.range (len * k)).map (fun i => z0[i % z0.size]!)
  have hinit : init.size = len * k := by simp [init]
  have hxs' : ∀ x ∈ (parts.map fun x => (x.1, σ.ev x.2)), x.2.cells.length = k := by
    intro x hx'
    simp only [List.mem_map] at hx'
    obtain ⟨y, hy, rfl⟩ := hx'
    exact (hx _ (hxs ▸ List.mem_map.2 ⟨y, hy, rfl⟩)).1
  have hfill : ∀ p, SlotsRel w p σ.slots a.tmps → ∃ cells', Instr.fill (fun i => some (i * k, k)) init (parts.map fun x => (x.1, a.eval x.2)) = some cells' ∧ RelL w p xs.flatten cells'.toList := by
    intro p hs
    refine fill_rel hs _ parts (init.toList.map .s) _ init ⟨by simp, fun i c v hc hv => ?_⟩ (fun x hx' c hc => AV.one_of_leaf ((hx _ (hxs ▸ List.mem_map.2 ⟨x, hx', rfl⟩)).2 c hc)) ?_
    · simp only [List.getElem?_map, hv, Option.map_some, Option.some.injEq] at hc
      subst hc; exact .s v
    · have := afill_all (k := k) (parts.map fun x => (x.1, σ.ev x.2)) 0 (init.toList.map .s) (by simpa [List.map_map, Function.comp_def, hlen, List.range_eq_range'] using hidx) hxs' (by simp [hlen, hinit])
      rw [this]
      simp only [Nat.zero_mul, List.take_zero, List.nil_append, Nat.zero_add, List.length_map, hlen]
      rw [List.drop_eq_nil_of_le (by simp [hinit]), List.append_nil, ← hxs, List.map_map]
      rfl
  have hsz : xs.length = len := by rw [← hxs]; simpa using hlen
  have hall : ∀ x ∈ xs, x.length = k := fun x h => (hx x h).1
  obtain ⟨h1, h2, p, hE, hs, hm⟩ := hr
  obtain ⟨cells', hc1, hc2⟩ := hfill p hs
  have hrun : (execOp a.eval o).run P w = .ok (.value (.slice (some ⟨w.heap.size, 0, none⟩) len len)) (w.alloc (.cells cells' e)) := by
    simp only [execOp, ho, Instr.buildSlice]
    by_cases h0 : len * k = 0
    · simp [Sem.run_bind, run_underlying (elem?_inv ht), run_size hk, h0, newRow]
      have : init = #[] := by apply Array.eq_empty_of_size_eq_zero; rw [hinit, h0]
      rw [this] at hc1
      rw [show Array.map (fun _ => (default : Value)) (Array.range 0) = #[] from (by apply Array.eq_empty_of_size_eq_zero; simp), hc1]; simp
    · have hng : ¬ (16777216 < len * k) := by omega
      simp [Sem.run_bind, run_underlying (elem?_inv ht), run_size hk, h0, hz1, hng, newRow]
      have : init = Array.map (fun i => z.cells[i % z.cells.size]!) (Array.range (len * k)) := by simp [init, z0, h0]
      rw [this] at hc1
      rw [hc1]; simp
  unfold Oper.wp
  rw [hrun]
  refine hn _ _ _ hK ?_
  have hcs : cells'.size = len * k := by have := hc2.1; rw [flatten_length hall, hsz] at this; simpa using this.symm
  have hmax : len ≤ maxLen := by
    have : len ≤ len * k := Nat.le_mul_of_pos_right _ hk0
    unfold maxLen; omega
  have := rel_alloc hf ⟨h1, h2, p, hE, hs, hm⟩ hfr o.dst (fun y hy => by rw [hdst] at hy; cases hy; exact hd) cells' e (.buf k xs) (.own d k 0 len) (.slice (some ⟨w.heap.size, 0, none⟩) len len) ?_ ?_
  · rw [hdst] at this ⊢; exact this
  · intro q hsq hmq hkq
    obtain ⟨cells2, hd1, hd2⟩ := hfill q hsq
    rw [hc1] at hd1; cases hd1
    refine .inr ⟨w.heap.size, _, e, by simp [Hp.upd], heap_alloc_new w _, by rw [hsz, hcs]; exact Nat.le_refl _, hx, fun j x i c hj hi => ?_⟩
    have hfl := flatten_get hall hj hi
    have hlt : j * k + i < cells'.size := by
      have := (List.getElem?_eq_some_iff.1 hfl).1
      rw [hd2.1] at this; simpa using this
    exact ⟨cells'[j * k + i], by simp [hlt], (hd2.2 _ c _ hfl (by simp [hlt])).keep hkq⟩
  · intro q hmq
    have := RelV.own (w := w.alloc (.cells cells' e)) (p := q.upd d (some (some w.heap.size))) d k 0 len w.heap.size len cells' e (by simp [Hp.upd]) (Nat.le_refl _) hmax (heap_alloc_new w _) (by rw [hcs]; omega)
    simpa using this

end Go.Abs
set_option linter.unusedVariables false
set_option linter.unusedSimpArgs false
namespace Go.Abs
open Go Go.RowKit
variable {P : Program} {w0 : World} {p0 : Hp}

mutual
/-- It names only what is ok. -/
def AV.clean (ok : Nat → Bool) : AV → Bool
  | .s _ => true
  | .sl _ _ => true
  | .adr _ => true
  | .bad => true
  | .own g _ _ _ => ok g
  | .ref g _ _ _ => ok g
  | .agg cs => cleanL ok cs
  | .tup cs => cleanL ok cs
  | .fn _ cs => cleanL ok cs
def cleanL (ok : Nat → Bool) : List AV → Bool
  | [] => true
  | c :: cs => c.clean ok && cleanL ok cs
end

theorem cleanL_mem {ok : Nat → Bool} : ∀ {cs : List AV}, cleanL ok cs = true → ∀ c ∈ cs, c.clean ok = true
  | [], _, _, hc => by simp at hc
  | x :: cs, h, c, hc => by
    simp only [cleanL, Bool.and_eq_true] at h
    rcases List.mem_cons.1 hc with rfl | hc
    · exact h.1
    · exact cleanL_mem h.2 c hc

theorem AV.clean_of_leaf {ok : Nat → Bool} {c : AV} (h : c.leaf = true) : c.clean ok = true := by cases c <;> first | rfl | (simp [AV.leaf] at h)

theorem RelV.move {w : World} {p : Hp} {w' : World} {q : Hp} {ok : Nat → Bool} (hs : ∀ b, Stable w p b → Stable w' q b ∧ w'.heap[b]? = w.heap[b]?)
    (hn : ∀ g x, ok g = true → p.o g = some x → q.o g = some x ∧ ∀ b, x = some b → ∀ cur T, w.heap[b]? = some (.cells cur T (0, 0)) → ∃ cur', w'.heap[b]? = some (.cells cur' T (0, 0)) ∧ cur'.size = cur.size)
    {a : AV} {v : Value} (h : RelV w p a v) : a.clean ok = true → RelV w' q a v := by
  induction h with
  | s v => exact fun _ => .s v
  | agg cs vs hl _ ih => exact fun hc => .agg cs vs hl fun i c v h1 h2 => ih i c v h1 h2 (cleanL_mem hc c (List.mem_of_getElem? h1))
  | tup cs vs hl _ ih => exact fun hc => .tup cs vs hl fun i c v h1 h2 => ih i c v h1 h2 (cleanL_mem hc c (List.mem_of_getElem? h1))
  | sln k a cap hcap => exact fun _ => .sln k a cap hcap
  | slc k xs b off cap f hb hn' hcap hkk hc _ ih =>
    intro _
    have h1 := hs b hb
    exact .slc k xs b off cap f h1.1 hn' hcap hkk (fun j x i c hj hi => by rw [World.cell?_of_block (w := w) h1.2]; exact hc j x i c hj hi)
      (fun j x i c hj hi => ih j x i c hj hi (AV.clean_of_leaf ((hkk x (List.mem_of_getElem? hj)).2 c (List.mem_of_getElem? hi))))
  | ownn g k hg => exact fun hc => .ownn g k (hn g _ hc hg).1
  | own g k off n b cap cur T hg hn' hcap hh hsz =>
    intro hc
    obtain ⟨h1, h2⟩ := hn g _ hc hg
    obtain ⟨cur', h3, h4⟩ := h2 b rfl cur T hh
    exact .own g k off n b cap cur' T h1 hn' hcap h3 (by omega)
  | own0 g k off b a hg => exact fun hc => .own0 g k off b a (hn g _ hc hg).1
  | adr cs b off f hb hkk hc _ ih =>
    intro _
    have h1 := hs b hb
    exact .adr cs b off f h1.1 hkk (fun i c hi => by rw [World.cell?_of_block (w := w) h1.2]; exact hc i c hi) (fun i c hi => ih i c hi (AV.clean_of_leaf (hkk c (List.mem_of_getElem? hi))))
  | ref g k j f b hg => exact fun hc => .ref g k j f b (hn g _ hc hg).1
  | fn f cs vs hl _ ih => exact fun hc => .fn f cs vs hl fun i c v h1 h2 => ih i c v h1 h2 (cleanL_mem hc c (List.mem_of_getElem? h1))
  | bad v => exact fun _ => .bad v

mutual
/-- The value as it reads once the names are given up. -/
def AV.conv (mem : Mem) : AV → AV
  | .own g k off n => match look mem g with
    | some (.buf k' xs) => if (k = k' ∨ n = 0) ∧ off + n ≤ xs.length then .sl k ((xs.drop off).take n) else .bad
    | _ => .bad
  | .ref g k j f => match look mem g with
    | some m => if (m.at k j f).all AV.leaf then .adr (m.at k j f) else .bad
    | none => .bad
  | .agg cs => .agg (convL mem cs)
  | .tup cs => .tup (convL mem cs)
  | .fn f cs => .fn f (convL mem cs)
  | .s v => .s v
  | .sl k xs => .sl k xs
  | .adr cs => .adr cs
  | .bad => .bad
def convL (mem : Mem) : List AV → List AV
  | [] => []
  | c :: cs => c.conv mem :: convL mem cs
end
theorem convL_eq (mem : Mem) : ∀ cs, convL mem cs = cs.map (AV.conv mem)
  | [] => rfl
  | c :: cs => by simp [convL, convL_eq mem cs]

theorem AV.conv_leaf {mem : Mem} {c : AV} (h : c.leaf = true) : c.conv mem = c := by cases c <;> first | rfl | (simp [AV.leaf] at h)

/-- The same world, no names any more. -/
def Hp.bare (p : Hp) : Hp := { o := fun _ => none, A := p.A }

theorem MemRel.bare {w : World} {p : Hp} {mem : Mem} (hm : MemRel w p mem) {g b : Nat} (hg : p.o g = some (some b)) : Stable w p.bare b :=
  ⟨hm.lt hg, (fun _ h => by cases h), hm.avoid g b hg⟩
theorem Stable.bare {w : World} {p : Hp} {b : Nat} (h : Stable w p b) : Stable w p.bare b := ⟨h.1, (fun _ h => by cases h), h.2.2⟩

theorem RelV.leaf_bare {w : World} {p : Hp} {c : AV} {v : Value} (h : RelV w p c v) (hc : c.leaf = true) : RelV w p.bare c v :=
  h.move (ok := fun _ => false) (fun b hb => ⟨hb.bare, rfl⟩) (fun g x h _ => by cases h) (AV.clean_of_leaf hc)

theorem RelV.conv {w : World} {p : Hp} {mem : Mem} (hm : MemRel w p mem) {a : AV} {v : Value} (h : RelV w p a v) : RelV w p.bare (a.conv mem) v := by
  induction h with
  | s v => exact .s v
  | agg cs vs hl _ ih =>
    simp only [AV.conv, convL_eq]
    refine .agg _ vs (by simpa using hl) fun i c v h1 h2 => ?_
    rw [List.getElem?_map] at h1
    cases hi : cs[i]? with
    | none => simp [hi] at h1
    | some c' => simp [hi] at h1; subst h1; exact ih i c' v hi h2
  | tup cs vs hl _ ih =>
    simp only [AV.conv, convL_eq]
    refine .tup _ vs (by simpa using hl) fun i c v h1 h2 => ?_
    rw [List.getElem?_map] at h1
    cases hi : cs[i]? with
    | none => simp [hi] at h1
    | some c' => simp [hi] at h1; subst h1; exact ih i c' v hi h2
  | fn f cs vs hl _ ih =>
    simp only [AV.conv, convL_eq]
    refine .fn f _ vs (by simpa using hl) fun i c v h1 h2 => ?_
    rw [List.getElem?_map] at h1
    cases hi : cs[i]? with
    | none => simp [hi] at h1
    | some c' => simp [hi] at h1; subst h1; exact ih i c' v hi h2
  | sln k a cap hcap => exact .sln k a cap hcap
  | slc k xs b off cap f hb hn' hcap hkk hc hr ih =>
    exact .slc k xs b off cap f hb.bare hn' hcap hkk hc (fun j x i c hj hi => by
      have := ih j x i c hj hi
      rwa [AV.conv_leaf ((hkk x (List.mem_of_getElem? hj)).2 c (List.mem_of_getElem? hi))] at this)
  | adr cs b off f hb hkk hc hr ih =>
    exact .adr cs b off f hb.bare hkk hc (fun i c hi => by
      have := ih i c hi
      rwa [AV.conv_leaf (hkk c (List.mem_of_getElem? hi))] at this)
  | bad v => exact .bad v
  | ownn g k hg =>
    simp only [AV.conv]
    split
    · split
      · simp only [Nat.zero_add, List.drop_zero, List.take_zero] at *
        exact .sln k none 0 (by simp)
      · exact .bad _
    · exact .bad _
  | own0 g k off b a hg =>
    simp only [AV.conv]
    split
    · split
      · simp only [List.take_zero]
        exact .sln k _ 0 (by simp)
      · exact .bad _
    · exact .bad _
  | own g k off n b cap cur T hg hn' hcap hh hsz =>
    simp only [AV.conv]
    split
    · rename_i k' xs hl
      split
      · rename_i hc
        obtain ⟨hk, hlen⟩ := hc
        by_cases hn0 : n = 0
        · subst hn0
          simp only [List.take_zero]
          exact .sln k _ cap hcap
        · have hk' : k = k' := by rcases hk with h | h; exact h; exact absurd h hn0
          subst hk'
          rcases hm.holds g _ hl with ⟨rfl, _⟩ | ⟨b', cur', T', e1, e2, e3, e4, e5⟩
          · simp at hlen; omega
          · rw [hg] at e1; cases e1
            rw [hh] at e2; cases e2
            have hlen' : ((xs.drop off).take n).length = n := by simp; omega
            have hget : ∀ j x, ((xs.drop off).take n)[j]? = some x → xs[off + j]? = some x := fun j x h => by
              rw [List.getElem?_take] at h
              split at h
              · rwa [List.getElem?_drop] at h
              · cases h
            have key := RelV.slc (w := w) (p := p.bare) k ((xs.drop off).take n) b (off * k) cap (fun j i => (cur[(off + j) * k + i]?).getD undef) (hm.bare hg) (by rw [hlen']; exact hn') hcap
              (fun x hx => e4 x (List.mem_of_mem_drop (List.mem_of_mem_take hx)))
              (fun j x i c hj hi => by
                obtain ⟨u, hu, _⟩ := e5 _ x i c (hget j x hj) hi
                have e : off * k + j * k + i = (off + j) * k + i := by rw [Nat.add_mul]
                rw [cell_of_heap hh, e, hu]; rfl)
              (fun j x i c hj hi => by
                obtain ⟨u, hu, hr⟩ := e5 _ x i c (hget j x hj) hi
                rw [hu]
                exact hr.leaf_bare ((e4 x (List.mem_of_getElem? (hget j x hj))).2 c (List.mem_of_getElem? hi)))
            rwa [hlen'] at key
      · exact .bad _
    · exact .bad _
  | ref g k j f b hg =>
    simp only [AV.conv]
    split
    · rename_i m hl
      split
      · rename_i hall
        have hall' : ∀ c ∈ m.at k j f, c.leaf = true := by simpa using hall
        exact .adr (m.at k j f) b (j * k + f) (fun i => (w.cell? ⟨b, j * k + f + i, none⟩).getD undef) (hm.bare hg) hall'
          (fun i c hi => by obtain ⟨u, hu, _⟩ := (hm.holds g m hl).at hg i c hi; rw [hu]; rfl)
          (fun i c hi => by
            obtain ⟨u, hu, hr⟩ := (hm.holds g m hl).at hg i c hi
            rw [hu]; exact hr.leaf_bare (hall' c (List.mem_of_getElem? hi)))
      · exact .bad _
    · exact .bad _

end Go.Abs
set_option linter.unusedVariables false
set_option linter.unusedSimpArgs false
namespace Go.Abs
open Go Go.RowKit
variable {P : Program} {w0 : World} {p0 : Hp}

/-- What a result variable holds. -/
def aresult (P : Program) (σ : St) : ResultVar → Option AV
  | .tmp t => some (σ.get t)
  | .cell a t => match σ.get a with
    | .ref g k j f => match look σ.mem g with
      | some m => match agg? P t with
        | some false => (m.at k j f)[0]?
        | some true => match cells? P t with
          | some n => if n ≤ (m.at k j f).length then some (.agg ((m.at k j f).take n)) else none
          | none => none
        | none => none
      | none => none
    | _ => none
def ares (P : Program) (fn : Func) (σ : St) : Option AV := match fn.results.toList.mapM (aresult P σ) with
  | some [a] => some a
  | some l => some (.tup l)
  | none => none

def rv1 (tmps : Array Value) (rv : ResultVar) : Sem Value := match rv with | .tmp t => pure (tmps.getD t undef) | .cell a t => do loadVar t (← asAddr (tmps.getD a undef))
theorem results_rv1 (fn : Func) (tmps : Array Value) : results fn tmps = (do let vs ← fn.results.mapM (rv1 tmps); pure (if h : vs.size = 1 then vs[0] else .tuple vs)) := by
  unfold results
  congr 1

theorem aresult_run {σ : St} {tmps : Array Value} {w : World} {p : Hp} (hs : SlotsRel w p σ.slots tmps) (hm : MemRel w p σ.mem) (rv : ResultVar) (r : AV) (h : aresult P σ rv = some r) :
    ∃ v, (rv1 tmps rv).run P w = .ok v w ∧ RelV w p r v := by
  cases rv with
  | tmp t =>
    simp only [aresult, Option.some.injEq] at h
    subst h
    exact ⟨_, rfl, ev_rel (a := ⟨tmps, []⟩) hs (.tmp t)⟩
  | cell a t =>
    simp only [aresult] at h
    have h1 := ev_rel (a := ⟨tmps, []⟩) (σ := σ) hs (.tmp a)
    simp only [St.ev, Act.eval] at h1
    generalize hv : tmps.getD a undef = u at h1
    split at h
    · rename_i g k j f hget
      rw [hget] at h1
      cases h1 with
      | ref _ _ _ _ b hg =>
        split at h
        · rename_i m hl
          split at h
          · rename_i hagg
            obtain ⟨v, hv', hr⟩ := (hm.holds g m hl).at hg 0 r h
            simp only [Nat.add_zero] at hv'
            exact ⟨v, by simp only [rv1, hv]; simp [asAddr, loadVar, run_agg hagg, hv'], hr⟩
          · rename_i hagg
            split at h
            · rename_i n hn
              split at h
              · rename_i hlen
                cases h
                have ho : ({ dst := none, op := .load t (.tmp a), type := 0, pos := "", after := #[], guard := none } : Oper).op = .load t (.tmp a) := rfl
                obtain ⟨v, hv2, hr⟩ := pure_load_refs (P := P) (σ := σ) ho hagg hn hget hl hlen ⟨tmps, []⟩ w p hs hm
                refine ⟨v, ?_, hr⟩
                simp only [execOp, Instr.loadAt, Act.eval, hv, Instr.sureAddr] at hv2
                simp only [rv1, hv, asAddr]
                simp at hv2 ⊢
                cases hrun : Sem.run P (loadVar t { block := b, off := j * k + f }) w with
                | ok v' w' => simp [hrun] at hv2; simp [hv2]
                | halt x w' => simp [hrun] at hv2
              · cases h
            · cases h
          · cases h
        · cases h
    · cases h

theorem ares_run {fn : Func} {σ : St} {tmps : Array Value} {w : World} {p : Hp} (hs : SlotsRel w p σ.slots tmps) (hm : MemRel w p σ.mem) (r : AV) (h : ares P fn σ = some r) :
    ∃ v, (results fn tmps).run P w = .ok v w ∧ RelV w p r v := by
  have key : ∀ (l : List ResultVar) (rs : List AV), l.mapM (aresult P σ) = some rs →
      ∃ vs : List Value, (l.mapM (m := Sem) (rv1 tmps)).run P w = .ok vs w ∧ RelL w p rs vs := by
    intro l
    induction l with
    | nil => intro rs h; simp at h; subst h; exact ⟨[], rfl, rfl, by simp⟩
    | cons x l ih =>
      intro rs h
      simp only [List.mapM_cons] at h
      cases hx : aresult P σ x with
      | none => simp [hx] at h
      | some r1 =>
        cases hl : l.mapM (aresult P σ) with
        | none => simp [hx, hl] at h
        | some rs' =>
          simp [hx, hl] at h
          subst h
          obtain ⟨v, hv, hr⟩ := aresult_run hs hm x r1 hx
          obtain ⟨vs, hvs, hrs1, hrs2⟩ := ih rs' hl
          refine ⟨v :: vs, ?_, by simp [hrs1], fun i c u hc hu => ?_⟩
          · rw [List.mapM_cons, Sem.run_bind, hv, Result.andThen_ok, Sem.run_bind, hvs]; rfl
          · cases i with
            | zero => simp at hc hu; subst hc; subst hu; exact hr
            | succ i => simp at hc hu; exact hrs2 i c u hc hu
  unfold ares at h
  cases hm' : fn.results.toList.mapM (aresult P σ) with
  | none => simp [hm'] at h
  | some rs =>
    obtain ⟨vs, h1, h2, h3⟩ := key _ _ hm'
    have hrun : (results fn tmps).run P w = .ok (if h : vs.toArray.size = 1 then vs.toArray[0] else .tuple vs.toArray) w := by
      rw [results_rv1, Sem.run_bind, Array.mapM_eq_mapM_toList, map_eq_pure_bind, Sem.run_bind, h1]
      rfl
    match rs, hm', h2, h3, h with
    | [a], hm', h2, h3, h =>
      simp [hm'] at h
      subst h
      match vs, h2 with
      | [v], _ => exact ⟨v, by rw [hrun]; rfl, h3 0 a v rfl rfl⟩
    | [], hm', h2, h3, h =>
      simp [hm'] at h
      subst h
      match vs, h2 with
      | [], _ => exact ⟨_, by rw [hrun]; rfl, .tup _ _ rfl (by simp)⟩
    | a :: b :: l, hm', h2, h3, h =>
      simp [hm'] at h
      subst h
      match vs, h2 with
      | v1 :: v2 :: vs', h2 =>
        refine ⟨.tuple (v1 :: v2 :: vs').toArray, by rw [hrun]; rfl, .tup _ _ (by simpa using h2) (fun i c v hc hv => h3 i c v hc (by simpa using hv))⟩

end Go.Abs
