import Derived.WalkKit
import Derived.WalkSpells
import Derived.WalkLawsBesides
namespace Go.Abs
open Go Go.RowKit

/-- An abstract value. 's': a concrete scalar; 'sl': a slice that is only read, by its elements' cells; 'own': a view of a slice of this call's own; 'adr': an address of cells that are only read; 'ref': an address in a block of this call's own (element j of k cells each, cell f in it). -/
inductive AV where
  | s (v : Value)
  | agg (cs : List AV)
  | tup (vs : List AV)
  | sl (k : Nat) (xs : List (List AV))
  | own (g k off n : Nat)
  | adr (cs : List AV)
  | ref (g k j f : Nat)
  | fn (f : Nat) (cap : List AV)
  | bad
  deriving Inhabited

/-- A cell of memory that is only read: one cell, and nothing of this call's own. -/
def AV.leaf : AV → Bool
  | .s v => v.oneCell'
  | .sl _ _ => true
  | _ => false

/-- Which block a name has: none: no such name; some none: a nil slice. -/
abbrev Names := Nat → Option (Option Nat)

/-- 'o': the names of what this call may write; 'A': the blocks of others that this call never touches and never hands on. -/
structure Hp where
  o : Names
  A : Nat → Prop

def Stable (w : World) (h : Hp) (b : Nat) : Prop := b < w.heap.size ∧ (∀ g, h.o g ≠ some (some b)) ∧ ¬ h.A b

inductive RelV (w : World) (p : Hp) : AV → Value → Prop where
  | s (v : Value) : RelV w p (.s v) v
  | agg (cs : List AV) (vs : Array Value) (hl : cs.length = vs.size) (h : ∀ (i : Nat) c v, cs[i]? = some c → vs[i]? = some v → RelV w p c v) : RelV w p (.agg cs) (.agg vs)
  | tup (cs : List AV) (vs : Array Value) (hl : cs.length = vs.size) (h : ∀ (i : Nat) c v, cs[i]? = some c → vs[i]? = some v → RelV w p c v) : RelV w p (.tup cs) (.tuple vs)
  | sln (k : Nat) (a : Option Addr) (cap : Nat) (hcap : cap ≤ maxLen) : RelV w p (.sl k []) (.slice a 0 cap)
  | slc (k : Nat) (xs : List (List AV)) (b off cap : Nat) (f : Nat → Nat → Value) (hb : Stable w p b) (hn : xs.length ≤ cap) (hcap : cap ≤ maxLen)
      (hk : ∀ x ∈ xs, x.length = k ∧ ∀ c ∈ x, c.leaf = true)
      (hc : ∀ (j : Nat) x (i : Nat) c, xs[j]? = some x → x[i]? = some c → w.cell? ⟨b, off + j * k + i, none⟩ = some (f j i))
      (hr : ∀ (j : Nat) x (i : Nat) c, xs[j]? = some x → x[i]? = some c → RelV w p c (f j i)) :
      RelV w p (.sl k xs) (.slice (some ⟨b, off, none⟩) xs.length cap)
  | ownn (g k : Nat) (hg : p.o g = some none) : RelV w p (.own g k 0 0) (.slice none 0 0)
  | own (g k off n b cap : Nat) (cur : Array Value) (T : TypeId) (hg : p.o g = some (some b)) (hn : n ≤ cap) (hcap : cap ≤ maxLen)
      (hh : w.heap[b]? = some (.cells cur T (0, 0))) (hs : off * k + cap * k ≤ cur.size) : RelV w p (.own g k off n) (.slice (some ⟨b, off * k, none⟩) n cap)
  | own0 (g k off b a : Nat) (hg : p.o g = some (some b)) : RelV w p (.own g k off 0) (.slice (some ⟨b, a, none⟩) 0 0)
  | adr (cs : List AV) (b off : Nat) (f : Nat → Value) (hb : Stable w p b) (hk : ∀ c ∈ cs, c.leaf = true)
      (hc : ∀ (i : Nat) c, cs[i]? = some c → w.cell? ⟨b, off + i, none⟩ = some (f i))
      (hr : ∀ (i : Nat) c, cs[i]? = some c → RelV w p c (f i)) : RelV w p (.adr cs) (.pointer (some ⟨b, off, none⟩))
  | ref (g k j f b : Nat) (hg : p.o g = some (some b)) : RelV w p (.ref g k j f) (.pointer (some ⟨b, j * k + f, none⟩))
  | fn (f : Nat) (cs : List AV) (vs : Array Value) (hl : cs.length = vs.size) (h : ∀ (i : Nat) c v, cs[i]? = some c → vs[i]? = some v → RelV w p c v) : RelV w p (.fn f cs) (.func (.func f) #[] vs)
  | bad (v : Value) : RelV w p .bad v

/-- From (w, p) on to (w', q): what is stable stays, and is as it was; names keep their blocks. -/
structure Keeps (w : World) (p : Hp) (w' : World) (q : Hp) : Prop where
  stab : ∀ b, Stable w p b → Stable w' q b ∧ w'.heap[b]? = w.heap[b]?
  name : ∀ g x, p.o g = some x → q.o g = some x
  shape : ∀ g b, p.o g = some (some b) → ∀ cur T, w.heap[b]? = some (.cells cur T (0, 0)) → ∃ cur', w'.heap[b]? = some (.cells cur' T (0, 0)) ∧ cur'.size = cur.size

theorem Keeps.refl (w : World) (p : Hp) : Keeps w p w p := ⟨fun _ h => ⟨h, rfl⟩, fun _ _ h => h, fun _ _ _ cur _ h => ⟨cur, h, rfl⟩⟩
theorem Keeps.trans {w p w1 p1 w2 p2} (h : Keeps w p w1 p1) (k : Keeps w1 p1 w2 p2) : Keeps w p w2 p2 := by
  refine ⟨fun b hb => ?_, fun g x hg => k.name g x (h.name g x hg), fun g b hg cur T hh => ?_⟩
  · have h1 := h.stab b hb
    have h2 := k.stab b h1.1
    exact ⟨h2.1, h2.2.trans h1.2⟩
  · obtain ⟨c1, e1, s1⟩ := h.shape g b hg cur T hh
    obtain ⟨c2, e2, s2⟩ := k.shape g b (h.name g _ hg) c1 T e1
    exact ⟨c2, e2, s2.trans s1⟩

theorem RelV.keep {w p w' q} (hk : Keeps w p w' q) {a : AV} {v : Value} (h : RelV w p a v) : RelV w' q a v := by
  induction h with
  | s v => exact .s v
  | agg cs vs hl _ ih => exact .agg cs vs hl ih
  | tup cs vs hl _ ih => exact .tup cs vs hl ih
  | sln k a cap hcap => exact .sln k a cap hcap
  | slc k xs b off cap f hb hn hcap hkk hc _ ih =>
    have h1 := hk.stab b hb
    exact .slc k xs b off cap f h1.1 hn hcap hkk (fun j x i c hj hi => by rw [World.cell?_of_block (w := w) h1.2]; exact hc j x i c hj hi) ih
  | ownn g k hg => exact .ownn g k (hk.name _ _ hg)
  | own g k off n b cap cur T hg hn hcap hh hs =>
    obtain ⟨cur', h1, h2⟩ := hk.shape g b hg cur T hh
    exact .own g k off n b cap cur' T (hk.name _ _ hg) hn hcap h1 (by omega)
  | own0 g k off b a hg => exact .own0 g k off b a (hk.name _ _ hg)
  | adr cs b off f hb hkk hc _ ih =>
    have h1 := hk.stab b hb
    exact .adr cs b off f h1.1 hkk (fun i c hi => by rw [World.cell?_of_block (w := w) h1.2]; exact hc i c hi) ih
  | ref g k j f b hg => exact .ref g k j f b (hk.name _ _ hg)
  | fn f cs vs hl _ ih => exact .fn f cs vs hl ih
  | bad v => exact .bad v

/-- What a block of this call's own holds: the cells of a variable; the elements of a slice. -/
inductive AM where
  | box (cs : List AV)
  | buf (k : Nat) (xs : List (List AV))
  deriving Inhabited

abbrev Mem := List (Nat × AM)

def look {α : Type} : List (Nat × α) → Nat → Option α
  | [], _ => none
  | (d, a) :: r, t => if d = t then some a else look r t

def AMRel (w : World) (p : Hp) (g : Nat) : AM → Prop
  | .box cs => ∃ b cur T, p.o g = some (some b) ∧ w.heap[b]? = some (.cells cur T (0, 0)) ∧ cs.length = cur.size ∧
      ∀ (i : Nat) c, cs[i]? = some c → ∃ v, cur[i]? = some v ∧ RelV w p c v
  | .buf k xs => (xs = [] ∧ p.o g = some none) ∨ ∃ b cur T, p.o g = some (some b) ∧ w.heap[b]? = some (.cells cur T (0, 0)) ∧ xs.length * k ≤ cur.size ∧ (∀ x ∈ xs, x.length = k ∧ ∀ c ∈ x, c.leaf = true) ∧
      ∀ (j : Nat) x (i : Nat) c, xs[j]? = some x → x[i]? = some c → ∃ v, cur[j * k + i]? = some v ∧ RelV w p c v

structure MemRel (w : World) (p : Hp) (mem : Mem) : Prop where
  dom : ∀ g, look mem g = none → p.o g = none
  holds : ∀ g m, look mem g = some m → AMRel w p g m
  inj : ∀ g g' b, p.o g = some (some b) → p.o g' = some (some b) → g = g'
  avoid : ∀ g b, p.o g = some (some b) → ¬ p.A b

structure St where
  n : Nat
  slots : List (Nat × AV)
  mem : Mem

def SlotsRel (w : World) (p : Hp) (slots : List (Nat × AV)) (tmps : Array Value) : Prop :=
  ∀ t a, look slots t = some a → ∃ v, tmps[t]? = some v ∧ RelV w p a v

/-- What a call leaves: what was stable is as it was, and so are the others' blocks; a name that was there has its block, or is gone. -/
structure Ext (w : World) (p : Hp) (w' : World) (q : Hp) : Prop where
  os : w'.os = w.os
  tape : w'.tape = w.tape ∧ w.drawn ≤ w'.drawn
  output : w'.output = w.output
  size : w.heap.size ≤ w'.heap.size
  A : q.A = p.A
  stab : ∀ b, Stable w p b → Stable w' q b ∧ w'.heap[b]? = w.heap[b]?
  others : ∀ b, b < w.heap.size → p.A b → w'.heap[b]? = w.heap[b]?
  name : ∀ g x, p.o g = some x → q.o g = none ∨ (q.o g = some x ∧ ∀ b, x = some b → ∀ cur T, w.heap[b]? = some (.cells cur T (0, 0)) → ∃ cur', w'.heap[b]? = some (.cells cur' T (0, 0)) ∧ cur'.size = cur.size)

def Rel (w0 : World) (p0 : Hp) (σ : St) (a : Act) (w : World) : Prop :=
  a.defers = [] ∧ a.tmps.size = σ.n ∧ ∃ p, Ext w0 p0 w p ∧ SlotsRel w p σ.slots a.tmps ∧ MemRel w p σ.mem

end Go.Abs
