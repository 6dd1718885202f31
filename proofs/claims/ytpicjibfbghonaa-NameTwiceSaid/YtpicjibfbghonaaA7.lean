import Derived.Test.YtpicjibfbghonaaA6
set_option linter.unusedVariables false
set_option linter.unusedSimpArgs false
namespace Go.Abs
open Go Go.RowKit
variable {P : Program} {w0 : World} {p0 : Hp}

def Hp.upd (p : Hp) (g : Nat) (x : Option (Option Nat)) : Hp := { o := fun g' => if g' = g then x else p.o g', A := p.A }

theorem AMRel.keep {w : World} {p : Hp} {w' : World} {q : Hp} (hk : Keeps w p w' q) {g : Nat} {m : AM} (h : AMRel w p g m)
    (hh : ∀ b, p.o g = some (some b) → w'.heap[b]? = w.heap[b]?) : AMRel w' q g m := by
  cases m with
  | box cs =>
    obtain ⟨b, cur, T, h1, h2, h3, h4⟩ := h
    exact ⟨b, cur, T, hk.name _ _ h1, by rw [hh b h1]; exact h2, h3, fun i c hc => let ⟨v, a, r⟩ := h4 i c hc; ⟨v, a, r.keep hk⟩⟩
  | buf k xs =>
    rcases h with ⟨rfl, h1⟩ | ⟨b, cur, T, h1, h2, h3, h4, h5⟩
    · exact .inl ⟨rfl, hk.name _ _ h1⟩
    · exact .inr ⟨b, cur, T, hk.name _ _ h1, by rw [hh b h1]; exact h2, h3, h4, fun j x i c hx hc => let ⟨v, a, r⟩ := h5 j x i c hx hc; ⟨v, a, r.keep hk⟩⟩

theorem look_cons {α : Type} (d : Nat) (a : α) (l : List (Nat × α)) (t : Nat) : look ((d, a) :: l) t = if d = t then some a else look l t := rfl

/-- A new block under a new name. -/
theorem keeps_alloc {w : World} {p : Hp} {g : Nat} (hg : p.o g = none) (ob : Obj) : Keeps w p (w.alloc ob) (p.upd g (some (some w.heap.size))) := by
  refine ⟨fun b hb => ⟨⟨by simp; have := hb.1; omega, fun g' h => ?_, hb.2.2⟩, Below.heap_alloc _ _ _ hb.1⟩, fun g' x h => ?_, fun g' b h cur T hh => ?_⟩
  · simp only [Hp.upd] at h
    split at h
    · cases h; exact absurd hb.1 (Nat.lt_irrefl _)
    · exact hb.2.1 g' h
  · simp only [Hp.upd]
    split
    · rename_i e; subst e; rw [hg] at h; cases h
    · exact h
  · have hlt : b < w.heap.size := (Array.getElem?_eq_some_iff.1 hh).1
    exact ⟨cur, by rw [Below.heap_alloc _ _ _ hlt]; exact hh, rfl⟩

/-- Steps that keep, and only make or write what is this call's own, extend. -/
theorem Ext.step {w : World} {p : Hp} (h : Ext w0 p0 w p) {w' : World} {q : Hp} (hk : Keeps w p w' q) (hos : w'.os = w.os) (ht : w'.tape = w.tape ∧ w.drawn ≤ w'.drawn) (ho : w'.output = w.output)
    (hsz : w.heap.size ≤ w'.heap.size) (hA : q.A = p.A) (hoth : ∀ b, b < w.heap.size → p.A b → w'.heap[b]? = w.heap[b]?)
    (hnew : ∀ g, p.o g = none → q.o g ≠ none → p0.o g = none) : Ext w0 p0 w' q := by
  refine ⟨hos.trans h.os, ⟨ht.1.trans h.tape.1, Nat.le_trans h.tape.2 ht.2⟩, ho.trans h.output, Nat.le_trans h.size hsz, hA.trans h.A, fun b hb => ?_, fun b hb hAb => ?_, fun g x hx => ?_⟩
  · have h1 := h.stab b hb
    have h2 := hk.stab b h1.1
    exact ⟨h2.1, h2.2.trans h1.2⟩
  · rw [hoth b (Nat.lt_of_lt_of_le hb h.size) (by rw [h.A]; exact hAb)]
    exact h.others b hb hAb
  · rcases h.name g x hx with h1 | ⟨h1, h2⟩
    · by_cases hq : q.o g = none
      · exact .inl hq
      · rw [hnew g h1 hq] at hx; cases hx
    · refine .inr ⟨hk.name g x h1, fun b hb cur T hh => ?_⟩
      obtain ⟨c1, e1, s1⟩ := h2 b hb cur T hh
      obtain ⟨c2, e2, s2⟩ := hk.shape g b (hb ▸ h1) c1 T e1
      exact ⟨c2, e2, s2.trans s1⟩


/-- The names that a call makes by itself lie below this one; those that it is handed, from it on. -/
def E0 : Nat := 1048576
/-- What is asked of the names at a call's beginning, and of the others' blocks. -/
structure Fit (w0 : World) (p0 : Hp) : Prop where
  names : ∀ g, g < E0 → p0.o g = none
  others : ∀ b, p0.A b → b < w0.heap.size

def St.fresh (σ : St) (g : Nat) : Prop := g < E0 ∧ look σ.mem g = none

theorem MemRel.lt {w : World} {p : Hp} {mem : Mem} (hmem : MemRel w p mem) {g b : Nat} (hb : p.o g = some (some b)) : b < w.heap.size := by
  cases hl : look mem g with
  | none => rw [hmem.dom g hl] at hb; cases hb
  | some m' =>
    have := hmem.holds g m' hl
    cases m' with
    | box cs => obtain ⟨b', cur', T', e1, e2, _⟩ := this; rw [hb] at e1; cases e1; exact (Array.getElem?_eq_some_iff.1 e2).1
    | buf k xs =>
      rcases this with ⟨_, e1⟩ | ⟨b', cur', T', e1, e2, _⟩
      · rw [hb] at e1; cases e1
      · rw [hb] at e1; cases e1; exact (Array.getElem?_eq_some_iff.1 e2).1

/-- One operation that makes a block. -/
theorem rel_alloc {σ : St} {a : Act} {w : World} (hf : Fit w0 p0) (hr : Rel w0 p0 σ a w) {g : Nat} (hg : σ.fresh g) (d : Option Nat) (hd : ∀ x, d = some x → x < σ.n) (cur : Array Value) (T : TypeId) (m : AM) (av : AV) (v : Value)
    (hm : ∀ p, SlotsRel w p σ.slots a.tmps → MemRel w p σ.mem → Keeps w p (w.alloc (.cells cur T)) (p.upd g (some (some w.heap.size))) → AMRel (w.alloc (.cells cur T)) (p.upd g (some (some w.heap.size))) g m)
    (hv : ∀ p, MemRel w p σ.mem → RelV (w.alloc (.cells cur T)) (p.upd g (some (some w.heap.size))) av v) :
    Rel w0 p0 ({ σ with mem := (g, m) :: σ.mem }.putO d av) (a.put d v) (w.alloc (.cells cur T)) := by
  obtain ⟨h1, h2, p, hE, hs, hmem⟩ := hr
  have hk := keeps_alloc (w := w) (hmem.dom g hg.2) (.cells cur T)
  have hA : ∀ b, p.A b → b < w.heap.size := fun b hb => Nat.lt_of_lt_of_le (hf.others b (hE.A ▸ hb)) hE.size
  have hE' : Ext w0 p0 (w.alloc (.cells cur T)) (p.upd g (some (some w.heap.size))) :=
    hE.step hk rfl ⟨rfl, Nat.le_refl _⟩ rfl (by simp) rfl (fun b hb _ => Below.heap_alloc _ _ _ hb) (fun g' hp hq => by
      simp only [Hp.upd] at hq
      split at hq
      · rename_i e; subst e; exact hf.names _ hg.1
      · exact absurd hp hq)
  have hmem' : MemRel (w.alloc (.cells cur T)) (p.upd g (some (some w.heap.size))) ((g, m) :: σ.mem) := by
    refine ⟨fun g' hl => ?_, fun g' m' hl => ?_, fun g1 g2 b e1 e2 => ?_, fun g' b e hb => ?_⟩
    · rw [look_cons] at hl
      split at hl
      · cases hl
      · rename_i hne
        simp only [Hp.upd]; rw [if_neg (fun e => hne e.symm)]; exact hmem.dom g' hl
    · rw [look_cons] at hl
      split at hl
      · rename_i e; subst e; cases hl
        exact hm p hs hmem hk
      · refine (hmem.holds g' m' hl).keep hk fun b hb => ?_
        have hlt : b < w.heap.size := hmem.lt hb
        exact Below.heap_alloc _ _ _ hlt
    · have hlt : ∀ g', ∀ b, p.o g' = some (some b) → b < w.heap.size := fun g' b hb => hmem.lt hb
      simp only [Hp.upd] at e1 e2
      split at e1 <;> split at e2 <;> rename_i c1 c2
      · rw [c1, c2]
      · cases e1; exact absurd (hlt _ _ e2) (Nat.lt_irrefl _)
      · cases e2; exact absurd (hlt _ _ e1) (Nat.lt_irrefl _)
      · exact hmem.inj g1 g2 b e1 e2
    · simp only [Hp.upd] at e hb
      split at e
      · cases e; exact absurd (hA _ hb) (Nat.lt_irrefl _)
      · exact hmem.avoid g' b e hb
  cases d with
  | none => exact ⟨h1, h2, _, hE', hs.keep hk, hmem'⟩
  | some d => exact ⟨h1, by simpa [Act.put, St.putO, St.put] using h2, _, hE', (hs.keep hk).put (by rw [h2]; exact hd d rfl) (hv p hmem), hmem'⟩

end Go.Abs
