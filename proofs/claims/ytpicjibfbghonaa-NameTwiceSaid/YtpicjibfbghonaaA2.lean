import Derived.Test.YtpicjibfbghonaaA1
import Derived.Deep.LoopGhost
namespace Go.Abs
open Go Go.RowKit
variable {P : Program} {w0 : World} {p0 : Hp}

/-- Code from an abstract state on. -/
def AW (P : Program) (w0 : World) (p0 : Hp) (c : Code) (σ : St) (Q : Exit → St → Prop) : Prop :=
  ∀ a w, Rel w0 p0 σ a w → c.wp P (fun e a' w' => ∃ σ', Q e σ' ∧ Rel w0 p0 σ' a' w') a w

/-- σ says no less than σ'. -/
def Le (σ σ' : St) : Prop := ∀ w0 p0 a w, Rel w0 p0 σ a w → Rel w0 p0 σ' a w
theorem Le.refl (σ : St) : Le σ σ := fun _ _ _ _ h => h
theorem Le.trans {a b c : St} (h : Le a b) (k : Le b c) : Le a c := fun _ _ _ _ x => k _ _ _ _ (h _ _ _ _ x)

theorem AW.mono {c : Code} {σ : St} {Q Q' : Exit → St → Prop} (h : AW P w0 p0 c σ Q) (hq : ∀ e σ', Q e σ' → Q' e σ') : AW P w0 p0 c σ Q' :=
  fun a w hr => wp_mono (h a w hr) fun _ _ _ ⟨σ', h1, h2⟩ => ⟨σ', hq _ _ h1, h2⟩
theorem AW.le {c : Code} {σ σ' : St} {Q : Exit → St → Prop} (hl : Le σ σ') (h : AW P w0 p0 c σ' Q) : AW P w0 p0 c σ Q :=
  fun a w hr => h a w (hl _ _ _ _ hr)

theorem aw_skip {σ : St} {Q : Exit → St → Prop} (h : Q .normal σ) : AW P w0 p0 .skip σ Q :=
  fun _ _ hr => wp_skip ⟨σ, h, hr⟩
theorem aw_exit {id : Nat} {σ : St} {Q : Exit → St → Prop} (h : Q (.exit id) σ) : AW P w0 p0 (.exit id) σ Q :=
  fun _ _ hr => wp_exit ⟨σ, h, hr⟩
theorem aw_ret {σ : St} {Q : Exit → St → Prop} (h : Q .ret σ) : AW P w0 p0 .ret σ Q :=
  fun _ _ hr => wp_ret ⟨σ, h, hr⟩

/-- What stands behind a normal end. -/
def thenQ (K : St → Prop) (Q : Exit → St → Prop) : Exit → St → Prop
  | .normal, σ => K σ
  | e, σ => Q e σ
def blockQ (id : Nat) (Q : Exit → St → Prop) : Exit → St → Prop
  | .exit id', σ => if id' = id then Q .normal σ else Q (.exit id') σ
  | e, σ => Q e σ

theorem aw_seq {x y : Code} {σ : St} {Q : Exit → St → Prop} (h : AW P w0 p0 x σ (thenQ (fun σ' => AW P w0 p0 y σ' Q) Q)) : AW P w0 p0 (.seq x y) σ Q := by
  intro a w hr
  refine wp_seq (wp_mono (h a w hr) ?_)
  rintro e a' w' ⟨σ', h1, h2⟩
  cases e <;> first | exact h1 a' w' h2 | exact ⟨σ', h1, h2⟩

theorem aw_block {id : Nat} {c : Code} {σ : St} {Q : Exit → St → Prop} (h : AW P w0 p0 c σ (blockQ id Q)) : AW P w0 p0 (.block id c) σ Q := by
  intro a w hr
  refine wp_block (wp_mono (h a w hr) ?_)
  rintro e a' w' ⟨σ', h1, h2⟩
  cases e with
  | exit id' =>
    simp only [blockQ] at h1
    simp only [Exit.inBlock]
    split at h1 <;> rename_i hid
    · rw [if_pos hid]; exact ⟨σ', h1, h2⟩
    · rw [if_neg hid]; exact ⟨σ', h1, h2⟩
  | _ => exact ⟨σ', h1, h2⟩

theorem aw_loop {ι : Type} {c : Code} {σ : St} {Q : Exit → St → Prop} (I : ι → St) (C : ι → Prop) (μ : ι → Nat) (i0 : ι) (hc : C i0) (h0 : Le σ (I i0))
    (round : ∀ i, C i → AW P w0 p0 c (I i) (thenQ (fun σ' => ∃ i', C i' ∧ μ i' < μ i ∧ Le σ' (I i')) Q)) : AW P w0 p0 (.loop c) σ Q := by
  intro a w hr
  refine wp_loop_ghost (fun n a w => ∃ i, C i ∧ μ i = n ∧ Rel w0 p0 (I i) a w) (μ i0) ⟨i0, hc, rfl, h0 _ _ _ _ hr⟩ ?_
  rintro n a w ⟨i, hci, rfl, hri⟩
  refine wp_mono (round i hci a w hri) ?_
  rintro e a' w' ⟨σ', h1, h2⟩
  cases e with
  | normal => obtain ⟨i', hc', hm, hle⟩ := h1; exact ⟨μ i', hm, i', hc', rfl, hle _ _ _ _ h2⟩
  | _ => exact ⟨σ', h1, h2⟩

theorem SlotsRel.get {w : World} {p : Hp} {l : List (Nat × AV)} {tmps : Array Value} (h : SlotsRel w p l tmps) {t : Nat} {a : AV} (ha : look l t = some a) :
    ∃ v, tmps[t]? = some v ∧ RelV w p a v := h t a ha

theorem SlotsRel.put {w : World} {p : Hp} {l : List (Nat × AV)} {tmps : Array Value} (h : SlotsRel w p l tmps) {d : Nat} (hd : d < tmps.size) {a : AV} {v : Value} (hv : RelV w p a v) :
    SlotsRel w p ((d, a) :: l) (tmps.setIfInBounds d v) := by
  intro t b hb
  simp only [look] at hb
  split at hb
  · rename_i hdt; subst hdt
    cases hb
    exact ⟨v, by simp [hd], hv⟩
  · rename_i hdt
    obtain ⟨u, h1, h2⟩ := h t b hb
    exact ⟨u, by rw [Array.getElem?_setIfInBounds_ne (by omega)]; exact h1, h2⟩

theorem SlotsRel.keep {w : World} {p : Hp} {w' : World} {q : Hp} (hk : Keeps w p w' q) {l : List (Nat × AV)} {tmps : Array Value} (h : SlotsRel w p l tmps) : SlotsRel w' q l tmps :=
  fun t a ha => let ⟨v, h1, h2⟩ := h t a ha; ⟨v, h1, h2.keep hk⟩

def St.get (σ : St) (t : Nat) : AV := (look σ.slots t).getD .bad
def St.ev (σ : St) : Operand → AV
  | .tmp t => σ.get t
  | .const (.agg cs) => .agg (cs.toList.map .s)
  | .const v => .s v
  | .func f => .fn f []
  | .global _ => .bad
def St.put (σ : St) (d : Nat) (a : AV) : St := { σ with slots := (d, a) :: σ.slots }
def St.putO (σ : St) : Option Nat → AV → St
  | some d, a => σ.put d a
  | none, _ => σ

theorem ev_rel {σ : St} {a : Act} {w : World} {p : Hp} (hs : SlotsRel w p σ.slots a.tmps) (x : Operand) : RelV w p (σ.ev x) (a.eval x) := by
  cases x with
  | tmp t =>
    simp only [St.ev, St.get, Act.eval]
    cases hl : look σ.slots t with
    | none => exact .bad _
    | some b =>
      obtain ⟨v, h1, h2⟩ := hs t b hl
      simpa [Array.getD_eq_getD_getElem?, h1] using h2
  | const v =>
    cases v with
    | agg cs =>
      refine .agg _ _ (by simp) (fun i c u hc hu => ?_)
      simp only [List.getElem?_map, Array.getElem?_toList] at hc
      simp only [hu, Option.map_some, Option.some.injEq] at hc
      subst hc; exact .s u
    | _ => exact .s _
  | func f => exact .fn f [] #[] rfl (by simp)
  | global g => exact .bad _

end Go.Abs
