import Derived.Test.YtpicjibfbghonaaA2
set_option linter.unusedVariables false
namespace Go.Abs
open Go Go.RowKit
variable {P : Program} {w0 : World} {p0 : Hp}

/-- One operation from an abstract state on. -/
def AOp (P : Program) (w0 : World) (p0 : Hp) (o : Oper) (σ : St) (K : St → Prop) : Prop :=
  ∀ (a : Act) (w : World) (next : Act → World → Prop) (Q : Exit → Act → World → Prop), Rel w0 p0 σ a w →
    (∀ σ' a' w', K σ' → Rel w0 p0 σ' a' w' → next a' w') → o.wp P a w next Q

def AOps (P : Program) (w0 : World) (p0 : Hp) (ops : Array Oper) (rest : List Oper) (σ : St) (Q : Exit → St → Prop) : Prop :=
  ∀ a w, Rel w0 p0 σ a w → wpList P ops (fun e a' w' => ∃ σ', Q e σ' ∧ Rel w0 p0 σ' a' w') rest a w

theorem aw_region {id : Nat} {l : List Oper} {σ : St} {Q : Exit → St → Prop} (h : AOps P w0 p0 l.toArray l σ Q) : AW P w0 p0 (.region id l.toArray false) σ Q :=
  fun a w hr => wp_region_lit (h a w hr)
theorem aops_nil {ops : Array Oper} {σ : St} {Q : Exit → St → Prop} (h : Q .normal σ) : AOps P w0 p0 ops [] σ Q :=
  fun _ _ hr => wpList_nil ⟨σ, h, hr⟩
theorem aops_cons {ops : Array Oper} {o : Oper} {rest : List Oper} {σ : St} {Q : Exit → St → Prop} (hg : o.guard = none)
    (h : AOp P w0 p0 o σ (fun σ' => AOps P w0 p0 ops rest σ' Q)) : AOps P w0 p0 ops (o :: rest) σ Q :=
  fun a w hr => wpList_plain hg fun K hK => h a w K _ hr fun σ' a' w' h1 h2 => hK _ _ (h1 a' w' h2)

theorem Rel.putO {σ : St} {a : Act} {w : World} (hr : Rel w0 p0 σ a w) (d : Option Nat) (hd : ∀ x, d = some x → x < σ.n) (av : AV) (v : Value)
    (hv : ∀ p, Ext w0 p0 w p → SlotsRel w p σ.slots a.tmps → MemRel w p σ.mem → RelV w p av v) : Rel w0 p0 (σ.putO d av) (a.put d v) w := by
  obtain ⟨h1, h2, p, hE, hs, hm⟩ := hr
  cases d with
  | none => exact ⟨h1, h2, p, hE, hs, hm⟩
  | some d =>
    exact ⟨h1, by simpa [Act.put, St.putO, St.put] using h2, p, hE, hs.put (by rw [h2]; exact hd d rfl) (hv p hE hs hm), hm⟩

/-- An operation that leaves the world alone. -/
theorem aop_pure {o : Oper} {σ : St} {K : St → Prop} (hd : ∀ d, o.dst = some d → d < σ.n) (av : AV)
    (h : ∀ (act : Act) w p, SlotsRel w p σ.slots act.tmps → MemRel w p σ.mem → ∃ v, (execOp act.eval o).run P w = .ok (.value v) w ∧ RelV w p av v)
    (hk : K (σ.putO o.dst av)) : AOp P w0 p0 o σ K := by
  intro a w next Q hr hn
  obtain ⟨h1, h2, p, hE, hs, hm⟩ := hr
  obtain ⟨v, hv, hrel⟩ := h a w p hs hm
  unfold Oper.wp
  rw [hv]
  have hr : Rel w0 p0 σ a w := ⟨h1, h2, p, hE, hs, hm⟩
  refine hn _ _ _ hk ?_
  cases ho : o.dst with
  | none => exact ⟨h1, h2, p, hE, hs, hm⟩
  | some d => exact ⟨h1, by simpa [Act.put, St.putO, St.put] using h2, p, hE, hs.put (by rw [h2]; exact hd d ho) hrel, hm⟩

/-- An operation whose guard is decided. -/
theorem aops_guard {ops : Array Oper} {o : Oper} {rest : List Oper} {σ : St} {Q : Exit → St → Prop} {j : Nat} {b t : Bool} {d : Nat} (hg : o.guard = some (j, b))
    (hj : (ops[j]?).bind (·.dst) = some d) (hd : look σ.slots d = some (.s (.bool t))) (hdst : ∀ x, o.dst = some x → x < σ.n)
    (h1 : t = b → AOp P w0 p0 o σ (fun σ' => AOps P w0 p0 ops rest σ' Q)) (h2 : t ≠ b → AOps P w0 p0 ops rest (σ.putO o.dst (.s undef)) Q) : AOps P w0 p0 ops (o :: rest) σ Q := by
  intro a w hr
  have hy : yielded ops a.tmps j = some t := by
    obtain ⟨_, _, p, _, hs, _⟩ := hr
    obtain ⟨v, hv1, hv2⟩ := hs d _ hd
    cases hv2
    simp [yielded, hj, hv1]
  refine wpList_step fun K hK => ?_
  by_cases htb : t = b
  · have hw : Region.wanted o (yielded ops a.tmps) = true := by simp [Region.wanted, hg, hy, htb]
    rw [if_pos hw]
    exact h1 htb a w K _ hr fun σ' a' w' h1 h2 => hK _ _ (h1 a' w' h2)
  · have hw : ¬ Region.wanted o (yielded ops a.tmps) = true := by simp [Region.wanted, hg, hy, htb]
    rw [if_neg hw]
    exact hK _ _ (h2 htb _ w (hr.putO o.dst hdst _ _ fun _ _ _ _ => .s _))

theorem aw_cond {x y : Code} {c : Operand} {σ : St} {Q : Exit → St → Prop} {t : Bool} (hc : σ.ev c = .s (.bool t))
    (h1 : t = true → AW P w0 p0 x σ Q) (h2 : t = false → AW P w0 p0 y σ Q) : AW P w0 p0 (.cond c x y) σ Q := by
  intro a w hr
  have he : a.eval c = .bool t := by
    obtain ⟨_, _, p, _, hs, _⟩ := hr
    have := ev_rel hs c
    rw [hc] at this
    generalize a.eval c = v at *
    cases this
    rfl
  refine wp_cond he ?_
  cases t
  · exact h2 rfl a w hr
  · exact h1 rfl a w hr

end Go.Abs
