import Derived.Test.YtpicjibfbghonaaA17
set_option linter.unusedVariables false
set_option linter.unusedSimpArgs false
namespace Go.Abs
open Go Go.RowKit
variable {P : Program} {w0 : World} {p0 : Hp}

theorem aop_nil {o : Oper} {σ : St} {K : St → Prop} (hf : Fit w0 p0) (k : Nat) {d : Nat} (ho : o.op = .assign (.const (.slice none 0 0))) (hdst : o.dst = some d) (hd : d < σ.n) (hfr : σ.fresh d)
    (hK : K ⟨σ.n, (d, .own d k 0 0) :: σ.slots, (d, .buf k []) :: σ.mem⟩) : AOp P w0 p0 o σ K := by
  intro a w next Q ⟨h1, h2, p, hE, hs, hm⟩ hn
  have hrun : (execOp a.eval o).run P w = .ok (.value (.slice none 0 0)) w := by simp [execOp, ho, Act.eval]
  unfold Oper.wp
  rw [hrun]
  have hp0 : p.o d = none := hm.dom d hfr.2
  have hk : Keeps w p w (p.upd d (some none)) := by
    refine ⟨fun b hb => ⟨⟨hb.1, fun g hg => ?_, hb.2.2⟩, rfl⟩, fun g x hx => ?_, fun g b hg cur T hh => ⟨cur, hh, rfl⟩⟩
    · simp only [Hp.upd] at hg
      split at hg
      · cases hg
      · exact hb.2.1 g hg
    · simp only [Hp.upd]
      split
      · rename_i e; subst e; rw [hp0] at hx; cases hx
      · exact hx
  have hE' : Ext w0 p0 w (p.upd d (some none)) := hE.step hk rfl ⟨rfl, Nat.le_refl _⟩ rfl (Nat.le_refl _) rfl (fun _ _ _ => rfl) (fun g h1 h2 => by
    simp only [Hp.upd] at h2
    split at h2
    · rename_i e; subst e; exact hf.names _ hfr.1
    · exact absurd h1 h2)
  refine hn _ _ _ hK ?_
  rw [hdst]
  refine ⟨h1, by simpa [Act.put] using h2, _, hE', (hs.keep hk).put (by rw [h2]; exact hd) (.ownn d k (by simp [Hp.upd])), ⟨fun g hl => ?_, fun g m hl => ?_, fun g g' b e1 e2 => ?_, fun g b e => ?_⟩⟩
  · rw [look_cons] at hl
    split at hl
    · cases hl
    · rename_i hne; simp only [Hp.upd]; rw [if_neg (fun e => hne e.symm)]; exact hm.dom g hl
  · rw [look_cons] at hl
    split at hl
    · rename_i e; subst e; cases hl; exact .inl ⟨rfl, by simp [Hp.upd]⟩
    · exact (hm.holds g m hl).keep hk fun _ _ => rfl
  · simp only [Hp.upd] at e1 e2
    split at e1
    · cases e1
    · split at e2
      · cases e2
      · exact hm.inj g g' b e1 e2
  · simp only [Hp.upd] at e
    split at e
    · cases e
    · exact hm.avoid g b e

/-- A bound of a slice expression. -/
def bnd (σ : St) (d : Nat) : Option Operand → Option Nat
  | none => some d
  | some x => match σ.ev x with | .s (.int _ n) => if 0 ≤ n then some n.toNat else none | _ => none

theorem run_bound {σ : St} {act : Act} {w : World} {p : Hp} (hs : SlotsRel w p σ.slots act.tmps) {x : Operand} {d n y : Nat} (h : bnd σ d (some x) = some n) (hy : n ≤ y) (code : BoundsCode) :
    (Instr.sliceBound (act.eval x) y code).run P w = .ok n w := by
  simp only [bnd] at h
  split at h
  · rename_i k i hx
    split at h
    · rename_i h0
      cases h
      have hle : i ≤ (y : Int) := by omega
      simp [Instr.sliceBound, ev_s hs hx, asIntOf, h0, hle]
    · cases h
  · cases h

theorem run_bounds {σ : St} {act : Act} {w : World} {p : Hp} (hs : SlotsRel w p σ.slots act.tmps) {lo hi : Option Operand} {len cap l h : Nat} (hl : bnd σ 0 lo = some l) (hh : bnd σ len hi = some h) (h1 : l ≤ h) (h2 : h ≤ cap) :
    (Instr.sliceBounds true len cap (lo.map act.eval) (hi.map act.eval) none).run P w = .ok (l, h, cap) w := by
  cases lo with
  | none =>
    have e1 : l = 0 := by simpa [bnd] using hl.symm
    subst e1
    cases hi with
    | none => have e2 : h = len := by simpa [bnd] using hh.symm
              subst e2; simp [Instr.sliceBounds]
    | some y => simp [Instr.sliceBounds, run_bound hs hh h2]
  | some x =>
    cases hi with
    | none => have e2 : h = len := by simpa [bnd] using hh.symm
              subst e2; simp [Instr.sliceBounds, run_bound hs hl h1]
    | some y => simp [Instr.sliceBounds, run_bound hs hh h2, run_bound hs hl h1]
theorem run_bounds3 {σ : St} {act : Act} {w : World} {p : Hp} (hs : SlotsRel w p σ.slots act.tmps) {lo : Option Operand} {y z : Operand} {len cap l h m : Nat} (hl : bnd σ 0 lo = some l) (hh : bnd σ len (some y) = some h) (hm : bnd σ cap (some z) = some m) (h1 : l ≤ h) (h2 : h ≤ m) (h3 : m ≤ cap) :
    (Instr.sliceBounds true len cap (lo.map act.eval) (some (act.eval y)) (some (act.eval z))).run P w = .ok (l, h, m) w := by
  cases lo with
  | none =>
    have e1 : l = 0 := by simpa [bnd] using hl.symm
    subst e1
    simp [Instr.sliceBounds, run_bound hs hh h2, run_bound hs hm h3]
  | some x => simp [Instr.sliceBounds, run_bound hs hh h2, run_bound hs hl h1, run_bound hs hm h3]

theorem pure_slice_sl {o : Oper} {σ : St} {x : Operand} {lo hi : Option Operand} {t e k l h : Nat} {xs : List (List AV)} (ho : o.op = .slice t x lo hi none) (ht : elem? P t = some e) (hk : cells? P e = some k)
    (hx : σ.ev x = .sl k xs) (hl : bnd σ 0 lo = some l) (hh : bnd σ xs.length hi = some h) (h1 : l ≤ h) (h2 : h ≤ xs.length) : PureOp P o σ (.sl k ((xs.take h).drop l)) := by
  intro act w p hs _
  have hr := ev_rel hs x
  rw [hx] at hr
  generalize hv : act.eval x = v at *
  have hlen : ((xs.take h).drop l).length = h - l := by simp; omega
  cases hr with
  | sln _ a cap hcap =>
    simp only [List.length_nil, Nat.le_zero] at h2
    subst h2
    have : l = 0 := by omega
    subst this
    refine ⟨.slice a 0 cap, ?_, by simpa using RelV.sln k a cap hcap⟩
    have hb := run_bounds (P := P) (w := w) hs hl hh (Nat.le_refl _) (Nat.zero_le cap)
    simp only [List.length_nil] at hb
    cases a <;> simp [execOp, ho, hv, Instr.sliceAt, Instr.slice, run_underlying (elem?_inv ht), hb, run_size hk, add_at, Addr.add]
  | slc _ _ b off cap f hb hn hcap hkk hc hr =>
    have hbd := run_bounds (P := P) (w := w) hs hl hh h1 (Nat.le_trans h2 hn)
    by_cases hlh : l = h
    · subst hlh
      refine ⟨.slice (if cap = l then some ⟨b, off, none⟩ else some ⟨b, off + l * k, none⟩) 0 (cap - l), ?_, ?_⟩
      · simp [execOp, ho, hv, Instr.sliceAt, Instr.slice, run_underlying (elem?_inv ht), hbd, run_size hk, add_at]
      · have e : (xs.take l).drop l = [] := List.eq_nil_of_length_eq_zero (by rw [hlen]; omega)
        rw [e]; exact .sln k _ _ (by omega)
    · have hcl : ¬ cap = l := by omega
      refine ⟨.slice (some ⟨b, off + l * k, none⟩) (h - l) (cap - l), ?_, ?_⟩
      · simp [execOp, ho, hv, Instr.sliceAt, Instr.slice, run_underlying (elem?_inv ht), hbd, run_size hk, add_at, hcl]
      · have hget : ∀ j y, ((xs.take h).drop l)[j]? = some y → xs[l + j]? = some y := fun j y hy => by
          rw [List.getElem?_drop, List.getElem?_take] at hy
          split at hy
          · exact hy
          · cases hy
        have := RelV.slc (w := w) (p := p) k ((xs.take h).drop l) b (off + l * k) (cap - l) (fun j i => f (l + j) i) hb (by rw [hlen]; omega) (by omega) (fun y hy => hkk y (List.mem_of_mem_take (List.mem_of_mem_drop hy)))
          (fun j y i c hj hi => by
            have := hc (l + j) y i c (hget j y hj) hi
            have e : off + l * k + j * k + i = off + (l + j) * k + i := by rw [Nat.add_mul]; omega
            rw [e]; exact this)
          (fun j y i c hj hi => hr (l + j) y i c (hget j y hj) hi)
        rwa [hlen] at this

theorem own_sliced {w : World} {p : Hp} {g k off n : Nat} {v : Value} (hr : RelV w p (.own g k off n) v) {l h m : Nat} (h1 : l ≤ h) (h2 : h ≤ n) : ∃ a cap, v = .slice a n cap ∧ n ≤ cap ∧
    (h ≤ m → m ≤ cap → RelV w p (.own g k (off + l) (h - l)) (.slice (if m = l then a else a.map (fun a => a.add (l * k))) (h - l) (m - l))) := by
  cases hr with
  | ownn _ _ hg =>
    refine ⟨none, 0, rfl, Nat.le_refl _, fun h3 h4 => ?_⟩
    obtain rfl : h = 0 := by omega
    obtain rfl : l = 0 := by omega
    obtain rfl : m = 0 := by omega
    simpa using RelV.ownn (w := w) (p := p) g k hg
  | own0 _ _ _ b a0 hg =>
    refine ⟨_, 0, rfl, Nat.le_refl _, fun h3 h4 => ?_⟩
    obtain rfl : h = 0 := by omega
    obtain rfl : l = 0 := by omega
    obtain rfl : m = 0 := by omega
    simpa using RelV.own0 (w := w) (p := p) g k off b a0 hg
  | own _ _ _ _ b cap cur T hg hn hcap hh hs =>
    refine ⟨_, cap, rfl, hn, fun h3 h4 => ?_⟩
    by_cases hml : m = l
    · subst hml
      obtain rfl : h = m := by omega
      simp only [Nat.sub_self, if_true]
      exact RelV.own0 g k (off + h) b _ hg
    · rw [if_neg hml]
      simp only [Option.map_some, add_at]
      have e : off * k + l * k = (off + l) * k := by rw [Nat.add_mul]
      rw [e]
      refine RelV.own g k (off + l) (h - l) b (m - l) cur T hg (by omega) (by omega) hh ?_
      rw [← Nat.add_mul] at hs ⊢
      exact Nat.le_trans (Nat.mul_le_mul_right _ (by omega)) hs

theorem pure_slice_own {o : Oper} {σ : St} {x : Operand} {lo hi : Option Operand} {t e g k off n l h : Nat} (ho : o.op = .slice t x lo hi none) (ht : elem? P t = some e) (hk : cells? P e = some k)
    (hx : σ.ev x = .own g k off n) (hl : bnd σ 0 lo = some l) (hh : bnd σ n hi = some h) (h1 : l ≤ h) (h2 : h ≤ n) : PureOp P o σ (.own g k (off + l) (h - l)) := by
  intro act w p hs _
  have hr := ev_rel hs x
  rw [hx] at hr
  obtain ⟨a, cap, hv, hn, hrel⟩ := own_sliced hr (m := 0) h1 h2
  obtain ⟨a', cap', hv', _, hrel'⟩ := own_sliced hr (m := cap) h1 h2
  rw [hv] at hv'; cases hv'
  have hb := run_bounds (P := P) (w := w) hs hl hh h1 (Nat.le_trans h2 hn)
  refine ⟨_, ?_, hrel' (Nat.le_trans h2 hn) (Nat.le_refl _)⟩
  simp [execOp, ho, hv, Instr.sliceAt, Instr.slice, run_underlying (elem?_inv ht), hb, run_size hk]

theorem pure_slice3_own {o : Oper} {σ : St} {x y z : Operand} {lo : Option Operand} {t e g k off n l h m : Nat} (ho : o.op = .slice t x lo (some y) (some z)) (ht : elem? P t = some e) (hk : cells? P e = some k)
    (hx : σ.ev x = .own g k off n) (hl : bnd σ 0 lo = some l) (hh : bnd σ n (some y) = some h) (hm : bnd σ n (some z) = some m) (h1 : l ≤ h) (h2 : h ≤ m) (h3 : m ≤ n) : PureOp P o σ (.own g k (off + l) (h - l)) := by
  intro act w p hs _
  have hr := ev_rel hs x
  rw [hx] at hr
  obtain ⟨a, cap, hv, hn, hrel⟩ := own_sliced hr (m := m) h1 (Nat.le_trans h2 h3)
  have hb := run_bounds3 (P := P) (w := w) (len := n) (cap := cap) hs hl hh (by simpa [bnd] using hm) h1 h2 (Nat.le_trans h3 hn)
  refine ⟨_, ?_, hrel h2 (Nat.le_trans h3 hn)⟩
  simp [execOp, ho, hv, Instr.sliceAt, Instr.slice, run_underlying (elem?_inv ht), hb, run_size hk]

end Go.Abs
