import Derived.Test.YtpicjibfbghonaaA21
set_option linter.unusedVariables false
set_option linter.unusedSimpArgs false
namespace Go.Abs
open Go Go.RowKit
variable {P : Program} {w0 : World} {p0 : Hp}

/-- Some operands' values. -/
def evs (sl : List (Nat × AV)) (cap : List AV) : List Operand → Option (List AV)
  | [] => some cap
  | x :: r => match ev sl x with
    | some a => match evs sl cap r with | some l => some (a :: l) | none => none
    | none => none
theorem evs_eq {n : Nat} {sl : List (Nat × AV)} {m : Mem} {cap : List AV} : ∀ {xs : List Operand} {args : List AV}, evs sl cap xs = some args → xs.map (St.ev ⟨n, sl, m⟩) ++ cap = args
  | [], args, h => by simpa [evs] using h
  | x :: r, args, h => by
    simp only [evs] at h
    split at h
    · rename_i a ha
      split at h
      · rename_i l hl
        cases h
        simp only [List.map_cons, List.cons_append, ev_eq ha, evs_eq hl]
      · cases h
    · cases h
/-- .. with their numbers. -/
def evp (sl : List (Nat × AV)) : List (Nat × Operand) → Option (List (Nat × AV))
  | [] => some []
  | (i, x) :: r => match ev sl x with
    | some a => match evp sl r with | some l => some ((i, a) :: l) | none => none
    | none => none
theorem evp_eq {n : Nat} {sl : List (Nat × AV)} {m : Mem} : ∀ {xs : List (Nat × Operand)} {l : List (Nat × AV)}, evp sl xs = some l → xs.map (fun x => (x.1, St.ev ⟨n, sl, m⟩ x.2)) = l
  | [], l, h => by simpa [evp] using h
  | (i, x) :: r, args, h => by
    simp only [evp] at h
    split at h
    · rename_i a ha
      split at h
      · rename_i l hl
        cases h
        simp only [List.map_cons, ev_eq ha, evp_eq hl]
      · cases h
    · cases h

section
variable {ops : Array Oper} {rest : List Oper} {n d ty : Nat} {ps : String} {af : Array Edge} {sl : List (Nat × AV)} {m : Mem} {Q : Exit → St → Prop}
/-- A call. -/
theorem y_call (hf : Fit w0 p0) {fo : Operand} {xs : List Operand} {ts : Array TypeId} {f : Nat} {cap args : List AV} {R : AV → Prop} (hd : lt d n = true) (hfo : ev sl fo = some (.fn f cap)) (hargs : evs sl cap xs = some args)
    (hent : ∀ args w, (callFunc f args).run P w = .ok (.enter f args) w) (hcl : cleanL (fun _ => false) args = true) (hden : Den P f args R) (hk : ∀ r, R r → AOps P w0 p0 ops rest ⟨n, (d, r) :: sl, m⟩ Q) :
    AOps P w0 p0 ops (⟨some d, .call { callee := .value fo, args := xs.toArray, argTypes := ts }, ty, ps, af, none⟩ :: rest) ⟨n, sl, m⟩ Q :=
  x_callA hf hd hfo (evs_eq hargs) hent hcl hden hk
/-- A call that is told what this call's own blocks hold. -/
theorem y_callB (hf : Fit w0 p0) {fo : Operand} {xs : List Operand} {ts : Array TypeId} {f : Nat} {cap args args' : List AV} {R : AV → Prop} (hd : lt d n = true) (hfo : ev sl fo = some (.fn f cap)) (hargs : evs sl cap xs = some args)
    (hconv : convL m args = args')
    (hent : ∀ args w, (callFunc f args).run P w = .ok (.enter f args) w) (hden : Den P f args' R) (hfl : ∀ r, R r → r.flat = true) (hk : ∀ r, R r → AOps P w0 p0 ops rest ⟨n, (d, r) :: sl, m⟩ Q) :
    AOps P w0 p0 ops (⟨some d, .call { callee := .value fo, args := xs.toArray, argTypes := ts }, ty, ps, af, none⟩ :: rest) ⟨n, sl, m⟩ Q :=
  x_callB hf hd hfo (by rw [evs_eq hargs, ← convL_eq]; exact hconv) hent hden hfl hk
theorem y_guard_s {op : Op} {j g : Nat} {b t : Bool} (hg : (ops[j]?).bind (·.dst) = some g) (hb : lk sl g = some (.s (.bool t))) (hd : lt d n = true)
    (h1 : t = b → AOps P w0 p0 ops (⟨some d, op, ty, ps, af, none⟩ :: rest) ⟨n, (g, .s (.bool b)) :: sl, m⟩ Q) (h2 : t = (!b) → AOps P w0 p0 ops rest ⟨n, (d, .s undef) :: (g, .s (.bool !b)) :: sl, m⟩ Q) :
    AOps P w0 p0 ops (⟨some d, op, ty, ps, af, some (j, b)⟩ :: rest) ⟨n, sl, m⟩ Q := by
  have hle : ∀ {c : Bool}, t = c → Le ⟨n, sl, m⟩ ⟨n, (g, .s (.bool c)) :: sl, m⟩ := by
    intro c hc w0 p0 a w ⟨e1, e2, p, hE, hs, hm⟩
    refine ⟨e1, e2, p, hE, fun x y hy => ?_, hm⟩
    simp only [look] at hy
    split at hy
    · rename_i e; subst e; cases hy; exact hs g _ (by rw [← lk_eq, hb, hc])
    · exact hs x y hy
  rcases (by cases t <;> cases b <;> simp : t = b ∨ t = !b) with h | h
  · exact aops_le (hle h) (x_guard_t hg (by simp only [lk, Nat.beq_refl]) hd (h1 h))
  · exact aops_le (hle h) (x_guard_f hg (by simp only [lk, Nat.beq_refl]) hd (h2 h))
theorem y_build {t : Nat} {parts : List (Nat × Operand)} {zs : List Value} {pl : List (Nat × Nat)} {ps' : List (Nat × AV)} {cs : List AV} (hd : lt d n = true) (hps : evp sl parts = some ps') (hz : zeros? P t = some zs) (hp : places? P t = some pl)
    (h1 : ∀ x ∈ ps', ∀ c ∈ x.2.cells, c.one = true) (hc : afill (fun i => pl[i]?) (zs.map .s) ps' = some cs) (hk : AOps P w0 p0 ops rest ⟨n, (d, .agg cs) :: sl, m⟩ Q) : AOps P w0 p0 ops (⟨some d, .build t parts.toArray, ty, ps, af, none⟩ :: rest) ⟨n, sl, m⟩ Q :=
  x_build hd hz hp (evp_eq hps) h1 hc hk
theorem y_buildSlice (hf : Fit w0 p0) {t e k by_ len : Nat} {parts : List (Nat × Operand)} {ps' : List (Nat × AV)} {xs : List (List AV)} (hd : lt d n = true) (hE : lt d E0 = true) (hl : lk m d = none) (ht : appT? P t = some (e, k, by_)) (hps : evp sl parts = some ps') (hidx : ps'.map (·.1) = List.range len) (hbig : Nat.ble (len * k) 16777216 = true)
    (hxs : (ps'.map fun x => x.2.cells) = xs) (hx : ∀ x ∈ xs, x.length = k ∧ ∀ c ∈ x, c.leaf = true) (hk : AOps P w0 p0 ops rest ⟨n, (d, .own d k 0 len) :: sl, (d, .buf k xs) :: m⟩ Q) :
    AOps P w0 p0 ops (⟨some d, .buildSlice t len parts.toArray, ty, ps, af, none⟩ :: rest) ⟨n, sl, m⟩ Q :=
  x_buildSlice hf hd hE hl ht (by have := evp_eq (n := n) (m := m) hps; rw [← this] at hidx; simpa [List.map_map, Function.comp_def] using hidx) hbig (by have := evp_eq (n := n) (m := m) hps; rw [← this] at hxs; simpa [List.map_map, Function.comp_def] using hxs) hx hk
theorem y_makeFunc {f : Nat} {l : List Operand} {cs : List AV} (hd : lt d n = true) (hl : evs sl [] l = some cs) (hk : AOps P w0 p0 ops rest ⟨n, (d, .fn f cs) :: sl, m⟩ Q) : AOps P w0 p0 ops (⟨some d, .makeFunc (.func f) #[] l.toArray, ty, ps, af, none⟩ :: rest) ⟨n, sl, m⟩ Q :=
  x_makeFunc hd (by have := evs_eq (n := n) (m := m) hl; simpa using this) hk
theorem y_slice_sl {x : Operand} {lo hi : Option Operand} {t e k l h : Nat} {xs ys : List (List AV)} (hd : lt d n = true) (hx : ev sl x = some (.sl k xs)) (ht : elem? P t = some e) (hc : cells? P e = some k)
    (hl : bnd ⟨n, sl, m⟩ 0 lo = some l) (hh : bnd ⟨n, sl, m⟩ xs.length hi = some h) (h1 : l ≤ h) (h2 : h ≤ xs.length) (he : (xs.take h).drop l = ys) (hk : AOps P w0 p0 ops rest ⟨n, (d, .sl k ys) :: sl, m⟩ Q) :
    AOps P w0 p0 ops (⟨some d, .slice t x lo hi none, ty, ps, af, none⟩ :: rest) ⟨n, sl, m⟩ Q :=
  x_pure hd (he ▸ pure_slice_sl rfl ht hc (ev_eq hx) hl hh h1 h2) hk
theorem y_slice_own {x : Operand} {lo hi : Option Operand} {t e g k off c l h : Nat} (hd : lt d n = true) (hx : ev sl x = some (.own g k off c)) (ht : elem? P t = some e) (hc : cells? P e = some k)
    (hl : bnd ⟨n, sl, m⟩ 0 lo = some l) (hh : bnd ⟨n, sl, m⟩ c hi = some h) (h1 : l ≤ h) (h2 : h ≤ c) (hk : AOps P w0 p0 ops rest ⟨n, (d, .own g k (off + l) (h - l)) :: sl, m⟩ Q) :
    AOps P w0 p0 ops (⟨some d, .slice t x lo hi none, ty, ps, af, none⟩ :: rest) ⟨n, sl, m⟩ Q :=
  x_pure hd (pure_slice_own rfl ht hc (ev_eq hx) hl hh h1 h2) hk
theorem y_slice3_own {x y z : Operand} {lo : Option Operand} {t e g k off c l h mx : Nat} (hd : lt d n = true) (hx : ev sl x = some (.own g k off c)) (ht : elem? P t = some e) (hc : cells? P e = some k)
    (hl : bnd ⟨n, sl, m⟩ 0 lo = some l) (hh : bnd ⟨n, sl, m⟩ c (some y) = some h) (hm : bnd ⟨n, sl, m⟩ c (some z) = some mx) (h1 : l ≤ h) (h2 : h ≤ mx) (h3 : mx ≤ c) (hk : AOps P w0 p0 ops rest ⟨n, (d, .own g k (off + l) (h - l)) :: sl, m⟩ Q) :
    AOps P w0 p0 ops (⟨some d, .slice t x lo (some y) (some z), ty, ps, af, none⟩ :: rest) ⟨n, sl, m⟩ Q :=
  x_pure hd (pure_slice3_own rfl ht hc (ev_eq hx) hl hh hm h1 h2 h3) hk
end

/-- Ways that meet again. -/
theorem aw_join {ι : Type} {x y : Code} {σ : St} {Q : Exit → St → Prop} (I : ι → St) (C : ι → Prop) (hx : AW P w0 p0 x σ (thenQ (fun σ' => ∃ i, C i ∧ Le σ' (I i)) Q)) (hy : ∀ i, C i → AW P w0 p0 y (I i) Q) : AW P w0 p0 (.seq x y) σ Q :=
  aw_seq (hx.mono fun e σ' h => by
    cases e with
    | normal => obtain ⟨i, hc, hle⟩ := h; exact (hy i hc).le hle
    | _ => exact h)

/-- A weaker state, slot by slot. -/
def coversL (l : List (Nat × AV)) : List (Nat × AV) → Prop
  | [] => True
  | (t, a) :: r => lk l t = some a ∧ coversL l r
theorem le_of {n : Nat} {sl sl' : List (Nat × AV)} {m : Mem} (h : coversL sl sl') : Le ⟨n, sl, m⟩ ⟨n, sl', m⟩ :=
  Le.cover rfl rfl (by
    have : ∀ l, coversL sl l → covers (look sl) l := by
      intro l
      induction l with
      | nil => exact fun _ => trivial
      | cons x r ih => exact fun h => ⟨by rw [← lk_eq]; exact h.1, ih h.2⟩
    exact this _ h)
end Go.Abs
