import Derived.Test.YtpicjibfbghonaaA20
set_option linter.unusedVariables false
set_option linter.unusedSimpArgs false
namespace Go.Abs
open Go Go.RowKit
variable {P : Program} {w0 : World} {p0 : Hp}

/-- 'look', as the unifier reckons it quickly. -/
def lk {α : Type} : List (Nat × α) → Nat → Option α
  | [], _ => none
  | (d, a) :: r, t => match Nat.beq d t with | true => some a | false => lk r t
theorem lk_eq {α : Type} : ∀ (l : List (Nat × α)) (t : Nat), lk l t = look l t
  | [], _ => rfl
  | (d, a) :: r, t => by
    simp only [lk, look]
    cases h : Nat.beq d t with
    | true => rw [if_pos (Nat.eq_of_beq_eq_true h)]
    | false => rw [if_neg (Nat.ne_of_beq_eq_false h)]; exact lk_eq r t

def ev (sl : List (Nat × AV)) : Operand → Option AV
  | .tmp t => lk sl t
  | .const (.agg cs) => some (.agg (cs.toList.map .s))
  | .const v => some (.s v)
  | .func f => some (.fn f [])
  | .global _ => none
theorem ev_eq {n : Nat} {sl : List (Nat × AV)} {m : Mem} {x : Operand} {a : AV} (h : ev sl x = some a) : (⟨n, sl, m⟩ : St).ev x = a := by
  cases x with
  | tmp t => simp only [ev, lk_eq] at h; simp [St.ev, St.get, h]
  | const v => cases v <;> simp_all [ev, St.ev]
  | func f => simpa [ev, St.ev] using h
  | global g => simp [ev] at h
def lt (d n : Nat) : Bool := Nat.ble (d + 1) n
theorem lt_of {d n : Nat} (h : lt d n = true) : d < n := Nat.le_of_ble_eq_true h
theorem dst_of {d n : Nat} (h : lt d n = true) : ∀ x, some d = some x → x < n := fun x hx => by cases hx; exact lt_of h

section
variable {ops : Array Oper} {rest : List Oper} {n d ty : Nat} {ps : String} {af : Array Edge} {sl : List (Nat × AV)} {m : Mem} {Q : Exit → St → Prop}

theorem x_pure {op : Op} {av : AV} (hd : lt d n = true) (h : PureOp P ⟨some d, op, ty, ps, af, none⟩ ⟨n, sl, m⟩ av) (hk : AOps P w0 p0 ops rest ⟨n, (d, av) :: sl, m⟩ Q) :
    AOps P w0 p0 ops (⟨some d, op, ty, ps, af, none⟩ :: rest) ⟨n, sl, m⟩ Q :=
  aops_cons rfl (aop_pure (dst_of hd) av h hk)

theorem x_move {x : Operand} {a : AV} (hd : lt d n = true) (hx : ev sl x = some a) (hk : AOps P w0 p0 ops rest ⟨n, (d, a) :: sl, m⟩ Q) : AOps P w0 p0 ops (⟨some d, .move x, ty, ps, af, none⟩ :: rest) ⟨n, sl, m⟩ Q :=
  x_pure hd (ev_eq hx ▸ pure_move rfl) hk
theorem x_assign {x : Operand} {a : AV} (hd : lt d n = true) (hx : ev sl x = some a) (hk : AOps P w0 p0 ops rest ⟨n, (d, a) :: sl, m⟩ Q) : AOps P w0 p0 ops (⟨some d, .assign x, ty, ps, af, none⟩ :: rest) ⟨n, sl, m⟩ Q :=
  x_pure hd (ev_eq hx ▸ pure_assign rfl) hk
/-- A slot that no longer matters. -/
theorem x_assign_bad {x : Operand} (hd : lt d n = true) (hk : AOps P w0 p0 ops rest ⟨n, (d, .bad) :: sl, m⟩ Q) : AOps P w0 p0 ops (⟨some d, .assign x, ty, ps, af, none⟩ :: rest) ⟨n, sl, m⟩ Q :=
  x_pure hd (fun act w p hs _ => ⟨act.eval x, by simp [execOp], .bad _⟩) hk
theorem x_pick_t {c x y : Operand} {a : AV} (hd : lt d n = true) (hc : ev sl c = some (.s (.bool true))) (hx : ev sl x = some a) (hk : AOps P w0 p0 ops rest ⟨n, (d, a) :: sl, m⟩ Q) : AOps P w0 p0 ops (⟨some d, .pick c x y, ty, ps, af, none⟩ :: rest) ⟨n, sl, m⟩ Q :=
  x_pure hd (ev_eq hx ▸ pure_pick rfl (ev_eq hc)) hk
theorem x_pick_f {c x y : Operand} {a : AV} (hd : lt d n = true) (hc : ev sl c = some (.s (.bool false))) (hx : ev sl y = some a) (hk : AOps P w0 p0 ops rest ⟨n, (d, a) :: sl, m⟩ Q) : AOps P w0 p0 ops (⟨some d, .pick c x y, ty, ps, af, none⟩ :: rest) ⟨n, sl, m⟩ Q :=
  x_pure hd (ev_eq hx ▸ pure_pick rfl (ev_eq hc)) hk
theorem x_bin {op : BinOp} {t yt : TypeId} {x y : Operand} {u v r : Value} (hd : lt d n = true) (hx : ev sl x = some (.s u)) (hy : ev sl y = some (.s v)) (h : abin P op t u v = some r)
    (hk : AOps P w0 p0 ops rest ⟨n, (d, .s r) :: sl, m⟩ Q) : AOps P w0 p0 ops (⟨some d, .binOp op t x y yt, ty, ps, af, none⟩ :: rest) ⟨n, sl, m⟩ Q :=
  x_pure hd (pure_bin rfl (ev_eq hx) (ev_eq hy) h) hk

theorem wrap_i64 {z : Int} (h1 : -9223372036854775808 ≤ z) (h2 : z ≤ 9223372036854775807) : IntKind.i64.wrap z = z := by
  simp [IntKind.wrap, IntKind.bits, IntKind.signed]; omega
theorem x_add {t yt : TypeId} {x y : Operand} {a b : Int} (hd : lt d n = true) (hx : ev sl x = some (.s (.int .i64 a))) (hy : ev sl y = some (.s (.int .i64 b))) (h1 : -9223372036854775808 ≤ a + b) (h2 : a + b ≤ 9223372036854775807)
    (hk : AOps P w0 p0 ops rest ⟨n, (d, .s (.int .i64 (a + b))) :: sl, m⟩ Q) : AOps P w0 p0 ops (⟨some d, .binOp .add t x y yt, ty, ps, af, none⟩ :: rest) ⟨n, sl, m⟩ Q :=
  x_bin hd hx hy (by simp [abin, aint, wrap_i64 h1 h2]) hk
theorem x_sub {t yt : TypeId} {x y : Operand} {a b : Int} (hd : lt d n = true) (hx : ev sl x = some (.s (.int .i64 a))) (hy : ev sl y = some (.s (.int .i64 b))) (h1 : -9223372036854775808 ≤ a - b) (h2 : a - b ≤ 9223372036854775807)
    (hk : AOps P w0 p0 ops rest ⟨n, (d, .s (.int .i64 (a - b))) :: sl, m⟩ Q) : AOps P w0 p0 ops (⟨some d, .binOp .sub t x y yt, ty, ps, af, none⟩ :: rest) ⟨n, sl, m⟩ Q :=
  x_bin hd hx hy (by simp [abin, aint, wrap_i64 h1 h2]) hk
theorem x_not {t : TypeId} {x : Operand} {b : Bool} (hd : lt d n = true) (hx : ev sl x = some (.s (.bool b))) (hk : AOps P w0 p0 ops rest ⟨n, (d, .s (.bool !b)) :: sl, m⟩ Q) : AOps P w0 p0 ops (⟨some d, .unOp .not t x, ty, ps, af, none⟩ :: rest) ⟨n, sl, m⟩ Q :=
  x_pure hd (pure_not rfl (ev_eq hx)) hk
theorem x_len_str {t : TypeId} {x : Operand} {s : ByteArray} (hd : lt d n = true) (hx : ev sl x = some (.s (.string s))) (ht : P.underlying t = some .string) (hk : AOps P w0 p0 ops rest ⟨n, (d, .s (.int .i64 s.size)) :: sl, m⟩ Q) :
    AOps P w0 p0 ops (⟨some d, .call { callee := .builtin .len, args := #[x], argTypes := #[t] }, ty, ps, af, none⟩ :: rest) ⟨n, sl, m⟩ Q :=
  x_pure hd (pure_len_str rfl ht (ev_eq hx)) hk
theorem x_len_sl {t e k : Nat} {x : Operand} {xs : List (List AV)} (hd : lt d n = true) (hx : ev sl x = some (.sl k xs)) (ht : elem? P t = some e) (hk : AOps P w0 p0 ops rest ⟨n, (d, .s (.int .i64 xs.length)) :: sl, m⟩ Q) :
    AOps P w0 p0 ops (⟨some d, .call { callee := .builtin .len, args := #[x], argTypes := #[t] }, ty, ps, af, none⟩ :: rest) ⟨n, sl, m⟩ Q :=
  x_pure hd (pure_len_sl rfl ht (ev_eq hx)) hk
theorem x_len_own {t e g k off c : Nat} {x : Operand} (hd : lt d n = true) (hx : ev sl x = some (.own g k off c)) (ht : elem? P t = some e) (hk : AOps P w0 p0 ops rest ⟨n, (d, .s (.int .i64 c)) :: sl, m⟩ Q) :
    AOps P w0 p0 ops (⟨some d, .call { callee := .builtin .len, args := #[x], argTypes := #[t] }, ty, ps, af, none⟩ :: rest) ⟨n, sl, m⟩ Q :=
  x_pure hd (pure_len_own rfl ht (ev_eq hx)) hk
theorem x_min {t1 t2 : TypeId} {x y : Operand} {k k' : IntKind} {a b : Int} (hd : lt d n = true) (hx : ev sl x = some (.s (.int k a))) (hy : ev sl y = some (.s (.int k' b))) (hk : AOps P w0 p0 ops rest ⟨n, (d, .s (.int k (min a b))) :: sl, m⟩ Q) :
    AOps P w0 p0 ops (⟨some d, .call { callee := .builtin .min, args := #[x, y], argTypes := #[t1, t2] }, ty, ps, af, none⟩ :: rest) ⟨n, sl, m⟩ Q :=
  x_pure hd (pure_min rfl (ev_eq hx) (ev_eq hy)) hk
theorem x_max {t1 t2 : TypeId} {x y : Operand} {k k' : IntKind} {a b : Int} (hd : lt d n = true) (hx : ev sl x = some (.s (.int k a))) (hy : ev sl y = some (.s (.int k' b))) (hk : AOps P w0 p0 ops rest ⟨n, (d, .s (.int k (max a b))) :: sl, m⟩ Q) :
    AOps P w0 p0 ops (⟨some d, .call { callee := .builtin .max, args := #[x, y], argTypes := #[t1, t2] }, ty, ps, af, none⟩ :: rest) ⟨n, sl, m⟩ Q :=
  x_pure hd (pure_max rfl (ev_eq hx) (ev_eq hy)) hk
theorem x_extract {x : Operand} {i : Nat} {vs : List AV} {c : AV} (hd : lt d n = true) (hx : ev sl x = some (.tup vs)) (hi : vs[i]? = some c) (hk : AOps P w0 p0 ops rest ⟨n, (d, c) :: sl, m⟩ Q) : AOps P w0 p0 ops (⟨some d, .extract x i, ty, ps, af, none⟩ :: rest) ⟨n, sl, m⟩ Q :=
  x_pure hd (pure_extract rfl (ev_eq hx) hi) hk
theorem x_idx_sl {x i : Operand} {t e k : Nat} {xs : List (List AV)} {c : List AV} {kd : IntKind} {z : Int} (hd : lt d n = true) (hx : ev sl x = some (.sl k xs)) (hi : ev sl i = some (.s (.int kd z))) (ht : elem? P t = some e) (hc : cells? P e = some k)
    (hn : 0 ≤ z ∧ xs[z.toNat]? = some c) (hk : AOps P w0 p0 ops rest ⟨n, (d, .adr c) :: sl, m⟩ Q) : AOps P w0 p0 ops (⟨some d, .indexAddr t x i, ty, ps, af, none⟩ :: rest) ⟨n, sl, m⟩ Q :=
  x_pure hd (pure_indexAddr_sl rfl ht hc (ev_eq hx) (ev_eq hi) hn) hk
theorem x_idx_own {x i : Operand} {t e g k off c : Nat} {kd : IntKind} {z : Int} (hd : lt d n = true) (hx : ev sl x = some (.own g k off c)) (hi : ev sl i = some (.s (.int kd z))) (ht : elem? P t = some e) (hc : cells? P e = some k)
    (hn : 0 ≤ z ∧ z < c) (hk : AOps P w0 p0 ops rest ⟨n, (d, .ref g k (off + z.toNat) 0) :: sl, m⟩ Q) : AOps P w0 p0 ops (⟨some d, .indexAddr t x i, ty, ps, af, none⟩ :: rest) ⟨n, sl, m⟩ Q :=
  x_pure hd (pure_indexAddr_own rfl ht hc (ev_eq hx) (ev_eq hi) hn) hk
theorem x_load1 {x : Operand} {t : Nat} {c : AV} {cs : List AV} (hd : lt d n = true) (hx : ev sl x = some (.adr cs)) (ht : agg? P t = some false) (hc : cs[0]? = some c) (hk : AOps P w0 p0 ops rest ⟨n, (d, c) :: sl, m⟩ Q) : AOps P w0 p0 ops (⟨some d, .load t x, ty, ps, af, none⟩ :: rest) ⟨n, sl, m⟩ Q :=
  x_pure hd (pure_load_adr rfl ht (ev_eq hx) hc) hk
theorem x_loads {x : Operand} {t k : Nat} {cs cs' : List AV} (hd : lt d n = true) (hx : ev sl x = some (.adr cs)) (ht : agg? P t = some true) (hn : cells? P t = some k) (hc : Nat.ble k cs.length = true) (he : cs.take k = cs') (hk : AOps P w0 p0 ops rest ⟨n, (d, .agg cs') :: sl, m⟩ Q) : AOps P w0 p0 ops (⟨some d, .load t x, ty, ps, af, none⟩ :: rest) ⟨n, sl, m⟩ Q :=
  x_pure hd (he ▸ pure_load_adrs rfl ht hn (ev_eq hx) (Nat.le_of_ble_eq_true hc)) hk
theorem x_load1r {x : Operand} {t g k j f : Nat} {c : AV} {mm : AM} (hd : lt d n = true) (hx : ev sl x = some (.ref g k j f)) (ht : agg? P t = some false) (hm : lk m g = some mm) (hc : (mm.at k j f)[0]? = some c) (hk : AOps P w0 p0 ops rest ⟨n, (d, c) :: sl, m⟩ Q) :
    AOps P w0 p0 ops (⟨some d, .load t x, ty, ps, af, none⟩ :: rest) ⟨n, sl, m⟩ Q :=
  x_pure hd (pure_load_ref rfl ht (ev_eq hx) (by rw [← lk_eq]; exact hm) hc) hk
theorem x_loadsr {x : Operand} {t g k j f c : Nat} {mm : AM} {cs' : List AV} (hd : lt d n = true) (hx : ev sl x = some (.ref g k j f)) (ht : agg? P t = some true) (hn : cells? P t = some c) (hm : lk m g = some mm) (hc : Nat.ble c (mm.at k j f).length = true) (he : (mm.at k j f).take c = cs')
    (hk : AOps P w0 p0 ops rest ⟨n, (d, .agg cs') :: sl, m⟩ Q) : AOps P w0 p0 ops (⟨some d, .load t x, ty, ps, af, none⟩ :: rest) ⟨n, sl, m⟩ Q :=
  x_pure hd (he ▸ pure_load_refs rfl ht hn (ev_eq hx) (by rw [← lk_eq]; exact hm) (Nat.le_of_ble_eq_true hc)) hk
theorem x_fld_adr {x : Operand} {t u f off c : Nat} {cs cs' : List AV} (hd : lt d n = true) (hx : ev sl x = some (.adr cs)) (ht : field? P t f = some (off, u)) (hu : cells? P u = some (c + 1)) (he : cs.drop off = cs') (hk : AOps P w0 p0 ops rest ⟨n, (d, .adr cs') :: sl, m⟩ Q) :
    AOps P w0 p0 ops (⟨some d, .fieldAddr t x f, ty, ps, af, none⟩ :: rest) ⟨n, sl, m⟩ Q :=
  x_pure hd (he ▸ pure_fieldAddr_adr rfl ht hu (by omega) (ev_eq hx)) hk
theorem x_fld_ref {x : Operand} {t u f off c g k j i i' : Nat} (hd : lt d n = true) (hx : ev sl x = some (.ref g k j i)) (ht : field? P t f = some (off, u)) (hu : cells? P u = some (c + 1)) (he : i + off = i') (hk : AOps P w0 p0 ops rest ⟨n, (d, .ref g k j i') :: sl, m⟩ Q) :
    AOps P w0 p0 ops (⟨some d, .fieldAddr t x f, ty, ps, af, none⟩ :: rest) ⟨n, sl, m⟩ Q :=
  x_pure hd (he ▸ pure_fieldAddr_ref rfl ht hu (by omega) (ev_eq hx)) hk
theorem x_fld1 {x : Operand} {t u f off : Nat} {cs : List AV} {c : AV} (hd : lt d n = true) (hx : ev sl x = some (.agg cs)) (ht : field? P t f = some (off, u)) (hu : agg? P u = some false) (hc : cs[off]? = some c) (hk : AOps P w0 p0 ops rest ⟨n, (d, c) :: sl, m⟩ Q) :
    AOps P w0 p0 ops (⟨some d, .field t x f, ty, ps, af, none⟩ :: rest) ⟨n, sl, m⟩ Q :=
  x_pure hd (pure_field1 rfl ht hu (ev_eq hx) hc) hk
theorem x_flds {x : Operand} {t u f off c : Nat} {cs cs' : List AV} (hd : lt d n = true) (hx : ev sl x = some (.agg cs)) (ht : field? P t f = some (off, u)) (hu : agg? P u = some true) (hn : cells? P u = some c) (hc : Nat.ble (off + c) cs.length = true) (he : (cs.drop off).take c = cs')
    (hk : AOps P w0 p0 ops rest ⟨n, (d, .agg cs') :: sl, m⟩ Q) : AOps P w0 p0 ops (⟨some d, .field t x f, ty, ps, af, none⟩ :: rest) ⟨n, sl, m⟩ Q :=
  x_pure hd (he ▸ pure_fields rfl ht hu hn (ev_eq hx) (Nat.le_of_ble_eq_true hc)) hk
theorem x_idx_str {x i : Operand} {t : Nat} {s : ByteArray} {kd : IntKind} {z : Int} {b : UInt8} (hd : lt d n = true) (hx : ev sl x = some (.s (.string s))) (hi : ev sl i = some (.s (.int kd z))) (ht : P.underlying t = some .string) (hn : 0 ≤ z ∧ s.data[z.toNat]? = some b)
    (hk : AOps P w0 p0 ops rest ⟨n, (d, .s (.int .u8 b.toNat)) :: sl, m⟩ Q) : AOps P w0 p0 ops (⟨some d, .index t x i, ty, ps, af, none⟩ :: rest) ⟨n, sl, m⟩ Q :=
  x_pure hd (pure_index_str rfl ht (ev_eq hx) (ev_eq hi) hn) hk

/-- A guard that says yes: the operation runs as if it had none. -/
theorem x_guard_t {op : Op} {j g : Nat} {b : Bool} (hg : (ops[j]?).bind (·.dst) = some g) (hb : lk sl g = some (.s (.bool b))) (hd : lt d n = true)
    (hk : AOps P w0 p0 ops (⟨some d, op, ty, ps, af, none⟩ :: rest) ⟨n, sl, m⟩ Q) : AOps P w0 p0 ops (⟨some d, op, ty, ps, af, some (j, b)⟩ :: rest) ⟨n, sl, m⟩ Q := by
  intro a w hr
  have hy : yielded ops a.tmps j = some b := by
    obtain ⟨_, _, p, _, hs, _⟩ := hr
    obtain ⟨v, hv1, hv2⟩ := hs g _ (by rw [← lk_eq]; exact hb)
    cases hv2
    simp [yielded, hg, hv1]
  have := hk a w hr
  unfold wpList at this ⊢
  have hw : Region.wanted (⟨some d, op, ty, ps, af, some (j, b)⟩ : Oper) (yielded ops a.tmps) = true := by simp [Region.wanted, hy]
  have hw' : Region.wanted (⟨some d, op, ty, ps, af, none⟩ : Oper) (yielded ops a.tmps) = true := by simp [Region.wanted]
  rw [if_pos hw]
  rw [if_pos hw'] at this
  exact this
theorem x_guard_f {op : Op} {j g : Nat} {b : Bool} (hg : (ops[j]?).bind (·.dst) = some g) (hb : lk sl g = some (.s (.bool !b))) (hd : lt d n = true)
    (hk : AOps P w0 p0 ops rest ⟨n, (d, .s undef) :: sl, m⟩ Q) : AOps P w0 p0 ops (⟨some d, op, ty, ps, af, some (j, b)⟩ :: rest) ⟨n, sl, m⟩ Q :=
  aops_guard (t := !b) rfl hg (by rw [← lk_eq]; exact hb) (dst_of hd) (fun h => by cases b <;> cases h) (fun _ => hk)

theorem x_makeFunc {f : Nat} {l : List Operand} {cs : List AV} (hd : lt d n = true) (hl : l.map (St.ev ⟨n, sl, m⟩) = cs) (hk : AOps P w0 p0 ops rest ⟨n, (d, .fn f cs) :: sl, m⟩ Q) : AOps P w0 p0 ops (⟨some d, .makeFunc (.func f) #[] l.toArray, ty, ps, af, none⟩ :: rest) ⟨n, sl, m⟩ Q :=
  x_pure hd (hl ▸ pure_makeFunc rfl) hk
theorem x_build {t : Nat} {parts : List (Nat × Operand)} {zs : List Value} {pl : List (Nat × Nat)} {ps' : List (Nat × AV)} {cs : List AV} (hd : lt d n = true) (hz : zeros? P t = some zs) (hp : places? P t = some pl) (hps : parts.map (fun x => (x.1, St.ev ⟨n, sl, m⟩ x.2)) = ps')
    (h1 : ∀ x ∈ ps', ∀ c ∈ x.2.cells, c.one = true) (hc : afill (fun i => pl[i]?) (zs.map .s) ps' = some cs) (hk : AOps P w0 p0 ops rest ⟨n, (d, .agg cs) :: sl, m⟩ Q) : AOps P w0 p0 ops (⟨some d, .build t parts.toArray, ty, ps, af, none⟩ :: rest) ⟨n, sl, m⟩ Q :=
  x_pure hd (pure_build rfl hz hp (fun x hx => h1 (x.1, St.ev ⟨n, sl, m⟩ x.2) (hps ▸ List.mem_map.2 ⟨x, hx, rfl⟩)) (hps ▸ hc)) hk
theorem fresh_of {g : Nat} (h : lt g E0 = true) (hl : lk m g = none) : St.fresh ⟨n, sl, m⟩ g := ⟨lt_of h, by rw [← lk_eq]; exact hl⟩
theorem x_box (hf : Fit w0 p0) {t : Nat} {x : Operand} {av : AV} (hd : lt d n = true) (hE : lt d E0 = true) (hl : lk m d = none) (hx : ev sl x = some av) (h1 : ∀ c ∈ av.cells, c.one = true) (hk : AOps P w0 p0 ops rest ⟨n, (d, .ref d 0 0 0) :: sl, (d, .box av.cells) :: m⟩ Q) :
    AOps P w0 p0 ops (⟨some d, .box t x, ty, ps, af, none⟩ :: rest) ⟨n, sl, m⟩ Q :=
  aops_cons rfl (aop_box hf rfl rfl (lt_of hd) (fresh_of hE hl) (ev_eq hx) h1 hk)
theorem x_buildSlice (hf : Fit w0 p0) {t e k by_ len : Nat} {parts : List (Nat × Operand)} {xs : List (List AV)} (hd : lt d n = true) (hE : lt d E0 = true) (hl : lk m d = none) (ht : appT? P t = some (e, k, by_)) (hidx : parts.map (·.1) = List.range len) (hbig : Nat.ble (len * k) 16777216 = true)
    (hxs : (parts.map fun x => (St.ev ⟨n, sl, m⟩ x.2).cells) = xs) (hx : ∀ x ∈ xs, x.length = k ∧ ∀ c ∈ x, c.leaf = true) (hk : AOps P w0 p0 ops rest ⟨n, (d, .own d k 0 len) :: sl, (d, .buf k xs) :: m⟩ Q) :
    AOps P w0 p0 ops (⟨some d, .buildSlice t len parts.toArray, ty, ps, af, none⟩ :: rest) ⟨n, sl, m⟩ Q :=
  have h := appT?_inv ht
  aops_cons rfl (aop_buildSlice hf rfl rfl (lt_of hd) (fresh_of hE hl) h.1 h.2.1 h.2.2.1 (by obtain ⟨i, z, h1, h2, _⟩ := h.2.2.2; simp [zeros?, h1, h2]) hidx (Nat.le_of_ble_eq_true hbig) hxs hx hk)
theorem x_nil (hf : Fit w0 p0) (k : Nat) (hd : lt d n = true) (hE : lt d E0 = true) (hl : lk m d = none) (hk : AOps P w0 p0 ops rest ⟨n, (d, .own d k 0 0) :: sl, (d, .buf k []) :: m⟩ Q) :
    AOps P w0 p0 ops (⟨some d, .assign (.const (.slice none 0 0)), ty, ps, af, none⟩ :: rest) ⟨n, sl, m⟩ Q :=
  aops_cons rfl (aop_nil hf k rfl rfl (lt_of hd) (fresh_of hE hl) hk)
theorem x_append (hf : Fit w0 p0) {s x : Operand} {t e k by_ g c : Nat} {xs ys : List (List AV)} {k' : Nat} {src : AV} (hd : lt d n = true) (ht : appT? P t = some (e, k, by_)) (hg : lt g E0 = true) (hs : ev sl s = some (.own g k 0 c)) (hl : lk m g = some (.buf k' xs)) (hk' : k' = k ∨ xs = [])
    (hn : c = xs.length) (hx : ev sl x = some src) (hsrc : asrc ⟨n, sl, m⟩ k src = some ys) (hmax : c + ys.length ≤ maxLen) (hby : (c + ys.length) * by_ ≤ 140737488355328)
    (hk : AOps P w0 p0 ops rest ⟨n, (d, .own g k 0 (c + ys.length)) :: killSlots g sl, (g, .buf k (xs ++ ys)) :: killMem g m⟩ Q) :
    AOps P w0 p0 ops (⟨some d, .call { callee := .builtin .append, args := #[s, x], argTypes := #[t, t] }, ty, ps, af, none⟩ :: rest) ⟨n, sl, m⟩ Q :=
  aops_cons rfl (aop_append hf rfl rfl (lt_of hd) ht (lt_of hg) (ev_eq hs) (by rw [← lk_eq]; exact hl) hk' hn (by rw [ev_eq hx]; exact hsrc) hmax hby hk)
theorem x_store (hf : Fit w0 p0) {t : Nat} {x y : Operand} {g k j f c : Nat} {mm mm' : AM} {av : AV} (hx : ev sl x = some (.ref g k j f)) (hl : lk m g = some mm) (hn : cells? P t = some c) (hy : ev sl y = some av) (hlen : av.cells.length = c) (h1 : ∀ c ∈ av.cells, c.one = true)
    (hlf : ∀ k xs, mm = .buf k xs → ∀ c ∈ av.cells, c.leaf = true) (hm' : mm.store k j f av.cells = some mm') (hk : AOps P w0 p0 ops rest ⟨n, sl, setMem g mm' m⟩ Q) :
    AOps P w0 p0 ops (⟨none, .store t x y, ty, ps, af, none⟩ :: rest) ⟨n, sl, m⟩ Q :=
  aops_cons rfl (aop_store hf rfl rfl (ev_eq hx) (by rw [← lk_eq]; exact hl) hn (by rw [ev_eq hy]; exact hlen) (by rw [ev_eq hy]; exact h1) (by rw [ev_eq hy]; exact hlf) (by rw [ev_eq hy]; exact hm') hk)
theorem x_callA (hf : Fit w0 p0) {fo : Operand} {xs : List Operand} {ts : Array TypeId} {f : Nat} {cap args : List AV} {R : AV → Prop} (hd : lt d n = true) (hfo : ev sl fo = some (.fn f cap)) (hargs : xs.map (St.ev ⟨n, sl, m⟩) ++ cap = args)
    (hent : ∀ args w, (callFunc f args).run P w = .ok (.enter f args) w) (hcl : cleanL (fun _ => false) args = true) (hden : Den P f args R) (hk : ∀ r, R r → AOps P w0 p0 ops rest ⟨n, (d, r) :: sl, m⟩ Q) :
    AOps P w0 p0 ops (⟨some d, .call { callee := .value fo, args := xs.toArray, argTypes := ts }, ty, ps, af, none⟩ :: rest) ⟨n, sl, m⟩ Q :=
  aops_cons rfl (aop_callA hf rfl hent (dst_of hd) (ev_eq hfo) (fun a ha => cleanL_mem (hargs ▸ hcl) a ha) (hargs ▸ hden) hk)
theorem x_callB (hf : Fit w0 p0) {fo : Operand} {xs : List Operand} {ts : Array TypeId} {f : Nat} {cap args : List AV} {R : AV → Prop} (hd : lt d n = true) (hfo : ev sl fo = some (.fn f cap)) (hargs : (xs.map (St.ev ⟨n, sl, m⟩) ++ cap).map (AV.conv m) = args)
    (hent : ∀ args w, (callFunc f args).run P w = .ok (.enter f args) w) (hden : Den P f args R) (hfl : ∀ r, R r → r.flat = true) (hk : ∀ r, R r → AOps P w0 p0 ops rest ⟨n, (d, r) :: sl, m⟩ Q) :
    AOps P w0 p0 ops (⟨some d, .call { callee := .value fo, args := xs.toArray, argTypes := ts }, ty, ps, af, none⟩ :: rest) ⟨n, sl, m⟩ Q :=
  aops_cons rfl (aop_callB hf rfl hent (dst_of hd) (ev_eq hfo) (hargs ▸ hden) hfl hk)
end

theorem aops_le {ops : Array Oper} {rest : List Oper} {σ σ' : St} {Q : Exit → St → Prop} (hl : Le σ σ') (h : AOps P w0 p0 ops rest σ' Q) : AOps P w0 p0 ops rest σ Q := fun a w hr => h a w (hl _ _ _ _ hr)

theorem aw_seq_k {x y : Code} {σ : St} {Q : Exit → St → Prop} (h : ∀ K : St → Prop, (∀ σ', AW P w0 p0 y σ' Q → K σ') → AW P w0 p0 x σ (thenQ K Q)) : AW P w0 p0 (.seq x y) σ Q :=
  aw_seq (h _ fun _ h => h)
theorem aw_cond_t {x y : Code} {c : Operand} {n : Nat} {sl : List (Nat × AV)} {m : Mem} {Q : Exit → St → Prop} (hc : ev sl c = some (.s (.bool true))) (h : AW P w0 p0 x ⟨n, sl, m⟩ Q) : AW P w0 p0 (.cond c x y) ⟨n, sl, m⟩ Q :=
  aw_cond (ev_eq hc) (fun _ => h) (fun h => by cases h)
theorem aw_cond_f {x y : Code} {c : Operand} {n : Nat} {sl : List (Nat × AV)} {m : Mem} {Q : Exit → St → Prop} (hc : ev sl c = some (.s (.bool false))) (h : AW P w0 p0 y ⟨n, sl, m⟩ Q) : AW P w0 p0 (.cond c x y) ⟨n, sl, m⟩ Q :=
  aw_cond (ev_eq hc) (fun h => by cases h) (fun _ => h)
theorem aw_cond_s {x y : Code} {c : Operand} {n : Nat} {sl : List (Nat × AV)} {m : Mem} {Q : Exit → St → Prop} {t : Bool} (hc : ev sl c = some (.s (.bool t))) (h1 : t = true → AW P w0 p0 x ⟨n, sl, m⟩ Q) (h2 : t = false → AW P w0 p0 y ⟨n, sl, m⟩ Q) : AW P w0 p0 (.cond c x y) ⟨n, sl, m⟩ Q :=
  aw_cond (ev_eq hc) h1 h2
theorem aops_end {ops : Array Oper} {σ : St} {K : St → Prop} {Q : Exit → St → Prop} (h : K σ) : AOps P w0 p0 ops [] σ (thenQ K Q) := aops_nil h

end Go.Abs
