import Derived.Test.YtpicjibfbghonaaA22
set_option linter.unusedVariables false
set_option linter.unusedSimpArgs false
namespace Go.Abs
open Go Go.RowKit
variable {P : Program} {w0 : World} {p0 : Hp}
section
variable {ops : Array Oper} {rest : List Oper} {n d ty : Nat} {ps : String} {af : Array Edge} {gd : Option (Nat × Bool)} {sl : List (Nat × AV)} {m : Mem} {Q : Exit → St → Prop}
theorem p_move {x : Operand} {a : AV}  (hx : ev sl x = some a) : PureOp P ⟨some d, .move x, ty, ps, af, gd⟩ ⟨n, sl, m⟩ a :=
  (ev_eq hx ▸ pure_move rfl)

theorem p_assign {x : Operand} {a : AV}  (hx : ev sl x = some a) : PureOp P ⟨some d, .assign x, ty, ps, af, gd⟩ ⟨n, sl, m⟩ a :=
  (ev_eq hx ▸ pure_assign rfl)

theorem p_assign_bad {x : Operand}   : PureOp P ⟨some d, .assign x, ty, ps, af, gd⟩ ⟨n, sl, m⟩ .bad :=
  (fun act w p hs _ => ⟨act.eval x, by simp [execOp], .bad _⟩)

theorem p_pick_t {c x y : Operand} {a : AV}  (hc : ev sl c = some (.s (.bool true))) (hx : ev sl x = some a) : PureOp P ⟨some d, .pick c x y, ty, ps, af, gd⟩ ⟨n, sl, m⟩ a :=
  (ev_eq hx ▸ pure_pick rfl (ev_eq hc))

theorem p_pick_f {c x y : Operand} {a : AV}  (hc : ev sl c = some (.s (.bool false))) (hx : ev sl y = some a) : PureOp P ⟨some d, .pick c x y, ty, ps, af, gd⟩ ⟨n, sl, m⟩ a :=
  (ev_eq hx ▸ pure_pick rfl (ev_eq hc))

theorem p_bin {op : BinOp} {t yt : TypeId} {x y : Operand} {u v r : Value}  (hx : ev sl x = some (.s u)) (hy : ev sl y = some (.s v)) (h : abin P op t u v = some r) : PureOp P ⟨some d, .binOp op t x y yt, ty, ps, af, gd⟩ ⟨n, sl, m⟩ (.s r) :=
  (pure_bin rfl (ev_eq hx) (ev_eq hy) h)

theorem p_not {t : TypeId} {x : Operand} {b : Bool}  (hx : ev sl x = some (.s (.bool b))) : PureOp P ⟨some d, .unOp .not t x, ty, ps, af, gd⟩ ⟨n, sl, m⟩ (.s (.bool !b)) :=
  (pure_not rfl (ev_eq hx))

theorem p_len_str {t : TypeId} {x : Operand} {s : ByteArray}  (hx : ev sl x = some (.s (.string s))) (ht : P.underlying t = some .string) : PureOp P ⟨some d, .call { callee := .builtin .len, args := #[x], argTypes := #[t] }, ty, ps, af, gd⟩ ⟨n, sl, m⟩ (.s (.int .i64 s.size)) :=
  (pure_len_str rfl ht (ev_eq hx))

theorem p_len_sl {t e k : Nat} {x : Operand} {xs : List (List AV)}  (hx : ev sl x = some (.sl k xs)) (ht : elem? P t = some e) : PureOp P ⟨some d, .call { callee := .builtin .len, args := #[x], argTypes := #[t] }, ty, ps, af, gd⟩ ⟨n, sl, m⟩ (.s (.int .i64 xs.length)) :=
  (pure_len_sl rfl ht (ev_eq hx))

theorem p_len_own {t e g k off c : Nat} {x : Operand}  (hx : ev sl x = some (.own g k off c)) (ht : elem? P t = some e) : PureOp P ⟨some d, .call { callee := .builtin .len, args := #[x], argTypes := #[t] }, ty, ps, af, gd⟩ ⟨n, sl, m⟩ (.s (.int .i64 c)) :=
  (pure_len_own rfl ht (ev_eq hx))

theorem p_min {t1 t2 : TypeId} {x y : Operand} {k k' : IntKind} {a b : Int}  (hx : ev sl x = some (.s (.int k a))) (hy : ev sl y = some (.s (.int k' b))) : PureOp P ⟨some d, .call { callee := .builtin .min, args := #[x, y], argTypes := #[t1, t2] }, ty, ps, af, gd⟩ ⟨n, sl, m⟩ (.s (.int k (min a b))) :=
  (pure_min rfl (ev_eq hx) (ev_eq hy))

theorem p_max {t1 t2 : TypeId} {x y : Operand} {k k' : IntKind} {a b : Int}  (hx : ev sl x = some (.s (.int k a))) (hy : ev sl y = some (.s (.int k' b))) : PureOp P ⟨some d, .call { callee := .builtin .max, args := #[x, y], argTypes := #[t1, t2] }, ty, ps, af, gd⟩ ⟨n, sl, m⟩ (.s (.int k (max a b))) :=
  (pure_max rfl (ev_eq hx) (ev_eq hy))

theorem p_extract {x : Operand} {i : Nat} {vs : List AV} {c : AV}  (hx : ev sl x = some (.tup vs)) (hi : vs[i]? = some c) : PureOp P ⟨some d, .extract x i, ty, ps, af, gd⟩ ⟨n, sl, m⟩ c :=
  (pure_extract rfl (ev_eq hx) hi)

theorem p_idx_sl {x i : Operand} {t e k : Nat} {xs : List (List AV)} {c : List AV} {kd : IntKind} {z : Int}  (hx : ev sl x = some (.sl k xs)) (hi : ev sl i = some (.s (.int kd z))) (ht : elem? P t = some e) (hc : cells? P e = some k)
    (hn : 0 ≤ z ∧ xs[z.toNat]? = some c) : PureOp P ⟨some d, .indexAddr t x i, ty, ps, af, gd⟩ ⟨n, sl, m⟩ (.adr c) :=
  (pure_indexAddr_sl rfl ht hc (ev_eq hx) (ev_eq hi) hn)

theorem p_idx_own {x i : Operand} {t e g k off c : Nat} {kd : IntKind} {z : Int}  (hx : ev sl x = some (.own g k off c)) (hi : ev sl i = some (.s (.int kd z))) (ht : elem? P t = some e) (hc : cells? P e = some k)
    (hn : 0 ≤ z ∧ z < c) : PureOp P ⟨some d, .indexAddr t x i, ty, ps, af, gd⟩ ⟨n, sl, m⟩ (.ref g k (off + z.toNat) 0) :=
  (pure_indexAddr_own rfl ht hc (ev_eq hx) (ev_eq hi) hn)

theorem p_load1 {x : Operand} {t : Nat} {c : AV} {cs : List AV}  (hx : ev sl x = some (.adr cs)) (ht : agg? P t = some false) (hc : cs[0]? = some c) : PureOp P ⟨some d, .load t x, ty, ps, af, gd⟩ ⟨n, sl, m⟩ c :=
  (pure_load_adr rfl ht (ev_eq hx) hc)

theorem p_loads {x : Operand} {t k : Nat} {cs cs' : List AV}  (hx : ev sl x = some (.adr cs)) (ht : agg? P t = some true) (hn : cells? P t = some k) (hc : Nat.ble k cs.length = true) (he : cs.take k = cs') : PureOp P ⟨some d, .load t x, ty, ps, af, gd⟩ ⟨n, sl, m⟩ (.agg cs') :=
  (he ▸ pure_load_adrs rfl ht hn (ev_eq hx) (Nat.le_of_ble_eq_true hc))

theorem p_load1r {x : Operand} {t g k j f : Nat} {c : AV} {mm : AM}  (hx : ev sl x = some (.ref g k j f)) (ht : agg? P t = some false) (hm : lk m g = some mm) (hc : (mm.at k j f)[0]? = some c) : PureOp P ⟨some d, .load t x, ty, ps, af, gd⟩ ⟨n, sl, m⟩ c :=
  (pure_load_ref rfl ht (ev_eq hx) (by rw [← lk_eq]; exact hm) hc)

theorem p_loadsr {x : Operand} {t g k j f c : Nat} {mm : AM} {cs' : List AV}  (hx : ev sl x = some (.ref g k j f)) (ht : agg? P t = some true) (hn : cells? P t = some c) (hm : lk m g = some mm) (hc : Nat.ble c (mm.at k j f).length = true) (he : (mm.at k j f).take c = cs') : PureOp P ⟨some d, .load t x, ty, ps, af, gd⟩ ⟨n, sl, m⟩ (.agg cs') :=
  (he ▸ pure_load_refs rfl ht hn (ev_eq hx) (by rw [← lk_eq]; exact hm) (Nat.le_of_ble_eq_true hc))

theorem p_fld_adr {x : Operand} {t u f off c : Nat} {cs cs' : List AV}  (hx : ev sl x = some (.adr cs)) (ht : field? P t f = some (off, u)) (hu : cells? P u = some (c + 1)) (he : cs.drop off = cs') : PureOp P ⟨some d, .fieldAddr t x f, ty, ps, af, gd⟩ ⟨n, sl, m⟩ (.adr cs') :=
  (he ▸ pure_fieldAddr_adr rfl ht hu (by omega) (ev_eq hx))

theorem p_fld_ref {x : Operand} {t u f off c g k j i i' : Nat}  (hx : ev sl x = some (.ref g k j i)) (ht : field? P t f = some (off, u)) (hu : cells? P u = some (c + 1)) (he : i + off = i') : PureOp P ⟨some d, .fieldAddr t x f, ty, ps, af, gd⟩ ⟨n, sl, m⟩ (.ref g k j i') :=
  (he ▸ pure_fieldAddr_ref rfl ht hu (by omega) (ev_eq hx))

theorem p_fld1 {x : Operand} {t u f off : Nat} {cs : List AV} {c : AV}  (hx : ev sl x = some (.agg cs)) (ht : field? P t f = some (off, u)) (hu : agg? P u = some false) (hc : cs[off]? = some c) : PureOp P ⟨some d, .field t x f, ty, ps, af, gd⟩ ⟨n, sl, m⟩ c :=
  (pure_field1 rfl ht hu (ev_eq hx) hc)

theorem p_flds {x : Operand} {t u f off c : Nat} {cs cs' : List AV}  (hx : ev sl x = some (.agg cs)) (ht : field? P t f = some (off, u)) (hu : agg? P u = some true) (hn : cells? P u = some c) (hc : Nat.ble (off + c) cs.length = true) (he : (cs.drop off).take c = cs') : PureOp P ⟨some d, .field t x f, ty, ps, af, gd⟩ ⟨n, sl, m⟩ (.agg cs') :=
  (he ▸ pure_fields rfl ht hu hn (ev_eq hx) (Nat.le_of_ble_eq_true hc))

theorem p_idx_str {x i : Operand} {t : Nat} {s : ByteArray} {kd : IntKind} {z : Int} {b : UInt8}  (hx : ev sl x = some (.s (.string s))) (hi : ev sl i = some (.s (.int kd z))) (ht : P.underlying t = some .string) (hn : 0 ≤ z ∧ s.data[z.toNat]? = some b) : PureOp P ⟨some d, .index t x i, ty, ps, af, gd⟩ ⟨n, sl, m⟩ (.s (.int .u8 b.toNat)) :=
  (pure_index_str rfl ht (ev_eq hx) (ev_eq hi) hn)

theorem p_slice_sl {x : Operand} {lo hi : Option Operand} {t e k l h : Nat} {xs ys : List (List AV)}  (hx : ev sl x = some (.sl k xs)) (ht : elem? P t = some e) (hc : cells? P e = some k)
    (hl : bnd ⟨n, sl, m⟩ 0 lo = some l) (hh : bnd ⟨n, sl, m⟩ xs.length hi = some h) (h1 : l ≤ h) (h2 : h ≤ xs.length) (he : (xs.take h).drop l = ys) : PureOp P ⟨some d, .slice t x lo hi none, ty, ps, af, gd⟩ ⟨n, sl, m⟩ (.sl k ys) :=
  (he ▸ pure_slice_sl rfl ht hc (ev_eq hx) hl hh h1 h2)

theorem p_slice_own {x : Operand} {lo hi : Option Operand} {t e g k off c l h : Nat}  (hx : ev sl x = some (.own g k off c)) (ht : elem? P t = some e) (hc : cells? P e = some k)
    (hl : bnd ⟨n, sl, m⟩ 0 lo = some l) (hh : bnd ⟨n, sl, m⟩ c hi = some h) (h1 : l ≤ h) (h2 : h ≤ c) : PureOp P ⟨some d, .slice t x lo hi none, ty, ps, af, gd⟩ ⟨n, sl, m⟩ (.own g k (off + l) (h - l)) :=
  (pure_slice_own rfl ht hc (ev_eq hx) hl hh h1 h2)

theorem p_slice3_own {x y z : Operand} {lo : Option Operand} {t e g k off c l h mx : Nat}  (hx : ev sl x = some (.own g k off c)) (ht : elem? P t = some e) (hc : cells? P e = some k)
    (hl : bnd ⟨n, sl, m⟩ 0 lo = some l) (hh : bnd ⟨n, sl, m⟩ c (some y) = some h) (hm : bnd ⟨n, sl, m⟩ c (some z) = some mx) (h1 : l ≤ h) (h2 : h ≤ mx) (h3 : mx ≤ c) : PureOp P ⟨some d, .slice t x lo (some y) (some z), ty, ps, af, gd⟩ ⟨n, sl, m⟩ (.own g k (off + l) (h - l)) :=
  (pure_slice3_own rfl ht hc (ev_eq hx) hl hh hm h1 h2 h3)
theorem p_add {t yt : TypeId} {x y : Operand} {a b : Int} (hx : ev sl x = some (.s (.int .i64 a))) (hy : ev sl y = some (.s (.int .i64 b))) (h1 : -9223372036854775808 ≤ a + b) (h2 : a + b ≤ 9223372036854775807) : PureOp P ⟨some d, .binOp .add t x y yt, ty, ps, af, gd⟩ ⟨n, sl, m⟩ (.s (.int .i64 (a + b))) :=
  p_bin hx hy (by simp [abin, aint, wrap_i64 h1 h2])
theorem p_sub {t yt : TypeId} {x y : Operand} {a b : Int} (hx : ev sl x = some (.s (.int .i64 a))) (hy : ev sl y = some (.s (.int .i64 b))) (h1 : -9223372036854775808 ≤ a - b) (h2 : a - b ≤ 9223372036854775807) : PureOp P ⟨some d, .binOp .sub t x y yt, ty, ps, af, gd⟩ ⟨n, sl, m⟩ (.s (.int .i64 (a - b))) :=
  p_bin hx hy (by simp [abin, aint, wrap_i64 h1 h2])
theorem p_makeFunc {f : Nat} {l : List Operand} {cs : List AV} (hl : evs sl [] l = some cs) : PureOp P ⟨some d, .makeFunc (.func f) #[] l.toArray, ty, ps, af, gd⟩ ⟨n, sl, m⟩ (.fn f cs) := by
  have h := evs_eq (n := n) (m := m) hl
  rw [List.append_nil] at h
  exact h ▸ pure_makeFunc rfl
theorem p_build {t : Nat} {parts : List (Nat × Operand)} {zs : List Value} {pl : List (Nat × Nat)} {ps' : List (Nat × AV)} {cs : List AV} (hps : evp sl parts = some ps') (hz : zeros? P t = some zs) (hp : places? P t = some pl)
    (h1 : ∀ x ∈ ps', ∀ c ∈ x.2.cells, c.one = true) (hc : afill (fun i => pl[i]?) (zs.map .s) ps' = some cs) : PureOp P ⟨some d, .build t parts.toArray, ty, ps, af, gd⟩ ⟨n, sl, m⟩ (.agg cs) := by
  have h := evp_eq (n := n) (m := m) hps
  exact pure_build rfl hz hp (fun x hx => h1 (x.1, St.ev ⟨n, sl, m⟩ x.2) (h ▸ List.mem_map.2 ⟨x, hx, rfl⟩)) (h ▸ hc)

def fsl (sl : List (Nat × AV)) : FS := fun t => (lk sl t).getD .bad
theorem fs_fsl (σ : St) : σ.fs = fsl σ.slots := by funext t; simp [St.fs, fsl, lk_eq]
theorem fput_fsl (sl : List (Nat × AV)) (d : Nat) (av : AV) : fput (fsl sl) (some d) av = fsl ((d, av) :: sl) := by
  funext t
  simp only [fput, fsl, lk]
  by_cases h : t = d
  · subst h; rw [if_pos rfl, Nat.beq_refl]; rfl
  · rw [if_neg h]
    have : Nat.beq d t = false := by
      cases hb : Nat.beq d t with
      | true => exact absurd (Nat.eq_of_beq_eq_true hb).symm h
      | false => rfl
    rw [this]

theorem aw_draw (hf : Fit w0 p0) {id : Nat} {l : List Oper} {K : FS → Prop} (hm : P.follows .mixedOrders = true) (hB : Region.lexB .any l.toArray = true)
    (hK : K = fun s => ∃ σ' : St, σ'.n = n ∧ σ'.mem = m ∧ covers (fun t => some (s t)) σ'.slots ∧ noBad σ'.slots = true ∧ Q .normal σ') (h : lexG P l.toArray n m K l (fsl sl)) : AW P w0 p0 (.region id l.toArray true) ⟨n, sl, m⟩ Q :=
  aw_region_draw hf hm hB (by rw [fs_fsl]; subst hK; exact h)
theorem lex_end {K : FS → Prop} {sl' : List (Nat × AV)} (hK : K = fun s => ∃ σ' : St, σ'.n = n ∧ σ'.mem = m ∧ covers (fun t => some (s t)) σ'.slots ∧ noBad σ'.slots = true ∧ Q .normal σ') (hc : coversL sl sl') (hnb : noBad sl' = true) (h : Q .normal ⟨n, sl', m⟩) : lexG P ops n m K [] (fsl sl) := by
  subst hK
  refine ⟨⟨n, sl', m⟩, rfl, rfl, ?_, hnb, h⟩
  have : ∀ l, coversL sl l → covers (fun t => some (fsl sl t)) l := by
    intro l
    induction l with
    | nil => exact fun _ => trivial
    | cons x r ih => exact fun h => ⟨by simp [fsl, h.1], ih h.2⟩
  exact this _ hc

/-- The slots that an operation looks at. -/
def inL (l : List Nat) (t : Nat) : Bool := match l with | [] => false | x :: r => match Nat.beq x t with | true => true | false => inL r t
theorem inL_mem : ∀ {l : List Nat} {t : Nat}, inL l t = true → t ∈ l
  | [], _, h => by simp [inL] at h
  | x :: r, t, h => by
    simp only [inL] at h
    split at h
    · rename_i hb; rw [Nat.eq_of_beq_eq_true hb]; simp
    · exact List.mem_cons_of_mem _ (inL_mem h)
def looksL (looks : List Nat) (sl : List (Nat × AV)) : List (Nat × AV) → Prop
  | [] => True
  | (t, a) :: r => (inL looks t = true ∧ lk sl t = some a) ∧ looksL looks sl r

theorem d_step {K : FS → Prop} {o : Oper} {av : AV} {d : Nat} (ho : o.dst = some d) (hd : lt d n = true) (hw : wantedS ops o (fsl sl) = some true) (hst : StepOn P ops n m o (fsl sl) av) (hk : lexG P ops n m K rest (fsl ((d, av) :: sl))) : lexG P ops n m K (o :: rest) (fsl sl) :=
  ⟨av, ⟨by rw [ho]; exact dst_of hd, .inl ⟨hw, hst⟩⟩, by rw [ho, fput_fsl]; exact hk⟩
theorem d_pure {K : FS → Prop} {op : Op} {av : AV} {gd : Option (Nat × Bool)} (L : List (Nat × AV)) (hd : lt d n = true) (hw : wantedS ops ⟨some d, op, ty, ps, af, gd⟩ (fsl sl) = some true) (hL : looksL (Oper.looksAt ops ⟨some d, op, ty, ps, af, gd⟩) sl L) (hnb : noBad L = true)
    (h : PureOp P ⟨some d, op, ty, ps, af, gd⟩ ⟨n, L, m⟩ av) (hk : lexG P ops n m K rest (fsl ((d, av) :: sl))) : lexG P ops n m K (⟨some d, op, ty, ps, af, gd⟩ :: rest) (fsl sl) := by
  refine d_step rfl hd hw (step_pure L ?_ hnb h) hk
  have : ∀ l, looksL (Oper.looksAt ops ⟨some d, op, ty, ps, af, gd⟩) sl l → covers (fun t => if t ∈ Oper.looksAt ops ⟨some d, op, ty, ps, af, gd⟩ then some (fsl sl t) else none) l := by
    intro l
    induction l with
    | nil => exact fun _ => trivial
    | cons x r ih => exact fun h => ⟨by simp only; rw [if_pos (inL_mem h.1.1)]; simp [fsl, h.1.2], ih h.2⟩
  exact this _ hL
theorem d_skip {K : FS → Prop} {op : Op} {gd : Option (Nat × Bool)} (hd : lt d n = true) (hw : wantedS ops ⟨some d, op, ty, ps, af, gd⟩ (fsl sl) = some false) (hk : lexG P ops n m K rest (fsl ((d, .s undef) :: sl))) : lexG P ops n m K (⟨some d, op, ty, ps, af, gd⟩ :: rest) (fsl sl) :=
  ⟨.s undef, ⟨dst_of hd, .inr ⟨hw, rfl⟩⟩, by rw [fput_fsl]; exact hk⟩
theorem d_split {K : FS → Prop} {l : List Oper} (g : Nat) {t : Bool} (b : Bool) (hg : lk sl g = some (.s (.bool t))) (h1 : t = b → lexG P ops n m K l (fsl ((g, .s (.bool b)) :: sl))) (h2 : t = (!b) → lexG P ops n m K l (fsl ((g, .s (.bool !b)) :: sl))) : lexG P ops n m K l (fsl sl) := by
  have hsame : ∀ c, t = c → fsl ((g, .s (.bool c)) :: sl) = fsl sl := by
    rintro c rfl
    funext x
    simp only [fsl, lk]
    cases hb : Nat.beq g x with
    | true => rw [← Nat.eq_of_beq_eq_true hb, hg]
    | false => rfl
  rcases (by cases t <;> cases b <;> simp : t = b ∨ t = !b) with h | h
  · rw [← hsame b h]; exact h1 h
  · rw [← hsame (!b) h]; exact h2 h
end

theorem str_at {s : ByteArray} {k : Nat} (h : k < s.size) : s.data[((k : Nat) : Int).toNat]? = some s[k] := by
  rw [Int.toNat_natCast]; exact Array.getElem?_eq_getElem h
theorem list_at {α : Type} {s : List α} {k : Nat} (h : k < s.length) : s[((k : Nat) : Int).toNat]? = some s[k] := by
  rw [Int.toNat_natCast]; exact List.getElem?_eq_getElem h
theorem ret_int {k : IntKind} {a b : Int} (h : a = b) : AV.s (.int k a) = .s (.int k b) := by rw [h]
theorem ret_bool {a b : Bool} (h : a = b) : AV.s (.bool a) = .s (.bool b) := by rw [h]
end Go.Abs
