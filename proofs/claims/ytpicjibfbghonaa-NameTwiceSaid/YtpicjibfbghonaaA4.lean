import Derived.Test.YtpicjibfbghonaaA3
set_option linter.unusedVariables false
namespace Go.Abs
open Go Go.RowKit
variable {P : Program}

/-- The operation yields this abstract value, and leaves the world alone. -/
def PureOp (P : Program) (o : Oper) (σ : St) (av : AV) : Prop :=
  ∀ (act : Act) (w : World) (p : Hp), SlotsRel w p σ.slots act.tmps → MemRel w p σ.mem → ∃ v, (execOp act.eval o).run P w = .ok (.value v) w ∧ RelV w p av v

theorem RelV.s_inv {w : World} {p : Hp} {u v : Value} (h : RelV w p (.s u) v) : v = u := by cases h; rfl

theorem ev_s {σ : St} {act : Act} {w : World} {p : Hp} (hs : SlotsRel w p σ.slots act.tmps) {x : Operand} {u : Value} (h : σ.ev x = .s u) : act.eval x = u :=
  RelV.s_inv (h ▸ ev_rel hs x)

theorem pure_move {o : Oper} {σ : St} {x : Operand} (ho : o.op = .move x) : PureOp P o σ (σ.ev x) :=
  fun act w p hs _ => ⟨act.eval x, by simp [execOp, ho], ev_rel hs x⟩
theorem pure_assign {o : Oper} {σ : St} {x : Operand} (ho : o.op = .assign x) : PureOp P o σ (σ.ev x) :=
  fun act w p hs _ => ⟨act.eval x, by simp [execOp, ho], ev_rel hs x⟩
theorem pure_pick {o : Oper} {σ : St} {c a b : Operand} {t : Bool} (ho : o.op = .pick c a b) (hc : σ.ev c = .s (.bool t)) : PureOp P o σ (if t then σ.ev a else σ.ev b) := by
  intro act w p hs _
  have := ev_s hs hc
  refine ⟨if t then act.eval a else act.eval b, ?_, ?_⟩
  · simp [execOp, ho, this, asBool]
  · cases t
    · exact ev_rel hs b
    · exact ev_rel hs a

/-- Arithmetic and comparison of integers. -/
def aint (op : BinOp) (k : IntKind) (a b : Int) : Option Value :=
  match op with
  | .add => some (.int k (k.wrap (a + b)))
  | .sub => some (.int k (k.wrap (a - b)))
  | .mul => some (.int k (k.wrap (a * b)))
  | .quo => if b = 0 then none else some (.int k (k.wrap (a.tdiv b)))
  | .rem => if b = 0 then none else some (.int k (a.tmod b))
  | .eql => some (.bool (a == b))
  | .neq => some (.bool (a != b))
  | .lss => some (.bool (a < b))
  | .leq => some (.bool (a ≤ b))
  | .gtr => some (.bool (a > b))
  | .geq => some (.bool (a ≥ b))
  | _ => none
def astr (op : BinOp) (x y : ByteArray) : Option Value :=
  match op with
  | .eql => some (.bool (x.toList == y.toList))
  | .neq => some (.bool (!(x.toList == y.toList)))
  | .lss => some (.bool (Op.bytesLess x.toList y.toList))
  | .leq => some (.bool (Op.bytesLess x.toList y.toList || x.toList == y.toList))
  | .gtr => some (.bool (!(Op.bytesLess x.toList y.toList || x.toList == y.toList)))
  | .geq => some (.bool (!Op.bytesLess x.toList y.toList))
  | _ => none
def abin (P : Program) (op : BinOp) (t : TypeId) (x y : Value) : Option Value :=
  match x, y with
  | .int k a, .int k' b => if k = k' then aint op k a b else none
  | .string a, .string b => astr op a b
  | .bool a, .bool b => match P.underlying t, op with | some .bool, .eql => some (.bool (a == b)) | some .bool, .neq => some (.bool (!(a == b))) | _, _ => none
  | _, _ => none

theorem run_equalIn_bool (d : Nat) {t : TypeId} (ht : P.underlying t = some .bool) (a b : Bool) (w : World) : (Op.equalIn (d + 1) t (.bool a) (.bool b)).run P w = .ok (a == b) w := by
  simp [Op.equalIn, run_underlying ht]
theorem run_equal_bool {t : TypeId} (ht : P.underlying t = some .bool) (a b : Bool) (w : World) : (Op.equal t (.bool a) (.bool b)).run P w = .ok (a == b) w :=
  run_equalIn_bool 9999 ht a b w

theorem abin_run {op : BinOp} {t : TypeId} {x y r : Value} (h : abin P op t x y = some r) (xo yo : Operand) (w : World) :
    Sem.run P (do eqGuard op t xo yo x y; binOp op t x y) w = .ok r w := by
  unfold abin at h
  split at h
  · rename_i k a k' b
    split at h
    · rename_i hk; subst hk
      cases op <;> simp_all [aint, eqGuard, binOp, Op.intArith, Op.intDiv, Op.intCmp]
    · cases h
  · rename_i a b
    cases op <;> simp_all [astr, eqGuard, binOp, Op.stringOp]
  · rename_i a b
    split at h
    · rename_i ht
      cases h
      simp [eqGuard, binOp, run_equal_bool ht]
    · rename_i ht
      cases h
      simp [eqGuard, binOp, run_equal_bool ht]
    · cases h
  · cases h

theorem pure_bin {o : Oper} {σ : St} {op : BinOp} {t yt : TypeId} {x y : Operand} {u v r : Value} (ho : o.op = .binOp op t x y yt) (hx : σ.ev x = .s u) (hy : σ.ev y = .s v)
    (h : abin P op t u v = some r) : PureOp P o σ (.s r) := by
  intro act w p hs _
  refine ⟨r, ?_, .s r⟩
  have e1 := ev_s hs hx
  have e2 := ev_s hs hy
  have := abin_run (P := P) h x y w
  simp only [execOp, ho, e1, e2]
  rw [Sem.run_bind, this]
  simp

theorem pure_not {o : Oper} {σ : St} {t : TypeId} {x : Operand} {b : Bool} (ho : o.op = .unOp .not t x) (hx : σ.ev x = .s (.bool b)) : PureOp P o σ (.s (.bool !b)) := by
  intro act w p hs _
  exact ⟨_, by simp [execOp, ho, ev_s hs hx, Op.unary], .s _⟩
theorem pure_neg {o : Oper} {σ : St} {t : TypeId} {x : Operand} {k : IntKind} {n : Int} (ho : o.op = .unOp .neg t x) (hx : σ.ev x = .s (.int k n)) : PureOp P o σ (.s (.int k (k.wrap (0 - n)))) := by
  intro act w p hs _
  exact ⟨_, by simp [execOp, ho, ev_s hs hx, Op.unary, Op.intArith], .s _⟩

end Go.Abs
