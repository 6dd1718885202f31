import Derived.Test.YtcjchfocohagdaaQ5
import Derived.Test.YtcjchfocohagdaaT1
set_option linter.unusedVariables false
set_option linter.unusedSimpArgs false
namespace Go.Abs
open Go Go.RowKit
variable {P : Program} {n : Nat} {sl : List (Nat × AV)} {m : Mem} {d ty : Nat} {ps : String} {af : Array Edge} {gd : Option (Nat × Bool)}
/-- One integer kind into another. -/
theorem p_conv {a b : TypeId} {x : Operand} {k k' : IntKind} {z z' : Int} {D : TypeDesc} (hx : ev sl x = some (.s (.int k z))) (ha : P.underlying a = some D) (hb : P.underlying b = some (.int k')) (hz : k'.wrap z = z') :
    PureOp P ⟨some d, .convert a b x, ty, ps, af, gd⟩ ⟨n, sl, m⟩ (.s (.int k' z')) := by
  intro act w p hs _
  refine ⟨.int k' z', ?_, .s _⟩
  have e1 := ev_s hs (ev_eq (n := n) (m := m) hx)
  simp [execOp, e1, Go.convert, run_underlying ha, run_underlying hb, Conv.intToInt, hz]
/-- Half of it. -/
theorem p_half {t yt : TypeId} {x : Operand} {k : IntKind} {z z' : Int} (hx : ev sl x = some (.s (.int k z))) (hz : z.fdiv 2 = z') (h64 : 1 < k.bits) : PureOp P ⟨some d, .binOp .shr t x (.const (.int .u64 1)) yt, ty, ps, af, gd⟩ ⟨n, sl, m⟩ (.s (.int k z')) := by
  intro act w p hs _
  refine ⟨.int k z', ?_, .s _⟩
  have e1 := ev_s hs (ev_eq (n := n) (m := m) hx)
  have e2 : act.eval (.const (.int .u64 1)) = .int .u64 1 := rfl
  have e3 : min (1 : Int).toNat k.bits = 1 := by show min 1 k.bits = 1; omega
  have e4 : (binOp .shr t (.int k z) (.int .u64 1)).run P w = .ok (.int k z') w := by
    show (Op.shift .shr k z .u64 1).run P w = _
    unfold Op.shift
    rw [if_neg (by omega)]
    simp only [e3]
    show Result.ok (Value.int k (z.fdiv (2 ^ 1))) w = _
    rw [show (2 : Int) ^ 1 = 2 from rfl, hz]
  simp only [execOp, e1, e2]
  rw [Sem.run_bind]
  have e5 : (eqGuard .shr t x (.const (.int .u64 1)) (.int k z) (.int .u64 1)).run P w = .ok () w := by simp [eqGuard]
  simp [e5, e4]
theorem half_z {a b : Int} (ha : 0 ≤ a) (hb : a ≤ 9223372036854775807) (e : b = a / 2) : IntKind.u64.wrap a = a ∧ a.fdiv 2 = b ∧ IntKind.i64.wrap b = b := by
  subst e
  refine ⟨?_, ?_, ?_⟩
  · unfold IntKind.wrap; simp [IntKind.signed, IntKind.bits]; omega
  · rw [Int.fdiv_eq_ediv_of_nonneg a (by omega)]
  · exact wrap_i64 (by omega) (by omega)
end Go.Abs
namespace Go.Abs
open Go Go.RowKit
variable {P : Program} {n : Nat} {sl : List (Nat × AV)} {m : Mem} {d ty : Nat} {ps : String} {af : Array Edge} {gd : Option (Nat × Bool)}
theorem p_mul {t yt : TypeId} {x y : Operand} {a b r : Int} (hx : ev sl x = some (.s (.int .i64 a))) (hy : ev sl y = some (.s (.int .i64 b))) (hr : a * b = r) (h1 : -9223372036854775808 ≤ r) (h2 : r ≤ 9223372036854775807) : PureOp P ⟨some d, .binOp .mul t x y yt, ty, ps, af, gd⟩ ⟨n, sl, m⟩ (.s (.int .i64 r)) := by
  subst hr
  exact p_bin hx hy (by simp [abin, aint, wrap_i64 h1 h2])
end Go.Abs
