/-
  The law SessBack: whatever the entries and the entry, the call returns true, and both read behind it as they read before. No condition beyond the row's own.
-/
import Derived.Test.YtcjchfocohagdaaRows
import Derived.Test.YtcjchfocohagdaaSW10
import Derived.Test.YtcjchfocohagdaaB2
import Derived.Test.YtcjchfocohagdaaX2
import Derived.WalkKit
import Derived.ProofKit
import Derived.OpenShut
import Derived.JoinedCond
import Derived.SizedLaws
namespace Go.Proofs.Ytcjchfocohagdaa
open Go.ChangeShapes Go.WideShapes Go.ChangeAt Go.RowKit Go.Abs
set_option linter.unusedVariables false
theorem own : ownKnob Try.prog.godebug = none := by kernel_rfl
theorem laid : laidOutB Try.prog = true := by kernel_rfl
theorem td22 : tdOf? Try.prog 16 22 = some (.sl 40 (.agg [.int .i64, .str, .int .i64, .int .i64])) := by kernel_rfl
theorem td24 : tdOf? Try.prog 16 24 = some (.agg [.int .i64, .str, .int .i64, .int .i64]) := by kernel_rfl
set_option maxRecDepth 100000 in
theorem sessBack_contract (H : Type) (enc : TypeId × Value → H) (W : World) (base : Nat) (args : Array Value) (ds gs : List (DataW H)) (before : List MemPlace)
    (hval : ∀ (j : Nat) t v, Try.f8.params[j]? = some t → args[j]? = some v → Value.okWide Try.prog W .any base t v)
    (hW : DataW.Whole enc Try.prog Try.f8.params.toList Rows.sessBackSpec.vars false W args.toList ds gs before)
    (hsz : (DataW.weightsEach Try.prog (Try.f8.params.toList ++ Rows.sessBackSpec.plain.varTypes Try.prog) (ds ++ gs)).all (· ≤ reachBytes) = true) :
    Calls Try.prog 8 args W fun e W' => ∃ v, e = .returned v ∧ Rows.sessBackSpec.post enc Try.prog Try.f8 false true false false W args v W' := by
  have hW' := hW
  obtain ⟨p, q, hA0, hV, rfl, hfz, hnd⟩ := hW
  have hA : DataW.TrodAll enc Try.prog W 0 (fun _ => true) true Try.f8.params.toList args.toList ds p := hA0
  rw [Try.params8] at hA hval
  obtain ⟨v0, vs0, d0, ds0, p0, q0, hargs, rfl, rfl, h0, r0⟩ := trodAll_cons hA
  obtain ⟨v1, vs1, d1, ds1, p1, q1, rfl, rfl, rfl, h1, r1⟩ := trodAll_cons r0
  obtain ⟨rfl, rfl, rfl⟩ := trodAll_nil r1
  obtain rfl : args = #[v0, v1] := by cases args; simp_all
  obtain ⟨c0, y0, a0⟩ := rel_one td22 Try.g22 (hval 0 22 v0 rfl rfl) h0 (light_arg (i := 0) hsz (by rw [Try.params8]; rfl) rfl)
  obtain ⟨l, rfl, hl, ht⟩ := ty_ses y0
  obtain ⟨c1, y1, a1⟩ := rel_agg td24 Try.g24 (hval 1 24 v1 rfl rfl) h1 (light_arg (i := 1) hsz (by rw [Try.params8]; rfl) rfl)
  obtain ⟨e, rfl, he⟩ := ty_se (by simpa only [Ty] using y1)
  refine (sessBack_den l e (by omega) ht (fun _ => False) W [v0, v1] (fun _ h => h.elim) ⟨rfl, fun i c v hc hv => ?_⟩).mono fun e W' ⟨v, r, he, hr, hE, hv⟩ => ?_
  · match i, hc, hv with
    | 0, hc, hv => cases hc; cases hv; exact a0
    | 1, hc, hv => cases hc; cases hv; exact a1
  · subst hr
    cases hv
    exact ⟨_, he, said_post (t := 4) hW' (below_of_ext hE) laid (by rw [Try.params8]; decide +kernel) rfl (fun _ => rfl) (by kernel_rfl) (by kernel_rfl) Try.underlying4⟩

set_option maxRecDepth 100000 in
theorem sessBack_lifted (os : Os) (started : os.Started) (H : Type) (enc : TypeId × Value → H) (F : Stop.Interp) :
    ReturnsInHanded {} Try.checked os 8 .any (Rows.sessBackSpec.pre6 enc Try.prog Try.f8 Rows.sessBackRow.domain false) (Rows.sessBackSpec.post enc Try.prog Try.f8 false true false false) := by
  refine returnsInHanded_of_change_sized (C := Try.checked) (s := Rows.sessBackSpec) own started (by kernel_rfl) Try.func8
    (ChangeSpec.witness6 (enc := enc) (C := Try.checked) (s := Rows.sessBackSpec) false ⟨#[], #[.slice none 0 0, .agg #[.int .i64 0, .string ⟨#[]⟩, .int .i64 0, .int .i64 0]], []⟩ 8 (by kernel_rfl) (by kernel_rfl) (by kernel_rfl) (by kernel_rfl)) ?_
  intro W base args ds gs before hval hW _ hsz _
  exact sessBack_contract H enc W base args ds gs before hval hW hsz

theorem sessBack_proved : Rows.SessBackSaid :=
  OpenClaim.holds_of_wide 8 Try.f8 rfl rfl rfl rfl rfl rfl rfl ⟨rfl, rfl, rfl, rfl, rfl⟩ rfl rfl rfl rfl rfl (by kernel_rfl) Try.func8 (by kernel_rfl)
    (of_decide_eq_true (by kernel_rfl)) (by unfold Func.isWrapper; first | (rw [if_pos (by decide +kernel)]; kernel_rfl) | (rw [if_neg (by decide +kernel)]; exact ⟨rfl, rfl⟩))
    (fun os started H enc _ => sessBack_lifted os started H enc default)
end Go.Proofs.Ytcjchfocohagdaa
