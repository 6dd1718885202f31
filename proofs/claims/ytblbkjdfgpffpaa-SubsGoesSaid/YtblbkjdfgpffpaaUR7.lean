/-
  The law SubsGoes: whatever the entries, the call returns true, and they read behind it as they read before. No condition beyond the row's own.
-/
import Derived.Test.YtblbkjdfgpffpaaRows
import Derived.Test.YtblbkjdfgpffpaaUW11
import Derived.Test.YtblbkjdfgpffpaaB2
import Derived.Test.YtblbkjdfgpffpaaS4
import Derived.Test.YtblbkjdfgpffpaaU4
import Derived.WalkKit
import Derived.ProofKit
import Derived.OpenShut
import Derived.JoinedCond
import Derived.SizedLaws
namespace Go.Proofs.Ytblbkjdfgpffpaa
open Go.ChangeShapes Go.WideShapes Go.ChangeAt Go.RowKit Go.Abs
set_option linter.unusedVariables false
theorem own : ownKnob Try.prog.godebug = none := by kernel_rfl
theorem laid : laidOutB Try.prog = true := by kernel_rfl
theorem td22 : tdOf? Try.prog 16 22 = some (.sl 48 (.agg [.str, .str, .int .i64, .int .i64])) := by kernel_rfl
set_option maxRecDepth 100000 in
theorem subsGoes_contract (H : Type) (enc : TypeId × Value → H) (W : World) (base : Nat) (args : Array Value) (ds gs : List (DataW H)) (before : List MemPlace)
    (hval : ∀ (j : Nat) t v, Try.f9.params[j]? = some t → args[j]? = some v → Value.okWide Try.prog W .any base t v)
    (hW : DataW.Whole enc Try.prog Try.f9.params.toList Rows.subsGoesSpec.vars false W args.toList ds gs before)
    (hsz : (DataW.weightsEach Try.prog (Try.f9.params.toList ++ Rows.subsGoesSpec.plain.varTypes Try.prog) (ds ++ gs)).all (· ≤ reachBytes) = true) :
    Calls Try.prog 9 args W fun e W' => ∃ v, e = .returned v ∧ Rows.subsGoesSpec.post enc Try.prog Try.f9 false true false false W args v W' := by
  have hW' := hW
  obtain ⟨p, q, hA0, hV, rfl, hfz, hnd⟩ := hW
  have hA : DataW.TrodAll enc Try.prog W 0 (fun _ => true) true Try.f9.params.toList args.toList ds p := hA0
  rw [Try.params9] at hA hval
  obtain ⟨v0, vs0, d0, ds0, p0, q0, hargs, rfl, rfl, h0, r0⟩ := trodAll_cons hA
  obtain ⟨rfl, rfl, rfl⟩ := trodAll_nil r0
  obtain rfl : args = #[v0] := by cases args; simp_all
  obtain ⟨c0, y0, a0⟩ := rel_one td22 Try.g22 (hval 0 22 v0 rfl rfl) h0 (light_arg (i := 0) hsz (by rw [Try.params9]; rfl) rfl)
  obtain ⟨l, rfl, hl, ht⟩ := ty_ents y0
  refine (subsGoes_den l (by omega) ht (fun _ => False) W [v0] (fun _ h => h.elim) ⟨rfl, fun i c v hc hv => ?_⟩).mono fun e W' ⟨v, r, he, hr, hE, hv⟩ => ?_
  · match i, hc, hv with
    | 0, hc, hv => cases hc; cases hv; exact a0
  · subst hr
    cases hv
    exact ⟨_, he, said_post (t := 4) hW' (below_of_ext hE) laid (by rw [Try.params9]; decide +kernel) rfl (fun _ => rfl) (by kernel_rfl) (by kernel_rfl) Try.underlying4⟩

set_option maxRecDepth 100000 in
theorem subsGoes_lifted (os : Os) (started : os.Started) (H : Type) (enc : TypeId × Value → H) (F : Stop.Interp) :
    ReturnsInHanded {} Try.checked os 9 .any (Rows.subsGoesSpec.pre6 enc Try.prog Try.f9 Rows.subsGoesRow.domain false) (Rows.subsGoesSpec.post enc Try.prog Try.f9 false true false false) := by
  refine returnsInHanded_of_change_sized (C := Try.checked) (s := Rows.subsGoesSpec) own started (by kernel_rfl) Try.func9
    (ChangeSpec.witness6 (enc := enc) (C := Try.checked) (s := Rows.subsGoesSpec) false ⟨#[], #[.slice none 0 0], []⟩ 8 (by kernel_rfl) (by kernel_rfl) (by kernel_rfl) (by kernel_rfl)) ?_
  intro W base args ds gs before hval hW _ hsz _
  exact subsGoes_contract H enc W base args ds gs before hval hW hsz

theorem subsGoes_proved : Rows.SubsGoesSaid :=
  OpenClaim.holds_of_wide 9 Try.f9 rfl rfl rfl rfl rfl rfl rfl ⟨rfl, rfl, rfl, rfl, rfl⟩ rfl rfl rfl rfl rfl (by kernel_rfl) Try.func9 (by kernel_rfl)
    (of_decide_eq_true (by kernel_rfl)) (by unfold Func.isWrapper; first | (rw [if_pos (by decide +kernel)]; kernel_rfl) | (rw [if_neg (by decide +kernel)]; exact ⟨rfl, rfl⟩))
    (fun os started H enc _ => subsGoes_lifted os started H enc default)
end Go.Proofs.Ytblbkjdfgpffpaa
