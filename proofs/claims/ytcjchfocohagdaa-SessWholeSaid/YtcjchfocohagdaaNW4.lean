import Derived.Test.YtcjchfocohagdaaNW3
set_option linter.unusedVariables false
set_option linter.unusedSimpArgs false
namespace Go.Proofs.Ytcjchfocohagdaa.Nm
open Go Go.Abs

set_option maxRecDepth 20000 in
set_option maxHeartbeats 400000 in
theorem clone_den (l : List ByteArray) (hl : l.length ≤ 1000000)  : DenO Try.prog 69 [.sl 1 (strs l)] 1 (· = strs l) := by
 have hsl := strs_len l
 refine deno_of_aw Try.func69 rfl (Nat.le_of_ble_eq_true rfl) (fun w0 A hf => ?_)
 refine aw_seq_k (fun K1 hK1 => ?_)
 refine aw_region ?_
 refine x_pure rfl (p_assign_bad) ?_
 first | refine aops_end ?_ | refine aops_nil ?_
 refine hK1 _ ?_
 refine aw_seq_k (fun K2 hK2 => ?_)
 refine aw_seq_k (fun K3 hK3 => ?_)
 refine aw_region ?_
 refine x_pure rfl (p_move rfl) ?_
 first | refine y_eqnil_sl rfl rfl rfl Try.e67 (fun b hb1 => ?_) | refine y_eqnil_own rfl rfl rfl Try.e67 (fun b hb1 => ?_)
 first | refine aops_end ?_ | refine aops_nil ?_
 refine hK3 _ ?_
 refine aw_cond_s rfl (fun hc2 => ?_) (fun hc2 => ?_)
 ·
  try simp only [bs, strs_len, ints_len, List.length_cons, List.length_nil] at hc2
  refine aw_seq_k (fun K4 hK4 => ?_)
  refine aw_region ?_
  refine x_nil hf 1 rfl rfl rfl ?_
  first | refine aops_end ?_ | refine aops_nil ?_
  refine hK4 _ ?_
  refine aw_ret ?_
  refine ⟨2, [], by unfold E0; omega, rfl, rfl, ?_⟩
  rw [hb1 (by assumption)]
 ·
  try simp only [bs, strs_len, ints_len, List.length_cons, List.length_nil] at hc2
  refine aw_skip ?_
  refine hK2 _ ?_
  refine aw_seq_k (fun K5 hK5 => ?_)
  refine aw_region ?_
  refine y_buildSlice hf rfl rfl rfl Try.ap67 rfl rfl rfl rfl (by simp [AV.cells, AV.leaf, Value.oneCell', splice, AV.kill, AV.clean, cleanL, AV.only]) ?_
  refine x_pure rfl (p_move rfl) ?_
  refine x_append hf rfl Try.ap67 rfl rfl rfl (by first | exact Or.inl rfl | exact Or.inr rfl) (by first | rfl | assumption | simp) rfl (by first | rfl | simp [asrc, look]) (by first | (simp only [maxLen, List.length_map, List.length_append, List.length_cons, List.length_nil]; omega) | (simp [maxLen] <;> omega)) (by first | (simp only [List.length_map, List.length_append, List.length_cons, List.length_nil]; omega) | (simp <;> omega)) ?_
  refine aops_le (le_of (sl' := [(7, _)]) ⟨rfl, trivial⟩) ?_
  refine x_pure rfl (p_assign rfl) ?_
  first | refine aops_end ?_ | refine aops_nil ?_
  refine hK5 _ ?_
  refine aw_ret ?_
  refine ⟨5, strs l, by unfold E0; omega, rfl, ?_, rfl⟩
  show some (AV.own 5 1 0 (0 + (strs l).length)) = _
  rw [Nat.zero_add]

set_option maxRecDepth 20000 in
set_option maxHeartbeats 400000 in
theorem compact0_den   : DenM Try.prog 72 [.own E0 1 0 0] 1 ([]) (fun r ys => r = .own E0 1 0 0 ∧ ys = []) := by
 refine denm_of_aw Try.func72 rfl (Nat.le_of_ble_eq_true rfl) (fun w0 x0 A hf => ?_)
 refine aw_seq_k (fun K1 hK1 => ?_)
 refine aw_region ?_
 refine x_pure rfl (p_assign_bad) ?_
 first | refine aops_end ?_ | refine aops_nil ?_
 refine hK1 _ ?_
 refine aw_seq_k (fun K2 hK2 => ?_)
 refine aw_seq_k (fun K3 hK3 => ?_)
 refine aw_region ?_
 refine x_pure rfl (p_move rfl) ?_
 first | refine x_pure rfl (p_len_sl rfl Try.e67) ?_ | refine x_pure rfl (p_len_own rfl Try.e67) ?_ | refine x_pure rfl (p_len_nil rfl Try.e67) ?_
 refine x_pure rfl (p_bin rfl rfl rfl) ?_
 first | refine aops_end ?_ | refine aops_nil ?_
 refine hK3 _ ?_
 refine aw_cond_t rfl ?_
 refine aw_seq_k (fun K4 hK4 => ?_)
 refine aw_region ?_
 refine x_pure rfl (p_move rfl) ?_
 refine x_pure rfl (p_assign rfl) ?_
 first | refine aops_end ?_ | refine aops_nil ?_
 refine hK4 _ ?_
 refine aw_ret ?_
 exact ⟨_, _, _, Le.refl _, rfl, rfl, rfl, rfl⟩
end Go.Proofs.Ytcjchfocohagdaa.Nm
