import Derived.Test.YtkjniggdldpnoaaNW3
set_option linter.unusedVariables false
set_option linter.unusedSimpArgs false
namespace Go.Proofs.Ytkjniggdldpnoaa.Nm
open Go Go.Abs

set_option maxRecDepth 20000 in
set_option maxHeartbeats 400000 in
theorem clone_den (l : List ByteArray) (hl : l.length ≤ 1000000)  : DenO Try.prog 84 [.sl 1 (strs l)] 1 (· = strs l) := by
  have hsl := strs_len l
  refine deno_of_aw Try.func84 rfl (Nat.le_of_ble_eq_true rfl) (fun w0 A hf => ?_)
  refine aw_seq_k (fun K1 hK1 => ?_)
  refine aw_region ?_
  refine x_pure rfl (p_assign_bad) ?_
  first | refine aops_end ?_ | refine aops_nil ?_
  refine hK1 _ ?_
  refine aw_seq_k (fun K2 hK2 => ?_)
  refine aw_seq_k (fun K3 hK3 => ?_)
  refine aw_region ?_
  refine x_pure rfl (p_move rfl) ?_
  first | refine y_eqnil_sl rfl rfl rfl Try.e89 (fun b hb1 => ?_) | refine y_eqnil_own rfl rfl rfl Try.e89 (fun b hb1 => ?_)
  first | refine aops_end ?_ | refine aops_nil ?_
  refine hK3 _ ?_
  refine aw_cond_s rfl (fun hc2 => ?_) (fun hc2 => ?_)
  ·
    try simp only [Bool.not_eq_true', Bool.not_eq_false', Bool.not_true, Bool.not_false, Bool.not_not, decide_eq_true_eq, decide_eq_false_iff_not, beq_iff_eq, beq_eq_false_iff_ne, bne_iff_ne, bne_eq_false_iff_eq, ne_eq, Int.not_lt, Int.not_le, Nat.not_lt, Nat.not_le, gt_iff_lt, ge_iff_le, Bool.and_eq_true, Bool.or_eq_true, Int.ofNat_lt, Int.ofNat_le, Int.natCast_inj, strs_len, ints_len, List.length_cons, List.length_nil] at hc2
    refine aw_seq_k (fun K4 hK4 => ?_)
    refine aw_region ?_
    refine x_nil hf 1 rfl rfl rfl ?_
    first | refine aops_end ?_ | refine aops_nil ?_
    refine hK4 _ ?_
    refine aw_ret ?_
    refine ⟨2, [], by unfold E0; omega, rfl, rfl, ?_⟩
    rw [hb1 (by assumption)]
  ·
    try simp only [Bool.not_eq_true', Bool.not_eq_false', Bool.not_true, Bool.not_false, Bool.not_not, decide_eq_true_eq, decide_eq_false_iff_not, beq_iff_eq, beq_eq_false_iff_ne, bne_iff_ne, bne_eq_false_iff_eq, ne_eq, Int.not_lt, Int.not_le, Nat.not_lt, Nat.not_le, gt_iff_lt, ge_iff_le, Bool.and_eq_true, Bool.or_eq_true, Int.ofNat_lt, Int.ofNat_le, Int.natCast_inj, strs_len, ints_len, List.length_cons, List.length_nil] at hc2
    refine aw_skip ?_
    refine hK2 _ ?_
    refine aw_seq_k (fun K5 hK5 => ?_)
    refine aw_region ?_
    refine y_buildSlice hf rfl rfl rfl Try.ap89 rfl rfl rfl rfl (by simp [AV.cells, AV.leaf, Value.oneCell', splice, AV.kill, AV.clean, cleanL, AV.only]) ?_
    refine x_pure rfl (p_move rfl) ?_
    refine x_append hf rfl Try.ap89 rfl rfl rfl (by first | exact Or.inl rfl | exact Or.inr rfl) (by first | rfl | assumption | simp) rfl (by first | rfl | simp [asrc, look]) (by first | (simp only [maxLen, List.length_map, List.length_append, List.length_cons, List.length_nil]; omega) | (simp [maxLen] <;> omega)) (by first | (simp only [List.length_map, List.length_append, List.length_cons, List.length_nil]; omega) | (simp <;> omega)) ?_
    refine aops_le (le_of (sl' := [(7, _)]) ⟨rfl, trivial⟩) ?_
    refine x_pure rfl (p_assign rfl) ?_
    first | refine aops_end ?_ | refine aops_nil ?_
    refine hK5 _ ?_
    refine aw_ret ?_
    refine ⟨5, strs l, by unfold E0; omega, rfl, ?_, rfl⟩
    show some (AV.own 5 1 0 (0 + (strs l).length)) = _
    rw [Nat.zero_add]

set_option maxRecDepth 20000 in
set_option maxHeartbeats 400000 in
theorem compact0_den   : DenM Try.prog 86 [.own E0 1 0 0] 1 ([]) (fun r ys => r = .own E0 1 0 0 ∧ ys = []) := by
  refine denm_of_aw Try.func86 rfl (Nat.le_of_ble_eq_true rfl) (fun w0 x0 A hf => ?_)
  refine aw_seq_k (fun K1 hK1 => ?_)
  refine aw_region ?_
  refine x_pure rfl (p_assign_bad) ?_
  first | refine aops_end ?_ | refine aops_nil ?_
  refine hK1 _ ?_
  refine aw_seq_k (fun K2 hK2 => ?_)
  refine aw_seq_k (fun K3 hK3 => ?_)
  refine aw_region ?_
  refine x_pure rfl (p_move rfl) ?_
  first | refine x_pure rfl (p_len_sl rfl Try.e89) ?_ | refine x_pure rfl (p_len_own rfl Try.e89) ?_ | refine x_pure rfl (p_len_nil rfl Try.e89) ?_
  refine x_pure rfl (p_bin rfl rfl rfl) ?_
  first | refine aops_end ?_ | refine aops_nil ?_
  refine hK3 _ ?_
  refine aw_cond_t rfl ?_
  refine aw_seq_k (fun K4 hK4 => ?_)
  refine aw_region ?_
  refine x_pure rfl (p_move rfl) ?_
  refine x_pure rfl (p_assign rfl) ?_
  first | refine aops_end ?_ | refine aops_nil ?_
  refine hK4 _ ?_
  refine aw_ret ?_
  exact ⟨_, _, _, Le.refl _, rfl, rfl, rfl, rfl⟩
end Go.Proofs.Ytkjniggdldpnoaa.Nm
