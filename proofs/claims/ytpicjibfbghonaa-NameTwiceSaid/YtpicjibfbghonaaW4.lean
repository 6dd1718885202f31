import Derived.Test.YtpicjibfbghonaaW3
set_option linter.unusedVariables false
set_option linter.unusedSimpArgs false
namespace Go.Proofs.Ytpicjibfbghonaa
open Go Go.Abs

set_option maxHeartbeats 400000 in
theorem refSorted_den (l : List ByteArray) (hl : l.length ≤ 900000) (hl2 : ∀ x ∈ l, TS x)  : Den Try.prog 16 [.sl 1 (strs l)]  (· = .sl 1 (strs (sortedL l))) := by
  refine den_of_aw Try.func16 rfl (Nat.le_of_ble_eq_true rfl) (fun w0 A hf => ?_)
  refine aw_seq_k (fun K1 hK1 => ?_)
  refine aw_region ?_
  refine x_pure rfl (p_assign_bad) ?_
  first | refine aops_end ?_ | refine aops_nil ?_
  refine hK1 _ ?_
  refine aw_seq_k (fun K2 hK2 => ?_)
  refine aw_region ?_
  refine x_pure rfl (p_nil (k := 1)) ?_
  first | refine aops_end ?_ | refine aops_nil ?_
  refine hK2 _ ?_
  refine aw_seq_k (fun K3 hK3 => ?_)
  refine aw_seq_k (fun K4 hK4 => ?_)
  refine aw_region ?_
  refine x_pure rfl (p_assign rfl) ?_
  first | refine aops_end ?_ | refine aops_nil ?_
  refine hK4 _ ?_
  refine aw_block ?_
  refine aw_loop (ι := Nat × List ByteArray) (fun q => ⟨18, [(0, .sl 1 (strs l)), (3, .sl 1 (strs q.2)), (4, .s (.int .i64 (q.1 : Nat)))], []⟩) (fun q => q.1 ≤ l.length ∧ q.2 = sortedL (l.take q.1) ∧ q.2.length ≤ q.1 ∧ ∀ x ∈ q.2, TS x) (fun q => l.length - q.1) (0, []) ?_ ?_ ?_
  · exact ⟨by simp, rfl, by simp, by simp⟩
  · exact le_of ⟨rfl, rfl, rfl, trivial⟩
  ·
    rintro ⟨k, acc⟩ hC
    obtain ⟨h1, h2, h3, h4⟩ := hC
    simp only at h1 h2 h3 h4
    refine aw_seq_k (fun K5 hK5 => ?_)
    refine aw_seq_k (fun K6 hK6 => ?_)
    refine aw_region ?_
    refine x_pure rfl (p_move rfl) ?_
    refine x_pure rfl (p_move rfl) ?_
    first | refine x_pure rfl (p_len_sl rfl Try.e22) ?_ | refine x_pure rfl (p_len_own rfl Try.e22) ?_
    refine x_pure rfl (p_bin rfl rfl rfl) ?_
    first | refine aops_end ?_ | refine aops_nil ?_
    refine hK6 _ ?_
    refine aw_cond_s rfl (fun hc1 => ?_) (fun hc1 => ?_)
    ·
      try simp only [Bool.not_eq_true', Bool.not_eq_false', Bool.not_true, Bool.not_false, Bool.not_not, decide_eq_true_eq, decide_eq_false_iff_not, beq_iff_eq, beq_eq_false_iff_ne, bne_iff_ne, bne_eq_false_iff_eq, ne_eq, Int.not_lt, Int.not_le, Nat.not_lt, Nat.not_le, gt_iff_lt, ge_iff_le, Bool.and_eq_true, Bool.or_eq_true, Int.ofNat_lt, Int.ofNat_le, Int.natCast_inj, strs_len, ints_len, List.length_cons, List.length_nil] at hc1
      refine aw_skip ?_
      refine hK5 _ ?_
      refine aw_seq_k (fun K7 hK7 => ?_)
      refine aw_block ?_
      refine aw_region ?_
      refine x_pure rfl (p_move rfl) ?_
      refine x_pure rfl (p_move rfl) ?_
      refine x_pure rfl (p_move rfl) ?_
      first | refine x_pure rfl (p_idx_sl rfl rfl Try.e22 Try.c9 (by first | assumption | (refine ⟨by omega, ?_⟩; first | assumption | exact strs_at (by omega) | exact strs_at (by simp only [List.length_cons] at *; omega) | exact ints_at (by omega) | exact list_at (by omega)))) ?_ | refine x_pure rfl (p_idx_own rfl rfl Try.e22 Try.c9 (by omega)) ?_
      first | refine x_pure rfl (p_load1 rfl Try.g9 rfl) ?_ | refine x_pure rfl (p_load1r rfl Try.g9 rfl rfl) ?_ | refine x_pure rfl (p_load1r rfl Try.g9 rfl (strs_ref (by simp only [List.length_cons] at *; omega))) ?_ | refine x_pure rfl (p_load1r rfl Try.g9 rfl (strs_ref (by omega))) ?_
      refine x_step hf rfl (r_call rfl rfl Try.ent29 rfl (put_den _ _ (by simp only; omega) (by assumption) (hl2 _ (List.getElem_mem _)))) ?_
      refine x_pure rfl (p_assign rfl) ?_
      first | refine aops_end ?_ | refine aops_nil ?_
      refine hK7 _ ?_
      refine aw_region ?_
      refine x_pure rfl (p_move rfl) ?_
      first | refine x_pure rfl (p_add rfl rfl (by omega) (by omega)) ?_ | refine x_pure rfl (p_bin rfl rfl rfl) ?_
      refine x_pure rfl (p_assign rfl) ?_
      first | refine aops_end ?_ | refine aops_nil ?_
      exact ⟨(k+1, _), (by
        have hk : k < l.length := by omega
        refine ⟨hk, by simp only; rw [h2, take_sorted l k hk]; rfl, by have := putL_len acc l[k]; show (putL acc l[k]).length ≤ k + 1; omega, fun x hx => ?_⟩
        rcases putRest_mem _ _ _ _ hx with e | e
        · rw [e]; exact hl2 _ (List.getElem_mem _)
        · exact h4 x e), by simp only; omega, le_of ⟨rfl, rfl, rfl, trivial⟩⟩
    ·
      try simp only [Bool.not_eq_true', Bool.not_eq_false', Bool.not_true, Bool.not_false, Bool.not_not, decide_eq_true_eq, decide_eq_false_iff_not, beq_iff_eq, beq_eq_false_iff_ne, bne_iff_ne, bne_eq_false_iff_eq, ne_eq, Int.not_lt, Int.not_le, Nat.not_lt, Nat.not_le, gt_iff_lt, ge_iff_le, Bool.and_eq_true, Bool.or_eq_true, Int.ofNat_lt, Int.ofNat_le, Int.natCast_inj, strs_len, ints_len, List.length_cons, List.length_nil] at hc1
      refine aw_exit ?_
      refine hK3 _ ?_
      refine aw_seq_k (fun K8 hK8 => ?_)
      refine aw_region ?_
      refine x_pure rfl (p_move rfl) ?_
      refine x_pure rfl (p_assign rfl) ?_
      first | refine aops_end ?_ | refine aops_nil ?_
      refine hK8 _ ?_
      refine aw_ret ?_
      refine ⟨_, rfl, ?_⟩
      show AV.sl 1 (strs acc) = _
      rw [h2, List.take_of_length_le (by omega)]

set_option maxHeartbeats 400000 in
theorem clone_den (l : List ByteArray) (hl : l.length ≤ 1000000)  : DenO Try.prog 26 [.sl 1 (strs l)] 1 (· = strs l) := by
  have hsl := strs_len l
  refine deno_of_aw Try.func26 rfl (Nat.le_of_ble_eq_true rfl) (fun w0 A hf => ?_)
  refine aw_seq_k (fun K1 hK1 => ?_)
  refine aw_region ?_
  refine x_pure rfl (p_assign_bad) ?_
  first | refine aops_end ?_ | refine aops_nil ?_
  refine hK1 _ ?_
  refine aw_seq_k (fun K2 hK2 => ?_)
  refine aw_seq_k (fun K3 hK3 => ?_)
  refine aw_region ?_
  refine x_pure rfl (p_move rfl) ?_
  first | refine y_eqnil_sl rfl rfl rfl Try.e22 (fun b hb1 => ?_) | refine y_eqnil_own rfl rfl rfl Try.e22 (fun b hb1 => ?_)
  first | refine aops_end ?_ | refine aops_nil ?_
  refine hK3 _ ?_
  refine aw_cond_s rfl (fun hc2 => ?_) (fun hc2 => ?_)
  ·
    try simp only [Bool.not_eq_true', Bool.not_eq_false', Bool.not_true, Bool.not_false, Bool.not_not, decide_eq_true_eq, decide_eq_false_iff_not, beq_iff_eq, beq_eq_false_iff_ne, bne_iff_ne, bne_eq_false_iff_eq, ne_eq, Int.not_lt, Int.not_le, Nat.not_lt, Nat.not_le, gt_iff_lt, ge_iff_le, Bool.and_eq_true, Bool.or_eq_true, Int.ofNat_lt, Int.ofNat_le, Int.natCast_inj, strs_len, ints_len, List.length_cons, List.length_nil] at hc2
    refine aw_seq_k (fun K4 hK4 => ?_)
    refine aw_region ?_
    refine x_nil hf 1 rfl rfl rfl ?_
    first | refine aops_end ?_ | refine aops_nil ?_
    refine hK4 _ ?_
    refine aw_ret ?_
    refine ⟨2, [], by unfold E0; omega, rfl, rfl, ?_⟩
    rw [hb1 (by assumption)]
  ·
    try simp only [Bool.not_eq_true', Bool.not_eq_false', Bool.not_true, Bool.not_false, Bool.not_not, decide_eq_true_eq, decide_eq_false_iff_not, beq_iff_eq, beq_eq_false_iff_ne, bne_iff_ne, bne_eq_false_iff_eq, ne_eq, Int.not_lt, Int.not_le, Nat.not_lt, Nat.not_le, gt_iff_lt, ge_iff_le, Bool.and_eq_true, Bool.or_eq_true, Int.ofNat_lt, Int.ofNat_le, Int.natCast_inj, strs_len, ints_len, List.length_cons, List.length_nil] at hc2
    refine aw_skip ?_
    refine hK2 _ ?_
    refine aw_seq_k (fun K5 hK5 => ?_)
    refine aw_region ?_
    refine y_buildSlice hf rfl rfl rfl Try.ap22 rfl rfl rfl rfl (by simp [AV.cells, AV.leaf, Value.oneCell', splice, AV.kill, AV.clean, AV.only]) ?_
    refine x_pure rfl (p_move rfl) ?_
    refine x_append hf rfl Try.ap22 rfl rfl rfl (by first | exact Or.inl rfl | exact Or.inr rfl) (by first | rfl | assumption | simp) rfl (by first | rfl | simp [asrc, look]) (by simp [maxLen] <;> omega) (by simp <;> omega) ?_
    refine aops_le (le_of (sl' := [(7, _)]) ⟨rfl, trivial⟩) ?_
    refine x_pure rfl (p_assign rfl) ?_
    first | refine aops_end ?_ | refine aops_nil ?_
    refine hK5 _ ?_
    refine aw_ret ?_
    refine ⟨5, strs l, by unfold E0; omega, rfl, ?_, rfl⟩
    show some (AV.own 5 1 0 (0 + (strs l).length)) = _
    rw [Nat.zero_add]

set_option maxHeartbeats 400000 in
theorem compact0_den   : DenM Try.prog 28 [.own E0 1 0 0] 1 ([]) (fun r ys => r = .own E0 1 0 0 ∧ ys = []) := by
  refine denm_of_aw Try.func28 rfl (Nat.le_of_ble_eq_true rfl) (fun w0 x0 A hf => ?_)
  refine aw_seq_k (fun K1 hK1 => ?_)
  refine aw_region ?_
  refine x_pure rfl (p_assign_bad) ?_
  first | refine aops_end ?_ | refine aops_nil ?_
  refine hK1 _ ?_
  refine aw_seq_k (fun K2 hK2 => ?_)
  refine aw_seq_k (fun K3 hK3 => ?_)
  refine aw_region ?_
  refine x_pure rfl (p_move rfl) ?_
  first | refine x_pure rfl (p_len_sl rfl Try.e22) ?_ | refine x_pure rfl (p_len_own rfl Try.e22) ?_
  refine x_pure rfl (p_bin rfl rfl rfl) ?_
  first | refine aops_end ?_ | refine aops_nil ?_
  refine hK3 _ ?_
  refine aw_cond_t rfl ?_
  refine aw_seq_k (fun K4 hK4 => ?_)
  refine aw_region ?_
  refine x_pure rfl (p_move rfl) ?_
  refine x_pure rfl (p_assign rfl) ?_
  first | refine aops_end ?_ | refine aops_nil ?_
  refine hK4 _ ?_
  refine aw_ret ?_
  exact ⟨_, _, _, Le.refl _, rfl, rfl, rfl, rfl⟩
end Go.Proofs.Ytpicjibfbghonaa
