import Derived.Test.YtcjchfocohagdaaNW2
set_option linter.unusedVariables false
set_option linter.unusedSimpArgs false
namespace Go.Proofs.Ytcjchfocohagdaa.Nm
open Go Go.Abs

set_option maxRecDepth 20000 in
set_option maxHeartbeats 1000000 in
theorem put_den (l : List ByteArray) (s : ByteArray) (hl : l.length ≤ 1000000) (hl2 : ∀ x ∈ l, TS x) (hs : TS s)  : Den Try.prog 54 [.sl 1 (strs l), .s (.string s)]  (· = .sl 1 (strs (putL l s))) := by
 refine den_of_aw Try.func54 rfl (Nat.le_of_ble_eq_true rfl) (fun w0 A hf => ?_)
 refine aw_seq_k (fun K1 hK1 => ?_)
 refine aw_region ?_
 refine x_pure rfl (p_assign_bad) ?_
 first | refine aops_end ?_ | refine aops_nil ?_
 refine hK1 _ ?_
 refine aw_seq_k (fun K2 hK2 => ?_)
 refine aw_region ?_
 refine x_nil hf 1 rfl rfl rfl ?_
 first | refine aops_end ?_ | refine aops_nil ?_
 refine hK2 _ ?_
 refine aw_seq_k (fun K3 hK3 => ?_)
 refine aw_region ?_
 refine x_pure rfl (p_assign rfl) ?_
 first | refine aops_end ?_ | refine aops_nil ?_
 refine hK3 _ ?_
 refine aw_seq_k (fun K4 hK4 => ?_)
 refine aw_seq_k (fun K5 hK5 => ?_)
 refine aw_region ?_
 refine x_pure rfl (p_assign rfl) ?_
 first | refine aops_end ?_ | refine aops_nil ?_
 refine hK5 _ ?_
 refine aw_block ?_
 refine aw_loop (ι := Nat × Nat × List (List AV) × Bool) (fun q => ⟨47, [(0, .sl 1 (strs l)), (1, .s (.string s)), (5, .own 5 1 0 q.2.1), (6, .s (.bool q.2.2.2)), (7, .s (.int .i64 (q.1 : Nat)))], [(5, .buf 1 q.2.2.1)]⟩) (fun q => PutInv l s q.1 q.2.1 q.2.2.1 q.2.2.2) (fun q => l.length - q.1) (0, 0, [], false) ?_ ?_ ?_
 · exact PutInv.start l s
 · exact le_of ⟨rfl, rfl, rfl, rfl, rfl, trivial⟩
 ·
  rintro ⟨k, n, outv, done⟩ hC
  have h1 : k ≤ l.length := hC.hk
  have h2 : n = outv.length := hC.hn
  have h3 : n ≤ 2 * k := hC.le
  refine aw_seq_k (fun K6 hK6 => ?_)
  refine aw_seq_k (fun K7 hK7 => ?_)
  refine aw_region ?_
  refine x_pure rfl (p_move rfl) ?_
  refine x_pure rfl (p_move rfl) ?_
  first | refine x_pure rfl (p_len_sl rfl Try.e67) ?_ | refine x_pure rfl (p_len_own rfl Try.e67) ?_ | refine x_pure rfl (p_len_nil rfl Try.e67) ?_
  refine x_pure rfl (p_bin rfl rfl rfl) ?_
  first | refine aops_end ?_ | refine aops_nil ?_
  refine hK7 _ ?_
  refine aw_cond_s rfl (fun hc1 => ?_) (fun hc1 => ?_)
  ·
   try simp only [bs, strs_len, ints_len, List.length_cons, List.length_nil] at hc1
   refine aw_skip ?_
   refine hK6 _ ?_
   refine aw_seq_k (fun K8 hK8 => ?_)
   refine aw_block ?_
   refine aw_seq_k (fun K9 hK9 => ?_)
   refine aw_region ?_
   refine x_pure rfl (p_move rfl) ?_
   refine x_pure rfl (p_move rfl) ?_
   refine x_pure rfl (p_move rfl) ?_
   first | refine x_pure rfl (p_idx_sl rfl rfl Try.e67 Try.c9 (by first | assumption | (refine ⟨by omega, ?_⟩; first | assumption | exact strs_at (by omega) | exact strs_at (by simp only [List.length_cons] at *; omega) | exact ints_at (by omega) | exact map_at (by omega) | exact list_at (by omega)) | exact ⟨by decide, rfl⟩)) ?_ | refine x_pure rfl (p_idx_own rfl rfl Try.e67 Try.c9 (by omega)) ?_
   first | refine x_pure rfl (p_load1 rfl Try.g9 rfl) ?_ | refine x_pure rfl (p_load1r rfl Try.g9 rfl rfl) ?_ | refine x_pure rfl (p_load1r rfl Try.g9 rfl (strs_ref (by simp only [List.length_cons] at *; omega))) ?_ | refine x_pure rfl (p_load1r rfl Try.g9 rfl (strs_ref (by omega))) ?_
   refine x_step hf rfl (r_call rfl rfl Try.ent73 rfl (refCmp_den _ _ (by assumption) (hl2 _ (List.getElem_mem _)))) ?_
   refine x_pure rfl (p_assign rfl) ?_
   first | refine aops_end ?_ | refine aops_nil ?_
   refine hK9 _ ?_
   refine aw_seq_k (fun K10 hK10 => ?_)
   refine aw_seq_k (fun K11 hK11 => ?_)
   refine aw_region ?_
   refine x_pure rfl (p_move rfl) ?_
   refine x_pure rfl (p_bin rfl rfl rfl) ?_
   first | refine aops_end ?_ | refine aops_nil ?_
   refine hK11 _ ?_
   refine aw_cond_s rfl (fun hc2 => ?_) (fun hc2 => ?_)
   ·
    try simp only [bs, strs_len, ints_len, List.length_cons, List.length_nil] at hc2
    refine aw_region ?_
    refine x_pure rfl (p_assign rfl) ?_
    first | refine aops_end ?_ | refine aops_nil ?_
    refine hK10 _ ?_
    refine aw_seq_k (fun K12 hK12 => ?_)
    refine aw_seq_k (fun K13 hK13 => ?_)
    refine aw_region ?_
    refine x_pure rfl (p_move rfl) ?_
    refine x_pure rfl (p_bin rfl rfl rfl) ?_
    refine x_pure rfl (p_move rfl) ?_
    refine y_guard_s rfl rfl rfl (fun hg3 => ?_) (fun hg3 => ?_)
    ·
     try simp only [bs, strs_len, ints_len, List.length_cons, List.length_nil] at hg3
     refine x_pure rfl (p_move rfl) ?_
     refine x_guard_t rfl rfl rfl ?_
     refine x_pure rfl (p_not rfl) ?_
     refine x_pure rfl (p_pick_t rfl rfl) ?_
     first | refine aops_end ?_ | refine aops_nil ?_
     refine hK13 _ ?_
     refine aw_cond_f rfl ?_
     refine aw_skip ?_
     refine hK12 _ ?_
     refine aw_region ?_
     refine x_pure rfl (p_move rfl) ?_
     refine x_pure rfl (p_move rfl) ?_
     refine x_pure rfl (p_move rfl) ?_
     first | refine x_pure rfl (p_idx_sl rfl rfl Try.e67 Try.c9 (by first | assumption | (refine ⟨by omega, ?_⟩; first | assumption | exact strs_at (by omega) | exact strs_at (by simp only [List.length_cons] at *; omega) | exact ints_at (by omega) | exact map_at (by omega) | exact list_at (by omega)) | exact ⟨by decide, rfl⟩)) ?_ | refine x_pure rfl (p_idx_own rfl rfl Try.e67 Try.c9 (by omega)) ?_
     first | refine x_pure rfl (p_load1 rfl Try.g9 rfl) ?_ | refine x_pure rfl (p_load1r rfl Try.g9 rfl rfl) ?_ | refine x_pure rfl (p_load1r rfl Try.g9 rfl (strs_ref (by simp only [List.length_cons] at *; omega))) ?_ | refine x_pure rfl (p_load1r rfl Try.g9 rfl (strs_ref (by omega))) ?_
     refine x_step hf rfl (r_buildSlice Try.ap67 rfl rfl rfl rfl (by simp [AV.cells, AV.leaf, Value.oneCell', splice, AV.kill, AV.clean, cleanL, AV.only])) ?_
     refine x_append hf rfl Try.ap67 rfl rfl rfl (by first | exact Or.inl rfl | exact Or.inr rfl) (by first | assumption | (simp only [List.length_append, List.length_cons, List.length_nil]; omega)) rfl (by first | rfl | simp [asrc, look]) (by first | (simp only [maxLen, List.length_map, List.length_append, List.length_cons, List.length_nil]; omega) | (simp [maxLen] <;> omega)) (by first | (simp only [List.length_map, List.length_append, List.length_cons, List.length_nil]; omega) | (simp <;> omega)) ?_
     refine aops_le (le_of (sl' := [(0, _), (1, _), (6, _), (7, _), (39, _)]) ⟨rfl, rfl, rfl, rfl, rfl, trivial⟩) ?_
     refine x_pure rfl (p_assign rfl) ?_
     first | refine aops_end ?_ | refine aops_nil ?_
     refine hK8 _ ?_
     refine aw_region ?_
     refine x_pure rfl (p_move rfl) ?_
     first | refine x_pure rfl (p_add rfl rfl (by omega) (by omega)) ?_ | refine x_pure rfl (p_bin rfl rfl rfl) ?_
     refine x_pure rfl (p_assign rfl) ?_
     first | refine aops_end ?_ | refine aops_nil ?_
     exact ⟨(k+1, _, _, _), (by first | exact hC.ins (by omega) (by omega) (by assumption) | exact hC.eq (by omega) (by omega) | exact hC.pass (by omega) (by omega) (by first | exact Or.inl (by omega) | exact Or.inr (by assumption))), by simp only; omega, le_of ⟨rfl, rfl, rfl, rfl, rfl, trivial⟩⟩
    ·
     try simp only [bs, strs_len, ints_len, List.length_cons, List.length_nil] at hg3
     refine x_guard_f rfl rfl rfl ?_
     refine x_pure rfl (p_pick_f rfl rfl) ?_
     first | refine aops_end ?_ | refine aops_nil ?_
     refine hK13 _ ?_
     refine aw_cond_f rfl ?_
     refine aw_skip ?_
     refine hK12 _ ?_
     refine aw_region ?_
     refine x_pure rfl (p_move rfl) ?_
     refine x_pure rfl (p_move rfl) ?_
     refine x_pure rfl (p_move rfl) ?_
     first | refine x_pure rfl (p_idx_sl rfl rfl Try.e67 Try.c9 (by first | assumption | (refine ⟨by omega, ?_⟩; first | assumption | exact strs_at (by omega) | exact strs_at (by simp only [List.length_cons] at *; omega) | exact ints_at (by omega) | exact map_at (by omega) | exact list_at (by omega)) | exact ⟨by decide, rfl⟩)) ?_ | refine x_pure rfl (p_idx_own rfl rfl Try.e67 Try.c9 (by omega)) ?_
     first | refine x_pure rfl (p_load1 rfl Try.g9 rfl) ?_ | refine x_pure rfl (p_load1r rfl Try.g9 rfl rfl) ?_ | refine x_pure rfl (p_load1r rfl Try.g9 rfl (strs_ref (by simp only [List.length_cons] at *; omega))) ?_ | refine x_pure rfl (p_load1r rfl Try.g9 rfl (strs_ref (by omega))) ?_
     refine x_step hf rfl (r_buildSlice Try.ap67 rfl rfl rfl rfl (by simp [AV.cells, AV.leaf, Value.oneCell', splice, AV.kill, AV.clean, cleanL, AV.only])) ?_
     refine x_append hf rfl Try.ap67 rfl rfl rfl (by first | exact Or.inl rfl | exact Or.inr rfl) (by first | assumption | (simp only [List.length_append, List.length_cons, List.length_nil]; omega)) rfl (by first | rfl | simp [asrc, look]) (by first | (simp only [maxLen, List.length_map, List.length_append, List.length_cons, List.length_nil]; omega) | (simp [maxLen] <;> omega)) (by first | (simp only [List.length_map, List.length_append, List.length_cons, List.length_nil]; omega) | (simp <;> omega)) ?_
     refine aops_le (le_of (sl' := [(0, _), (1, _), (6, _), (7, _), (39, _)]) ⟨rfl, rfl, rfl, rfl, rfl, trivial⟩) ?_
     refine x_pure rfl (p_assign rfl) ?_
     first | refine aops_end ?_ | refine aops_nil ?_
     refine hK8 _ ?_
     refine aw_region ?_
     refine x_pure rfl (p_move rfl) ?_
     first | refine x_pure rfl (p_add rfl rfl (by omega) (by omega)) ?_ | refine x_pure rfl (p_bin rfl rfl rfl) ?_
     refine x_pure rfl (p_assign rfl) ?_
     first | refine aops_end ?_ | refine aops_nil ?_
     exact ⟨(k+1, _, _, _), (by first | exact hC.ins (by omega) (by omega) (by assumption) | exact hC.eq (by omega) (by omega) | exact hC.pass (by omega) (by omega) (by first | exact Or.inl (by omega) | exact Or.inr (by assumption))), by simp only; omega, le_of ⟨rfl, rfl, rfl, rfl, rfl, trivial⟩⟩
   ·
    try simp only [bs, strs_len, ints_len, List.length_cons, List.length_nil] at hc2
    refine aw_skip ?_
    refine hK10 _ ?_
    refine aw_seq_k (fun K14 hK14 => ?_)
    refine aw_seq_k (fun K15 hK15 => ?_)
    refine aw_region ?_
    refine x_pure rfl (p_move rfl) ?_
    refine x_pure rfl (p_bin rfl rfl rfl) ?_
    refine x_pure rfl (p_move rfl) ?_
    refine y_guard_s rfl rfl rfl (fun hg6 => ?_) (fun hg6 => ?_)
    ·
     try simp only [bs, strs_len, ints_len, List.length_cons, List.length_nil] at hg6
     refine x_pure rfl (p_move rfl) ?_
     refine x_guard_t rfl rfl rfl ?_
     refine x_pure rfl (p_not rfl) ?_
     refine x_pure rfl (p_pick_t rfl rfl) ?_
     first | refine aops_end ?_ | refine aops_nil ?_
     refine hK15 _ ?_
     refine aw_cond_s rfl (fun hc7 => ?_) (fun hc7 => ?_)
     ·
      try simp only [bs, strs_len, ints_len, List.length_cons, List.length_nil] at hc7
      refine aw_seq_k (fun K16 hK16 => ?_)
      refine aw_region ?_
      refine x_pure rfl (p_move rfl) ?_
      refine x_pure rfl (p_move rfl) ?_
      refine x_step hf rfl (r_buildSlice Try.ap67 rfl rfl rfl rfl (by simp [AV.cells, AV.leaf, Value.oneCell', splice, AV.kill, AV.clean, cleanL, AV.only])) ?_
      refine x_append hf rfl Try.ap67 rfl rfl rfl (by first | exact Or.inl rfl | exact Or.inr rfl) (by first | assumption | (simp only [List.length_append, List.length_cons, List.length_nil]; omega)) rfl (by first | rfl | simp [asrc, look]) (by first | (simp only [maxLen, List.length_map, List.length_append, List.length_cons, List.length_nil]; omega) | (simp [maxLen] <;> omega)) (by first | (simp only [List.length_map, List.length_append, List.length_cons, List.length_nil]; omega) | (simp <;> omega)) ?_
      refine aops_le (le_of (sl' := [(0, _), (1, _), (7, _), (32, _)]) ⟨rfl, rfl, rfl, rfl, trivial⟩) ?_
      refine x_pure rfl (p_assign rfl) ?_
      first | refine aops_end ?_ | refine aops_nil ?_
      refine hK16 _ ?_
      refine aw_region ?_
      refine x_pure rfl (p_assign rfl) ?_
      first | refine aops_end ?_ | refine aops_nil ?_
      refine hK14 _ ?_
      refine aw_region ?_
      refine x_pure rfl (p_move rfl) ?_
      refine x_pure rfl (p_move rfl) ?_
      refine x_pure rfl (p_move rfl) ?_
      first | refine x_pure rfl (p_idx_sl rfl rfl Try.e67 Try.c9 (by first | assumption | (refine ⟨by omega, ?_⟩; first | assumption | exact strs_at (by omega) | exact strs_at (by simp only [List.length_cons] at *; omega) | exact ints_at (by omega) | exact map_at (by omega) | exact list_at (by omega)) | exact ⟨by decide, rfl⟩)) ?_ | refine x_pure rfl (p_idx_own rfl rfl Try.e67 Try.c9 (by omega)) ?_
      first | refine x_pure rfl (p_load1 rfl Try.g9 rfl) ?_ | refine x_pure rfl (p_load1r rfl Try.g9 rfl rfl) ?_ | refine x_pure rfl (p_load1r rfl Try.g9 rfl (strs_ref (by simp only [List.length_cons] at *; omega))) ?_ | refine x_pure rfl (p_load1r rfl Try.g9 rfl (strs_ref (by omega))) ?_
      refine x_step hf rfl (r_buildSlice Try.ap67 rfl rfl rfl rfl (by simp [AV.cells, AV.leaf, Value.oneCell', splice, AV.kill, AV.clean, cleanL, AV.only])) ?_
      refine x_append hf rfl Try.ap67 rfl rfl rfl (by first | exact Or.inl rfl | exact Or.inr rfl) (by first | assumption | (simp only [List.length_append, List.length_cons, List.length_nil]; omega)) rfl (by first | rfl | simp [asrc, look]) (by first | (simp only [maxLen, List.length_map, List.length_append, List.length_cons, List.length_nil]; omega) | (simp [maxLen] <;> omega)) (by first | (simp only [List.length_map, List.length_append, List.length_cons, List.length_nil]; omega) | (simp <;> omega)) ?_
      refine aops_le (le_of (sl' := [(0, _), (1, _), (6, _), (7, _), (39, _)]) ⟨rfl, rfl, rfl, rfl, rfl, trivial⟩) ?_
      refine x_pure rfl (p_assign rfl) ?_
      first | refine aops_end ?_ | refine aops_nil ?_
      refine hK8 _ ?_
      refine aw_region ?_
      refine x_pure rfl (p_move rfl) ?_
      first | refine x_pure rfl (p_add rfl rfl (by omega) (by omega)) ?_ | refine x_pure rfl (p_bin rfl rfl rfl) ?_
      refine x_pure rfl (p_assign rfl) ?_
      first | refine aops_end ?_ | refine aops_nil ?_
      exact ⟨(k+1, _, _, _), (by first | exact hC.ins (by omega) (by omega) (by assumption) | exact hC.eq (by omega) (by omega) | exact hC.pass (by omega) (by omega) (by first | exact Or.inl (by omega) | exact Or.inr (by assumption))), by simp only; omega, le_of ⟨rfl, rfl, rfl, rfl, rfl, trivial⟩⟩
     ·
      try simp only [bs, strs_len, ints_len, List.length_cons, List.length_nil] at hc7
      refine aw_skip ?_
      refine hK14 _ ?_
      refine aw_region ?_
      refine x_pure rfl (p_move rfl) ?_
      refine x_pure rfl (p_move rfl) ?_
      refine x_pure rfl (p_move rfl) ?_
      first | refine x_pure rfl (p_idx_sl rfl rfl Try.e67 Try.c9 (by first | assumption | (refine ⟨by omega, ?_⟩; first | assumption | exact strs_at (by omega) | exact strs_at (by simp only [List.length_cons] at *; omega) | exact ints_at (by omega) | exact map_at (by omega) | exact list_at (by omega)) | exact ⟨by decide, rfl⟩)) ?_ | refine x_pure rfl (p_idx_own rfl rfl Try.e67 Try.c9 (by omega)) ?_
      first | refine x_pure rfl (p_load1 rfl Try.g9 rfl) ?_ | refine x_pure rfl (p_load1r rfl Try.g9 rfl rfl) ?_ | refine x_pure rfl (p_load1r rfl Try.g9 rfl (strs_ref (by simp only [List.length_cons] at *; omega))) ?_ | refine x_pure rfl (p_load1r rfl Try.g9 rfl (strs_ref (by omega))) ?_
      refine x_step hf rfl (r_buildSlice Try.ap67 rfl rfl rfl rfl (by simp [AV.cells, AV.leaf, Value.oneCell', splice, AV.kill, AV.clean, cleanL, AV.only])) ?_
      refine x_append hf rfl Try.ap67 rfl rfl rfl (by first | exact Or.inl rfl | exact Or.inr rfl) (by first | assumption | (simp only [List.length_append, List.length_cons, List.length_nil]; omega)) rfl (by first | rfl | simp [asrc, look]) (by first | (simp only [maxLen, List.length_map, List.length_append, List.length_cons, List.length_nil]; omega) | (simp [maxLen] <;> omega)) (by first | (simp only [List.length_map, List.length_append, List.length_cons, List.length_nil]; omega) | (simp <;> omega)) ?_
      refine aops_le (le_of (sl' := [(0, _), (1, _), (6, _), (7, _), (39, _)]) ⟨rfl, rfl, rfl, rfl, rfl, trivial⟩) ?_
      refine x_pure rfl (p_assign rfl) ?_
      first | refine aops_end ?_ | refine aops_nil ?_
      refine hK8 _ ?_
      refine aw_region ?_
      refine x_pure rfl (p_move rfl) ?_
      first | refine x_pure rfl (p_add rfl rfl (by omega) (by omega)) ?_ | refine x_pure rfl (p_bin rfl rfl rfl) ?_
      refine x_pure rfl (p_assign rfl) ?_
      first | refine aops_end ?_ | refine aops_nil ?_
      exact ⟨(k+1, _, _, _), (by first | exact hC.ins (by omega) (by omega) (by assumption) | exact hC.eq (by omega) (by omega) | exact hC.pass (by omega) (by omega) (by first | exact Or.inl (by omega) | exact Or.inr (by assumption))), by simp only; omega, le_of ⟨rfl, rfl, rfl, rfl, rfl, trivial⟩⟩
    ·
     try simp only [bs, strs_len, ints_len, List.length_cons, List.length_nil] at hg6
     refine x_guard_f rfl rfl rfl ?_
     refine x_pure rfl (p_pick_f rfl rfl) ?_
     first | refine aops_end ?_ | refine aops_nil ?_
     refine hK15 _ ?_
     refine aw_cond_f rfl ?_
     refine aw_skip ?_
     refine hK14 _ ?_
     refine aw_region ?_
     refine x_pure rfl (p_move rfl) ?_
     refine x_pure rfl (p_move rfl) ?_
     refine x_pure rfl (p_move rfl) ?_
     first | refine x_pure rfl (p_idx_sl rfl rfl Try.e67 Try.c9 (by first | assumption | (refine ⟨by omega, ?_⟩; first | assumption | exact strs_at (by omega) | exact strs_at (by simp only [List.length_cons] at *; omega) | exact ints_at (by omega) | exact map_at (by omega) | exact list_at (by omega)) | exact ⟨by decide, rfl⟩)) ?_ | refine x_pure rfl (p_idx_own rfl rfl Try.e67 Try.c9 (by omega)) ?_
     first | refine x_pure rfl (p_load1 rfl Try.g9 rfl) ?_ | refine x_pure rfl (p_load1r rfl Try.g9 rfl rfl) ?_ | refine x_pure rfl (p_load1r rfl Try.g9 rfl (strs_ref (by simp only [List.length_cons] at *; omega))) ?_ | refine x_pure rfl (p_load1r rfl Try.g9 rfl (strs_ref (by omega))) ?_
     refine x_step hf rfl (r_buildSlice Try.ap67 rfl rfl rfl rfl (by simp [AV.cells, AV.leaf, Value.oneCell', splice, AV.kill, AV.clean, cleanL, AV.only])) ?_
     refine x_append hf rfl Try.ap67 rfl rfl rfl (by first | exact Or.inl rfl | exact Or.inr rfl) (by first | assumption | (simp only [List.length_append, List.length_cons, List.length_nil]; omega)) rfl (by first | rfl | simp [asrc, look]) (by first | (simp only [maxLen, List.length_map, List.length_append, List.length_cons, List.length_nil]; omega) | (simp [maxLen] <;> omega)) (by first | (simp only [List.length_map, List.length_append, List.length_cons, List.length_nil]; omega) | (simp <;> omega)) ?_
     refine aops_le (le_of (sl' := [(0, _), (1, _), (6, _), (7, _), (39, _)]) ⟨rfl, rfl, rfl, rfl, rfl, trivial⟩) ?_
     refine x_pure rfl (p_assign rfl) ?_
     first | refine aops_end ?_ | refine aops_nil ?_
     refine hK8 _ ?_
     refine aw_region ?_
     refine x_pure rfl (p_move rfl) ?_
     first | refine x_pure rfl (p_add rfl rfl (by omega) (by omega)) ?_ | refine x_pure rfl (p_bin rfl rfl rfl) ?_
     refine x_pure rfl (p_assign rfl) ?_
     first | refine aops_end ?_ | refine aops_nil ?_
     exact ⟨(k+1, _, _, _), (by first | exact hC.ins (by omega) (by omega) (by assumption) | exact hC.eq (by omega) (by omega) | exact hC.pass (by omega) (by omega) (by first | exact Or.inl (by omega) | exact Or.inr (by assumption))), by simp only; omega, le_of ⟨rfl, rfl, rfl, rfl, rfl, trivial⟩⟩
  ·
   try simp only [bs, strs_len, ints_len, List.length_cons, List.length_nil] at hc1
   refine aw_exit ?_
   refine hK4 _ ?_
   refine aw_seq_k (fun K17 hK17 => ?_)
   refine aw_seq_k (fun K18 hK18 => ?_)
   refine aw_region ?_
   refine x_pure rfl (p_move rfl) ?_
   refine x_pure rfl (p_not rfl) ?_
   first | refine aops_end ?_ | refine aops_nil ?_
   refine hK18 _ ?_
   refine aw_cond_s rfl (fun hc9 => ?_) (fun hc9 => ?_)
   ·
    try simp only [bs, strs_len, ints_len, List.length_cons, List.length_nil] at hc9
    refine aw_region ?_
    refine x_pure rfl (p_move rfl) ?_
    refine x_pure rfl (p_move rfl) ?_
    refine x_step hf rfl (r_buildSlice Try.ap67 rfl rfl rfl rfl (by simp [AV.cells, AV.leaf, Value.oneCell', splice, AV.kill, AV.clean, cleanL, AV.only])) ?_
    refine x_append hf rfl Try.ap67 rfl rfl rfl (by first | exact Or.inl rfl | exact Or.inr rfl) (by first | assumption | (simp only [List.length_append, List.length_cons, List.length_nil]; omega)) rfl (by first | rfl | simp [asrc, look]) (by first | (simp only [maxLen, List.length_map, List.length_append, List.length_cons, List.length_nil]; omega) | (simp [maxLen] <;> omega)) (by first | (simp only [List.length_map, List.length_append, List.length_cons, List.length_nil]; omega) | (simp <;> omega)) ?_
    refine aops_le (le_of (sl' := [(45, _)]) ⟨rfl, trivial⟩) ?_
    refine x_pure rfl (p_assign rfl) ?_
    first | refine aops_end ?_ | refine aops_nil ?_
    refine hK17 _ ?_
    refine aw_seq_k (fun K19 hK19 => ?_)
    refine aw_region ?_
    refine x_pure rfl (p_move rfl) ?_
    refine x_pure rfl (p_assign rfl) ?_
    first | refine aops_end ?_ | refine aops_nil ?_
    refine hK19 _ ?_
    refine aw_ret ?_
    refine ⟨_, rfl, ?_⟩
    first | (refine (conv_whole (g := 5) rfl (by first | assumption | (simp only [List.length_append, List.length_cons, List.length_nil]; omega))).trans ?_; first | rw [← hC.fin_t (by omega) (by assumption)] | (rw [← hC.fin_f (by omega) (by assumption)]; rfl))
   ·
    try simp only [bs, strs_len, ints_len, List.length_cons, List.length_nil] at hc9
    refine aw_skip ?_
    refine hK17 _ ?_
    refine aw_seq_k (fun K20 hK20 => ?_)
    refine aw_region ?_
    refine x_pure rfl (p_move rfl) ?_
    refine x_pure rfl (p_assign rfl) ?_
    first | refine aops_end ?_ | refine aops_nil ?_
    refine hK20 _ ?_
    refine aw_ret ?_
    refine ⟨_, rfl, ?_⟩
    first | (refine (conv_whole (g := 5) rfl (by first | assumption | (simp only [List.length_append, List.length_cons, List.length_nil]; omega))).trans ?_; first | rw [← hC.fin_t (by omega) (by assumption)] | (rw [← hC.fin_f (by omega) (by assumption)]; rfl))
end Go.Proofs.Ytcjchfocohagdaa.Nm
