import Derived.Test.YtcjchfocohagdaaNW1
set_option linter.unusedVariables false
set_option linter.unusedSimpArgs false
namespace Go.Proofs.Ytcjchfocohagdaa.Nm
open Go Go.Abs

set_option maxRecDepth 20000 in
set_option maxHeartbeats 400000 in
theorem isNaN_den (s : ByteArray)  : Den Try.prog 101 [.s (.string s)]  (· = .s (.bool false)) := by
 refine den_of_aw Try.func101 rfl (Nat.le_of_ble_eq_true rfl) (fun w0 A hf => ?_)
 refine aw_seq_k (fun K1 hK1 => ?_)
 refine aw_region ?_
 refine x_pure rfl (p_assign_bad) ?_
 first | refine aops_end ?_ | refine aops_nil ?_
 refine hK1 _ ?_
 refine aw_seq_k (fun K2 hK2 => ?_)
 refine aw_region ?_
 refine x_pure rfl (p_move rfl) ?_
 refine x_pure rfl (p_move rfl) ?_
 refine x_pure rfl (p_bin rfl rfl rfl) ?_
 refine x_pure rfl (p_assign rfl) ?_
 first | refine aops_end ?_ | refine aops_nil ?_
 refine hK2 _ ?_
 refine aw_ret ?_
 refine ⟨_, rfl, ?_⟩
 refine ret_bool ?_
 simp

set_option maxRecDepth 20000 in
set_option maxHeartbeats 400000 in
theorem compare_den (a b : ByteArray)  : Den Try.prog 81 [.s (.string a), .s (.string b)]  (· = .s (.int .i64 (cmpB a b))) := by
 refine den_of_aw Try.func81 rfl (Nat.le_of_ble_eq_true rfl) (fun w0 A hf => ?_)
 refine aw_seq_k (fun K1 hK1 => ?_)
 refine aw_region ?_
 refine x_pure rfl (p_assign_bad) ?_
 first | refine aops_end ?_ | refine aops_nil ?_
 refine hK1 _ ?_
 refine aw_seq_k (fun K2 hK2 => ?_)
 refine aw_region ?_
 refine x_pure rfl (p_move rfl) ?_
 refine x_step hf rfl (r_call rfl rfl Try.ent101 rfl (isNaN_den _)) ?_
 refine x_pure rfl (p_assign rfl) ?_
 first | refine aops_end ?_ | refine aops_nil ?_
 refine hK2 _ ?_
 refine aw_seq_k (fun K3 hK3 => ?_)
 refine aw_region ?_
 refine x_pure rfl (p_move rfl) ?_
 refine x_step hf rfl (r_call rfl rfl Try.ent101 rfl (isNaN_den _)) ?_
 refine x_pure rfl (p_assign rfl) ?_
 first | refine aops_end ?_ | refine aops_nil ?_
 refine hK3 _ ?_
 refine aw_seq_k (fun K4 hK4 => ?_)
 refine aw_seq_k (fun K5 hK5 => ?_)
 refine aw_region ?_
 refine x_pure rfl (p_move rfl) ?_
 first | refine aops_end ?_ | refine aops_nil ?_
 refine hK5 _ ?_
 refine aw_cond_f rfl ?_
 refine aw_skip ?_
 refine hK4 _ ?_
 refine aw_seq_k (fun K6 hK6 => ?_)
 refine aw_seq_k (fun K7 hK7 => ?_)
 refine aw_region ?_
 refine x_pure rfl (p_move rfl) ?_
 first | refine aops_end ?_ | refine aops_nil ?_
 refine hK7 _ ?_
 refine aw_cond_f rfl ?_
 refine aw_skip ?_
 refine hK6 _ ?_
 refine aw_seq_k (fun K8 hK8 => ?_)
 refine aw_seq_k (fun K9 hK9 => ?_)
 refine aw_region ?_
 refine x_pure rfl (p_move rfl) ?_
 refine x_pure rfl (p_move rfl) ?_
 refine x_pure rfl (p_bin rfl rfl rfl) ?_
 first | refine aops_end ?_ | refine aops_nil ?_
 refine hK9 _ ?_
 refine aw_cond_s rfl (fun hc3 => ?_) (fun hc3 => ?_)
 ·
  try simp only [bs, strs_len, ints_len, List.length_cons, List.length_nil] at hc3
  refine aw_seq_k (fun K10 hK10 => ?_)
  refine aw_region ?_
  refine x_pure rfl (p_assign rfl) ?_
  first | refine aops_end ?_ | refine aops_nil ?_
  refine hK10 _ ?_
  refine aw_ret ?_
  refine ⟨_, rfl, ?_⟩
  refine ret_int ?_
  have h1 := bytesLess_iff a b
  have h2 := toList_eq_iff a b
  have h3 := cmpB_range a b
  have := h1.1 (by assumption)
  omega
 ·
  try simp only [bs, strs_len, ints_len, List.length_cons, List.length_nil] at hc3
  refine aw_skip ?_
  refine hK8 _ ?_
  refine aw_seq_k (fun K11 hK11 => ?_)
  refine aw_seq_k (fun K12 hK12 => ?_)
  refine aw_region ?_
  refine x_pure rfl (p_move rfl) ?_
  refine x_pure rfl (p_move rfl) ?_
  refine x_pure rfl (p_bin rfl rfl rfl) ?_
  first | refine aops_end ?_ | refine aops_nil ?_
  refine hK12 _ ?_
  refine aw_cond_s rfl (fun hc4 => ?_) (fun hc4 => ?_)
  ·
   try simp only [bs, strs_len, ints_len, List.length_cons, List.length_nil] at hc4
   refine aw_seq_k (fun K13 hK13 => ?_)
   refine aw_region ?_
   refine x_pure rfl (p_assign rfl) ?_
   first | refine aops_end ?_ | refine aops_nil ?_
   refine hK13 _ ?_
   refine aw_ret ?_
   refine ⟨_, rfl, ?_⟩
   refine ret_int ?_
   have h1 := bytesLess_iff a b
   have h2 := toList_eq_iff a b
   have h3 := cmpB_range a b
   have h4 : ¬ cmpB a b < 0 := fun h => by have e := h1.2 h; simp_all
   have h5 : ¬ cmpB a b = 0 := fun h => by have e := h2.2 h; simp_all
   omega
  ·
   try simp only [bs, strs_len, ints_len, List.length_cons, List.length_nil] at hc4
   refine aw_skip ?_
   refine hK11 _ ?_
   refine aw_seq_k (fun K14 hK14 => ?_)
   refine aw_region ?_
   refine x_pure rfl (p_assign rfl) ?_
   first | refine aops_end ?_ | refine aops_nil ?_
   refine hK14 _ ?_
   refine aw_ret ?_
   refine ⟨_, rfl, ?_⟩
   refine ret_int ?_
   have h1 := bytesLess_iff a b
   have h2 := toList_eq_iff a b
   have h3 := cmpB_range a b
   have h4 : ¬ cmpB a b < 0 := fun h => by have e := h1.2 h; simp_all
   have h5 : cmpB a b = 0 := h2.1 (by simp_all)
   omega

set_option maxRecDepth 20000 in
set_option maxHeartbeats 400000 in
theorem cmp_den (a b : ByteArray)  : Den Try.prog 71 [.s (.string a), .s (.string b)]  (· = .s (.int .i64 (cmpB a b))) := by
 refine den_of_aw Try.func71 rfl (Nat.le_of_ble_eq_true rfl) (fun w0 A hf => ?_)
 refine aw_seq_k (fun K1 hK1 => ?_)
 refine aw_region ?_
 refine x_pure rfl (p_assign_bad) ?_
 first | refine aops_end ?_ | refine aops_nil ?_
 refine hK1 _ ?_
 refine aw_seq_k (fun K2 hK2 => ?_)
 refine aw_region ?_
 refine x_pure rfl (p_move rfl) ?_
 refine x_pure rfl (p_move rfl) ?_
 refine x_step hf rfl (r_call rfl rfl Try.ent81 rfl (compare_den _ _)) ?_
 refine x_pure rfl (p_assign rfl) ?_
 first | refine aops_end ?_ | refine aops_nil ?_
 refine hK2 _ ?_
 refine aw_ret ?_
 refine ⟨_, rfl, ?_⟩
 rfl

set_option maxRecDepth 20000 in
set_option maxHeartbeats 400000 in
theorem or_den (l : List Int) (hl : l.length ≤ 9223372036854775807)  : Den Try.prog 67 [.sl 1 (ints l)]  (· = .s (.int .i64 (orI l))) := by
 refine den_of_aw Try.func67 rfl (Nat.le_of_ble_eq_true rfl) (fun w0 A hf => ?_)
 refine aw_seq_k (fun K1 hK1 => ?_)
 refine aw_region ?_
 refine x_pure rfl (p_assign_bad) ?_
 first | refine aops_end ?_ | refine aops_nil ?_
 refine hK1 _ ?_
 refine aw_seq_k (fun K2 hK2 => ?_)
 refine aw_region ?_
 refine x_pure rfl (p_assign rfl) ?_
 first | refine aops_end ?_ | refine aops_nil ?_
 refine hK2 _ ?_
 refine aw_seq_k (fun K3 hK3 => ?_)
 refine aw_seq_k (fun K4 hK4 => ?_)
 refine aw_region ?_
 refine x_pure rfl (p_move rfl) ?_
 first | refine x_pure rfl (p_len_sl rfl Try.e75) ?_ | refine x_pure rfl (p_len_own rfl Try.e75) ?_ | refine x_pure rfl (p_len_nil rfl Try.e75) ?_
 refine x_pure rfl (p_move rfl) ?_
 first | refine aops_end ?_ | refine aops_nil ?_
 refine hK4 _ ?_
 refine aw_block ?_
 refine aw_loop (ι := Nat) (fun k => ⟨18, [(3, .s (.int .i64 0)), (6, .sl 1 (ints l)), (7, .s (.int .i64 ((ints l).length : Nat))), (8, .s (.int .i64 (k : Nat)))], []⟩) (fun k => k ≤ l.length ∧ orI l = orI (l.drop k)) (fun k => l.length - k) 0 ?_ ?_ ?_
 · exact ⟨by omega, rfl⟩
 · exact le_of ⟨rfl, rfl, rfl, rfl, trivial⟩
 ·
  rintro k hC
  obtain ⟨h1, h2⟩ := hC
  refine aw_seq_k (fun K5 hK5 => ?_)
  refine aw_region ?_
  refine x_pure rfl (p_bin rfl rfl rfl) ?_
  first | refine aops_end ?_ | refine aops_nil ?_
  refine hK5 _ ?_
  refine aw_seq_k (fun K6 hK6 => ?_)
  refine aw_cond_s rfl (fun hc1 => ?_) (fun hc1 => ?_)
  ·
   try simp only [bs, strs_len, ints_len, List.length_cons, List.length_nil] at hc1
   refine aw_skip ?_
   refine hK6 _ ?_
   refine aw_seq_k (fun K7 hK7 => ?_)
   refine aw_block ?_
   refine aw_seq_k (fun K8 hK8 => ?_)
   refine aw_region ?_
   first | refine x_pure rfl (p_idx_sl rfl rfl Try.e75 Try.c3 (by first | assumption | (refine ⟨by omega, ?_⟩; first | assumption | exact strs_at (by omega) | exact strs_at (by simp only [List.length_cons] at *; omega) | exact ints_at (by omega) | exact map_at (by omega) | exact list_at (by omega)) | exact ⟨by decide, rfl⟩)) ?_ | refine x_pure rfl (p_idx_own rfl rfl Try.e75 Try.c3 (by omega)) ?_
   first | refine x_pure rfl (p_load1 rfl Try.g3 rfl) ?_ | refine x_pure rfl (p_load1r rfl Try.g3 rfl rfl) ?_ | refine x_pure rfl (p_load1r rfl Try.g3 rfl (strs_ref (by simp only [List.length_cons] at *; omega))) ?_ | refine x_pure rfl (p_load1r rfl Try.g3 rfl (strs_ref (by omega))) ?_
   refine x_pure rfl (p_assign rfl) ?_
   first | refine aops_end ?_ | refine aops_nil ?_
   refine hK8 _ ?_
   refine aw_seq_k (fun K9 hK9 => ?_)
   refine aw_region ?_
   refine x_pure rfl (p_move rfl) ?_
   refine x_pure rfl (p_move rfl) ?_
   refine x_pure rfl (p_bin rfl rfl rfl) ?_
   first | refine aops_end ?_ | refine aops_nil ?_
   refine hK9 _ ?_
   refine aw_cond_s rfl (fun hc2 => ?_) (fun hc2 => ?_)
   ·
    try simp only [bs, strs_len, ints_len, List.length_cons, List.length_nil] at hc2
    refine aw_seq_k (fun K10 hK10 => ?_)
    refine aw_region ?_
    refine x_pure rfl (p_move rfl) ?_
    refine x_pure rfl (p_assign rfl) ?_
    first | refine aops_end ?_ | refine aops_nil ?_
    refine hK10 _ ?_
    refine aw_ret ?_
    refine ⟨_, rfl, ?_⟩
    refine ret_int ?_
    rw [h2, orI_drop l k (by omega), if_pos (by assumption)]
   ·
    try simp only [bs, strs_len, ints_len, List.length_cons, List.length_nil] at hc2
    refine aw_skip ?_
    refine hK7 _ ?_
    refine aw_region ?_
    first | refine x_pure rfl (p_add rfl rfl (by omega) (by omega)) ?_ | refine x_pure rfl (p_bin rfl rfl rfl) ?_
    refine x_pure rfl (p_move rfl) ?_
    first | refine aops_end ?_ | refine aops_nil ?_
    exact ⟨k+1, ⟨by omega, by rw [h2, orI_drop l k (by omega), if_neg (by simp_all)]⟩, by omega, le_of ⟨rfl, rfl, rfl, rfl, trivial⟩⟩
  ·
   try simp only [bs, strs_len, ints_len, List.length_cons, List.length_nil] at hc1
   refine aw_exit ?_
   refine hK3 _ ?_
   refine aw_seq_k (fun K11 hK11 => ?_)
   refine aw_region ?_
   refine x_pure rfl (p_move rfl) ?_
   refine x_pure rfl (p_assign rfl) ?_
   first | refine aops_end ?_ | refine aops_nil ?_
   refine hK11 _ ?_
   refine aw_ret ?_
   refine ⟨_, rfl, ?_⟩
   refine ret_int ?_
   rw [h2, orI_end l k (by omega)]
end Go.Proofs.Ytcjchfocohagdaa.Nm
