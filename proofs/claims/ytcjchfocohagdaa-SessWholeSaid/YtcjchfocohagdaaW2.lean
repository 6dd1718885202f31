import Derived.Test.YtcjchfocohagdaaW1
set_option linter.unusedVariables false
set_option linter.unusedSimpArgs false
namespace Go.Proofs.Ytcjchfocohagdaa
open Go Go.Abs

set_option maxRecDepth 20000 in
set_option maxHeartbeats 400000 in
theorem clone_den (l : List Sp) (hl : l.length * 16 ≤ 140737488355328)  : DenO Try.prog 60 [.sl 2 (l.map spC)] 2 (· = (l.map spC)) := by
 refine deno_of_aw Try.func60 rfl (Nat.le_of_ble_eq_true rfl) (fun w0 A hf => ?_)
 refine aw_seq_k (fun K1 hK1 => ?_)
 refine aw_region ?_
 refine x_pure rfl (p_assign_bad) ?_
 first | refine aops_end ?_ | refine aops_nil ?_
 refine hK1 _ ?_
 refine aw_seq_k (fun K2 hK2 => ?_)
 refine aw_seq_k (fun K3 hK3 => ?_)
 refine aw_region ?_
 refine x_pure rfl (p_move rfl) ?_
 first | refine y_eqnil_sl rfl rfl rfl Try.e76 (fun b hb1 => ?_) | refine y_eqnil_own rfl rfl rfl Try.e76 (fun b hb1 => ?_)
 first | refine aops_end ?_ | refine aops_nil ?_
 refine hK3 _ ?_
 refine aw_cond_s rfl (fun hc2 => ?_) (fun hc2 => ?_)
 ·
  try simp only [bs] at hc2
  have hl0 : l = [] := by simpa using hb1 (by assumption)
  refine aw_seq_k (fun K4 hK4 => ?_)
  refine aw_region ?_
  refine x_nil hf 2 rfl rfl rfl ?_
  first | refine aops_end ?_ | refine aops_nil ?_
  refine hK4 _ ?_
  refine aw_ret ?_
  exact ⟨2, [], by decide, rfl, rfl, by rw [hl0]; rfl⟩
 ·
  try simp only [bs] at hc2
  refine aw_skip ?_
  refine hK2 _ ?_
  refine aw_seq_k (fun K5 hK5 => ?_)
  refine aw_region ?_
  refine y_buildSlice hf rfl rfl rfl Try.ap76 rfl rfl rfl rfl (by simp [spC, AV.cells, AV.leaf, Value.oneCell', splice, AV.kill, AV.clean, cleanL, AV.only]) ?_
  refine x_pure rfl (p_move rfl) ?_
  refine x_append hf rfl Try.ap76 rfl rfl rfl (.inl rfl) rfl rfl (by first | rfl | simp [asrc, look]) (by first | (simp only [maxLen, List.length_map, List.length_append, List.length_cons, List.length_nil]; omega) | (simp [maxLen] <;> omega)) (by first | (simp only [List.length_map, List.length_append, List.length_cons, List.length_nil]; omega) | (simp <;> omega)) ?_
  refine aops_le (le_of (sl' := [(7, _)]) ⟨rfl, trivial⟩) ?_
  refine x_pure rfl (p_assign rfl) ?_
  first | refine aops_end ?_ | refine aops_nil ?_
  refine hK5 _ ?_
  refine aw_ret ?_
  refine ⟨5, (l.map spC), by decide, rfl, ?_, rfl⟩
  show some (AV.own 5 2 0 (0 + (l.map spC).length)) = _
  rw [Nat.zero_add]

set_option maxRecDepth 20000 in
set_option maxHeartbeats 400000 in
theorem equal_den (a b : List Sp) (ha : a.length ≤ 9223372036854775807) (hb : b.length ≤ 9223372036854775807)  : Den Try.prog 58 [.sl 2 (a.map spC), .sl 2 (b.map spC)]  (· = .s (.bool (decide (a = b)))) := by
 refine den_of_aw Try.func58 rfl (Nat.le_of_ble_eq_true rfl) (fun w0 A hf => ?_)
 refine aw_seq_k (fun K1 hK1 => ?_)
 refine aw_region ?_
 refine x_pure rfl (p_assign_bad) ?_
 first | refine aops_end ?_ | refine aops_nil ?_
 refine hK1 _ ?_
 refine aw_seq_k (fun K2 hK2 => ?_)
 refine aw_seq_k (fun K3 hK3 => ?_)
 refine aw_region ?_
 refine x_pure rfl (p_move rfl) ?_
 first | refine x_pure rfl (p_len_sl rfl Try.e76) ?_ | refine x_pure rfl (p_len_own rfl Try.e76) ?_ | refine x_pure rfl (p_len_nil rfl Try.e76) ?_
 refine x_pure rfl (p_move rfl) ?_
 first | refine x_pure rfl (p_len_sl rfl Try.e76) ?_ | refine x_pure rfl (p_len_own rfl Try.e76) ?_ | refine x_pure rfl (p_len_nil rfl Try.e76) ?_
 refine x_pure rfl (p_bin rfl rfl rfl) ?_
 first | refine aops_end ?_ | refine aops_nil ?_
 refine hK3 _ ?_
 refine aw_cond_s rfl (fun hc1 => ?_) (fun hc1 => ?_)
 ·
  try simp only [bs] at hc1
  refine aw_seq_k (fun K4 hK4 => ?_)
  refine aw_region ?_
  refine x_pure rfl (p_assign rfl) ?_
  first | refine aops_end ?_ | refine aops_nil ?_
  refine hK4 _ ?_
  refine aw_ret ?_
  refine ⟨_, rfl, ?_⟩
  refine ret_bool ?_
  rw [eqrow_len (by omega)]
 ·
  try simp only [bs] at hc1
  refine aw_skip ?_
  refine hK2 _ ?_
  refine aw_seq_k (fun K5 hK5 => ?_)
  refine aw_seq_k (fun K6 hK6 => ?_)
  refine aw_region ?_
  refine x_pure rfl (p_move rfl) ?_
  first | refine x_pure rfl (p_len_sl rfl Try.e76) ?_ | refine x_pure rfl (p_len_own rfl Try.e76) ?_ | refine x_pure rfl (p_len_nil rfl Try.e76) ?_
  refine x_pure rfl (p_move rfl) ?_
  first | refine aops_end ?_ | refine aops_nil ?_
  refine hK6 _ ?_
  refine aw_block ?_
  refine aw_loop (ι := Nat) (fun k => ⟨26, [(0, .sl 2 (a.map spC)), (1, .sl 2 (b.map spC)), (12, .s (.int .i64 ((a.map spC).length : Nat))), (13, .s (.int .i64 (k : Nat)))], []⟩) (fun k => k ≤ a.length ∧ a.take k = b.take k) (fun k => a.length - k) 0 ?_ ?_ ?_
  · exact ⟨Nat.zero_le _, rfl⟩
  · exact le_of ⟨rfl, rfl, rfl, rfl, trivial⟩
  ·
   rintro k hC
   obtain ⟨h1, h2⟩ := hC
   refine aw_seq_k (fun K7 hK7 => ?_)
   refine aw_region ?_
   refine x_pure rfl (p_bin rfl rfl rfl) ?_
   first | refine aops_end ?_ | refine aops_nil ?_
   refine hK7 _ ?_
   refine aw_seq_k (fun K8 hK8 => ?_)
   refine aw_cond_s rfl (fun hc2 => ?_) (fun hc2 => ?_)
   ·
    try simp only [bs] at hc2
    refine aw_skip ?_
    refine hK8 _ ?_
    refine aw_seq_k (fun K9 hK9 => ?_)
    refine aw_block ?_
    refine aw_seq_k (fun K10 hK10 => ?_)
    refine aw_region ?_
    refine x_pure rfl (p_move rfl) ?_
    refine x_pure rfl (p_assign rfl) ?_
    first | refine aops_end ?_ | refine aops_nil ?_
    refine hK10 _ ?_
    refine aw_seq_k (fun K11 hK11 => ?_)
    refine aw_draw hf Try.mixed (by kernel_rfl) rfl ?_
    refine d_pure [(0, _)] rfl rfl ⟨⟨rfl, rfl⟩, trivial⟩ rfl (p_move rfl) ?_
    refine d_pure [(5, _)] rfl rfl ⟨⟨rfl, rfl⟩, trivial⟩ rfl (p_move rfl) ?_
    first | refine d_pure [(16, _), (17, _)] rfl rfl ⟨⟨rfl, rfl⟩, ⟨rfl, rfl⟩, trivial⟩ rfl (p_idx_sl rfl rfl Try.e76 Try.c42 (by first | assumption | (refine ⟨by omega, ?_⟩; first | assumption | exact strs_at (by omega) | exact strs_at (by simp only [List.length_cons] at *; omega) | exact ints_at (by omega) | exact map_at (by omega) | exact list_at (by omega)) | exact ⟨by decide, rfl⟩)) ?_ | refine d_pure [(16, _), (17, _)] rfl rfl ⟨⟨rfl, rfl⟩, ⟨rfl, rfl⟩, trivial⟩ rfl (p_idx_own rfl rfl Try.e76 Try.c42 (by omega)) ?_
    first | refine d_pure [(18, _)] rfl rfl ⟨⟨rfl, rfl⟩, trivial⟩ rfl (p_loads rfl Try.g42 Try.c42 rfl rfl) ?_ | refine d_pure [(18, _)] rfl rfl ⟨⟨rfl, rfl⟩, trivial⟩ rfl (p_loadsr rfl Try.g42 Try.c42 rfl rfl rfl) ?_
    refine d_pure [(1, _)] rfl rfl ⟨⟨rfl, rfl⟩, trivial⟩ rfl (p_move rfl) ?_
    refine d_pure [(5, _)] rfl rfl ⟨⟨rfl, rfl⟩, trivial⟩ rfl (p_move rfl) ?_
    first | refine d_pure [(20, _), (21, _)] rfl rfl ⟨⟨rfl, rfl⟩, ⟨rfl, rfl⟩, trivial⟩ rfl (p_idx_sl rfl rfl Try.e76 Try.c42 (by first | assumption | (refine ⟨by omega, ?_⟩; first | assumption | exact strs_at (by omega) | exact strs_at (by simp only [List.length_cons] at *; omega) | exact ints_at (by omega) | exact map_at (by omega) | exact list_at (by omega)) | exact ⟨by decide, rfl⟩)) ?_ | refine d_pure [(20, _), (21, _)] rfl rfl ⟨⟨rfl, rfl⟩, ⟨rfl, rfl⟩, trivial⟩ rfl (p_idx_own rfl rfl Try.e76 Try.c42 (by omega)) ?_
    first | refine d_pure [(22, _)] rfl rfl ⟨⟨rfl, rfl⟩, trivial⟩ rfl (p_loads rfl Try.g42 Try.c42 rfl rfl) ?_ | refine d_pure [(22, _)] rfl rfl ⟨⟨rfl, rfl⟩, trivial⟩ rfl (p_loadsr rfl Try.g42 Try.c42 rfl rfl rfl) ?_
    refine d_pure [(19, _), (23, _)] rfl rfl ⟨⟨rfl, rfl⟩, ⟨rfl, rfl⟩, trivial⟩ rfl (p_neagg rfl rfl Try.q42 rfl) ?_
    rw [spC_eq]
    refine lex_end (sl' := [(0, _), (1, _), (12, _), (13, _), (24, _)]) rfl ⟨rfl, rfl, rfl, rfl, rfl, trivial⟩ rfl ?_
    refine hK11 _ ?_
    refine aw_cond_s rfl (fun hc3 => ?_) (fun hc3 => ?_)
    ·
     try simp only [bs] at hc3
     refine aw_seq_k (fun K12 hK12 => ?_)
     refine aw_region ?_
     refine x_pure rfl (p_assign rfl) ?_
     first | refine aops_end ?_ | refine aops_nil ?_
     refine hK12 _ ?_
     refine aw_ret ?_
     refine ⟨_, rfl, ?_⟩
     refine ret_bool ?_
     rw [eqrow_diff (by omega) (by omega) (by assumption)]
    ·
     try simp only [bs] at hc3
     refine aw_skip ?_
     refine hK9 _ ?_
     refine aw_region ?_
     first | refine x_pure rfl (p_add rfl rfl (by omega) (by omega)) ?_ | refine x_pure rfl (p_bin rfl rfl rfl) ?_
     refine x_pure rfl (p_move rfl) ?_
     first | refine aops_end ?_ | refine aops_nil ?_
     exact ⟨k+1, ⟨by omega, eqrow_next (by omega) (by omega) h2 (by assumption)⟩, by omega, le_of ⟨rfl, rfl, rfl, rfl, trivial⟩⟩
   ·
    try simp only [bs] at hc2
    refine aw_exit ?_
    refine hK5 _ ?_
    refine aw_seq_k (fun K13 hK13 => ?_)
    refine aw_region ?_
    refine x_pure rfl (p_assign rfl) ?_
    first | refine aops_end ?_ | refine aops_nil ?_
    refine hK13 _ ?_
    refine aw_ret ?_
    refine ⟨_, rfl, ?_⟩
    refine ret_bool ?_
    rw [eqrow_end (by omega) (by omega) h2]

set_option maxRecDepth 20000 in
set_option maxHeartbeats 400000 in
theorem isNaN_den (a : Int)  : Den Try.prog 77 [.s (.int .i64 a)]  (· = .s (.bool false)) := by
 refine den_of_aw Try.func77 rfl (Nat.le_of_ble_eq_true rfl) (fun w0 A hf => ?_)
 refine aw_seq_k (fun K1 hK1 => ?_)
 refine aw_region ?_
 refine x_pure rfl (p_assign_bad) ?_
 first | refine aops_end ?_ | refine aops_nil ?_
 refine hK1 _ ?_
 refine aw_seq_k (fun K2 hK2 => ?_)
 refine aw_region ?_
 refine x_pure rfl (p_move rfl) ?_
 refine x_pure rfl (p_move rfl) ?_
 refine x_pure rfl (p_bin rfl rfl rfl) ?_
 refine x_pure rfl (p_assign rfl) ?_
 first | refine aops_end ?_ | refine aops_nil ?_
 refine hK2 _ ?_
 refine aw_ret ?_
 refine ⟨_, rfl, ?_⟩
 refine ret_bool ?_
 simp

set_option maxRecDepth 20000 in
set_option maxHeartbeats 400000 in
theorem compare_den (a b : Int)  : Den Try.prog 63 [.s (.int .i64 a), .s (.int .i64 b)]  (· = .s (.int .i64 (cmpI a b))) := by
 refine den_of_aw Try.func63 rfl (Nat.le_of_ble_eq_true rfl) (fun w0 A hf => ?_)
 refine aw_seq_k (fun K1 hK1 => ?_)
 refine aw_region ?_
 refine x_pure rfl (p_assign_bad) ?_
 first | refine aops_end ?_ | refine aops_nil ?_
 refine hK1 _ ?_
 refine aw_seq_k (fun K2 hK2 => ?_)
 refine aw_region ?_
 refine x_pure rfl (p_move rfl) ?_
 refine x_step hf rfl (r_call rfl rfl Try.ent77 rfl (isNaN_den _)) ?_
 refine x_pure rfl (p_assign rfl) ?_
 first | refine aops_end ?_ | refine aops_nil ?_
 refine hK2 _ ?_
 refine aw_seq_k (fun K3 hK3 => ?_)
 refine aw_region ?_
 refine x_pure rfl (p_move rfl) ?_
 refine x_step hf rfl (r_call rfl rfl Try.ent77 rfl (isNaN_den _)) ?_
 refine x_pure rfl (p_assign rfl) ?_
 first | refine aops_end ?_ | refine aops_nil ?_
 refine hK3 _ ?_
 refine aw_seq_k (fun K4 hK4 => ?_)
 refine aw_seq_k (fun K5 hK5 => ?_)
 refine aw_region ?_
 refine x_pure rfl (p_move rfl) ?_
 first | refine aops_end ?_ | refine aops_nil ?_
 refine hK5 _ ?_
 refine aw_cond_f rfl ?_
 refine aw_skip ?_
 refine hK4 _ ?_
 refine aw_seq_k (fun K6 hK6 => ?_)
 refine aw_seq_k (fun K7 hK7 => ?_)
 refine aw_region ?_
 refine x_pure rfl (p_move rfl) ?_
 first | refine aops_end ?_ | refine aops_nil ?_
 refine hK7 _ ?_
 refine aw_cond_f rfl ?_
 refine aw_skip ?_
 refine hK6 _ ?_
 refine aw_seq_k (fun K8 hK8 => ?_)
 refine aw_seq_k (fun K9 hK9 => ?_)
 refine aw_region ?_
 refine x_pure rfl (p_move rfl) ?_
 refine x_pure rfl (p_move rfl) ?_
 refine x_pure rfl (p_bin rfl rfl rfl) ?_
 first | refine aops_end ?_ | refine aops_nil ?_
 refine hK9 _ ?_
 refine aw_cond_s rfl (fun hc3 => ?_) (fun hc3 => ?_)
 ·
  try simp only [bs] at hc3
  refine aw_seq_k (fun K10 hK10 => ?_)
  refine aw_region ?_
  refine x_pure rfl (p_assign rfl) ?_
  first | refine aops_end ?_ | refine aops_nil ?_
  refine hK10 _ ?_
  refine aw_ret ?_
  refine ⟨_, rfl, ?_⟩
  refine ret_int ?_
  unfold cmpI
  (repeat' split) <;> first | rfl | omega
 ·
  try simp only [bs] at hc3
  refine aw_skip ?_
  refine hK8 _ ?_
  refine aw_seq_k (fun K11 hK11 => ?_)
  refine aw_seq_k (fun K12 hK12 => ?_)
  refine aw_region ?_
  refine x_pure rfl (p_move rfl) ?_
  refine x_pure rfl (p_move rfl) ?_
  refine x_pure rfl (p_bin rfl rfl rfl) ?_
  first | refine aops_end ?_ | refine aops_nil ?_
  refine hK12 _ ?_
  refine aw_cond_s rfl (fun hc4 => ?_) (fun hc4 => ?_)
  ·
   try simp only [bs] at hc4
   refine aw_seq_k (fun K13 hK13 => ?_)
   refine aw_region ?_
   refine x_pure rfl (p_assign rfl) ?_
   first | refine aops_end ?_ | refine aops_nil ?_
   refine hK13 _ ?_
   refine aw_ret ?_
   refine ⟨_, rfl, ?_⟩
   refine ret_int ?_
   unfold cmpI
   (repeat' split) <;> first | rfl | omega
  ·
   try simp only [bs] at hc4
   refine aw_skip ?_
   refine hK11 _ ?_
   refine aw_seq_k (fun K14 hK14 => ?_)
   refine aw_region ?_
   refine x_pure rfl (p_assign rfl) ?_
   first | refine aops_end ?_ | refine aops_nil ?_
   refine hK14 _ ?_
   refine aw_ret ?_
   refine ⟨_, rfl, ?_⟩
   refine ret_int ?_
   unfold cmpI
   (repeat' split) <;> first | rfl | omega

set_option maxRecDepth 20000 in
set_option maxHeartbeats 400000 in
theorem none_den (s : Sp)  : Den Try.prog 35 [.agg (spC s)]  (· = .s (.bool (decide (s.2 ≤ s.1)))) := by
 refine den_of_aw Try.func35 rfl (Nat.le_of_ble_eq_true rfl) (fun w0 A hf => ?_)
 refine aw_seq_k (fun K1 hK1 => ?_)
 refine aw_region ?_
 refine x_step hf rfl (r_box rfl rfl (by simp [spC, AV.cells, AV.leaf, Value.oneCell', splice, AV.kill, AV.clean, cleanL, AV.only])) ?_
 refine x_pure rfl (p_assign_bad) ?_
 first | refine aops_end ?_ | refine aops_nil ?_
 refine hK1 _ ?_
 refine aw_seq_k (fun K2 hK2 => ?_)
 refine aw_region ?_
 first | refine x_pure rfl (p_fld_adr rfl Try.fd42_1 Try.c3 rfl) ?_ | refine x_pure rfl (p_fld_ref rfl Try.fd42_1 Try.c3 rfl) ?_
 first | refine x_pure rfl (p_load1 rfl Try.g3 rfl) ?_ | refine x_pure rfl (p_load1r rfl Try.g3 rfl rfl) ?_ | refine x_pure rfl (p_load1r rfl Try.g3 rfl (strs_ref (by simp only [List.length_cons] at *; omega))) ?_ | refine x_pure rfl (p_load1r rfl Try.g3 rfl (strs_ref (by omega))) ?_
 first | refine x_pure rfl (p_fld_adr rfl Try.fd42_0 Try.c3 rfl) ?_ | refine x_pure rfl (p_fld_ref rfl Try.fd42_0 Try.c3 rfl) ?_
 first | refine x_pure rfl (p_load1 rfl Try.g3 rfl) ?_ | refine x_pure rfl (p_load1r rfl Try.g3 rfl rfl) ?_ | refine x_pure rfl (p_load1r rfl Try.g3 rfl (strs_ref (by simp only [List.length_cons] at *; omega))) ?_ | refine x_pure rfl (p_load1r rfl Try.g3 rfl (strs_ref (by omega))) ?_
 refine x_pure rfl (p_bin rfl rfl rfl) ?_
 refine x_pure rfl (p_assign rfl) ?_
 first | refine aops_end ?_ | refine aops_nil ?_
 refine hK2 _ ?_
 refine aw_ret ?_
 refine ⟨_, rfl, ?_⟩
 rfl

set_option maxRecDepth 20000 in
set_option maxHeartbeats 400000 in
theorem meet1_den (s o : Sp)  : Den Try.prog 36 [.agg (spC s), .agg (spC o)]  (· = .agg (spC (meet1 s o))) := by
 refine den_of_aw Try.func36 rfl (Nat.le_of_ble_eq_true rfl) (fun w0 A hf => ?_)
 refine aw_seq_k (fun K1 hK1 => ?_)
 refine aw_region ?_
 refine x_step hf rfl (r_box rfl rfl (by simp [spC, AV.cells, AV.leaf, Value.oneCell', splice, AV.kill, AV.clean, cleanL, AV.only])) ?_
 refine x_step hf rfl (r_box rfl rfl (by simp [spC, AV.cells, AV.leaf, Value.oneCell', splice, AV.kill, AV.clean, cleanL, AV.only])) ?_
 refine x_alloc hf rfl rfl rfl Try.z42 ?_
 first | refine aops_end ?_ | refine aops_nil ?_
 refine hK1 _ ?_
 refine aw_seq_k (fun K2 hK2 => ?_)
 refine aw_region ?_
 first | refine x_pure rfl (p_fld_adr rfl Try.fd42_0 Try.c3 rfl) ?_ | refine x_pure rfl (p_fld_ref rfl Try.fd42_0 Try.c3 rfl) ?_
 first | refine x_pure rfl (p_load1 rfl Try.g3 rfl) ?_ | refine x_pure rfl (p_load1r rfl Try.g3 rfl rfl) ?_ | refine x_pure rfl (p_load1r rfl Try.g3 rfl (strs_ref (by simp only [List.length_cons] at *; omega))) ?_ | refine x_pure rfl (p_load1r rfl Try.g3 rfl (strs_ref (by omega))) ?_
 first | refine x_pure rfl (p_fld_adr rfl Try.fd42_0 Try.c3 rfl) ?_ | refine x_pure rfl (p_fld_ref rfl Try.fd42_0 Try.c3 rfl) ?_
 first | refine x_pure rfl (p_load1 rfl Try.g3 rfl) ?_ | refine x_pure rfl (p_load1r rfl Try.g3 rfl rfl) ?_ | refine x_pure rfl (p_load1r rfl Try.g3 rfl (strs_ref (by simp only [List.length_cons] at *; omega))) ?_ | refine x_pure rfl (p_load1r rfl Try.g3 rfl (strs_ref (by omega))) ?_
 refine x_pure rfl (p_max rfl rfl) ?_
 first | refine x_pure rfl (p_fld_adr rfl Try.fd42_1 Try.c3 rfl) ?_ | refine x_pure rfl (p_fld_ref rfl Try.fd42_1 Try.c3 rfl) ?_
 first | refine x_pure rfl (p_load1 rfl Try.g3 rfl) ?_ | refine x_pure rfl (p_load1r rfl Try.g3 rfl rfl) ?_ | refine x_pure rfl (p_load1r rfl Try.g3 rfl (strs_ref (by simp only [List.length_cons] at *; omega))) ?_ | refine x_pure rfl (p_load1r rfl Try.g3 rfl (strs_ref (by omega))) ?_
 first | refine x_pure rfl (p_fld_adr rfl Try.fd42_1 Try.c3 rfl) ?_ | refine x_pure rfl (p_fld_ref rfl Try.fd42_1 Try.c3 rfl) ?_
 first | refine x_pure rfl (p_load1 rfl Try.g3 rfl) ?_ | refine x_pure rfl (p_load1r rfl Try.g3 rfl rfl) ?_ | refine x_pure rfl (p_load1r rfl Try.g3 rfl (strs_ref (by simp only [List.length_cons] at *; omega))) ?_ | refine x_pure rfl (p_load1r rfl Try.g3 rfl (strs_ref (by omega))) ?_
 refine x_pure rfl (p_min rfl rfl) ?_
 refine x_pure rfl (p_build rfl Try.z42 Try.pl42 (by simp [spC, AV.cells, AV.one, Value.oneCell', splice, AV.kill, AV.clean, cleanL, AV.only]) rfl) ?_
 refine x_store hf rfl rfl Try.c42 rfl rfl (by simp [spC, AV.cells, AV.one, Value.oneCell', splice, AV.kill, AV.clean, cleanL, AV.only]) (by simp [spC, AV.cells, AV.leaf, Value.oneCell', splice, AV.kill, AV.clean, cleanL, AV.only]) rfl ?_
 first | refine aops_end ?_ | refine aops_nil ?_
 refine hK2 _ ?_
 refine aw_ret ?_
 refine ⟨_, rfl, ?_⟩
 rfl

set_option maxRecDepth 20000 in
set_option maxHeartbeats 400000 in
theorem normCmp_den (a b : Sp)  : Den Try.prog 62 [.agg (spC a), .agg (spC b)]  (· = .s (.int .i64 (cmpI a.1 b.1))) := by
 refine den_of_aw Try.func62 rfl (Nat.le_of_ble_eq_true rfl) (fun w0 A hf => ?_)
 refine aw_seq_k (fun K1 hK1 => ?_)
 refine aw_region ?_
 refine x_step hf rfl (r_box rfl rfl (by simp [spC, AV.cells, AV.leaf, Value.oneCell', splice, AV.kill, AV.clean, cleanL, AV.only])) ?_
 refine x_step hf rfl (r_box rfl rfl (by simp [spC, AV.cells, AV.leaf, Value.oneCell', splice, AV.kill, AV.clean, cleanL, AV.only])) ?_
 refine x_pure rfl (p_assign_bad) ?_
 first | refine aops_end ?_ | refine aops_nil ?_
 refine hK1 _ ?_
 refine aw_seq_k (fun K2 hK2 => ?_)
 refine aw_region ?_
 first | refine x_pure rfl (p_fld_adr rfl Try.fd42_0 Try.c3 rfl) ?_ | refine x_pure rfl (p_fld_ref rfl Try.fd42_0 Try.c3 rfl) ?_
 first | refine x_pure rfl (p_load1 rfl Try.g3 rfl) ?_ | refine x_pure rfl (p_load1r rfl Try.g3 rfl rfl) ?_ | refine x_pure rfl (p_load1r rfl Try.g3 rfl (strs_ref (by simp only [List.length_cons] at *; omega))) ?_ | refine x_pure rfl (p_load1r rfl Try.g3 rfl (strs_ref (by omega))) ?_
 first | refine x_pure rfl (p_fld_adr rfl Try.fd42_0 Try.c3 rfl) ?_ | refine x_pure rfl (p_fld_ref rfl Try.fd42_0 Try.c3 rfl) ?_
 first | refine x_pure rfl (p_load1 rfl Try.g3 rfl) ?_ | refine x_pure rfl (p_load1r rfl Try.g3 rfl rfl) ?_ | refine x_pure rfl (p_load1r rfl Try.g3 rfl (strs_ref (by simp only [List.length_cons] at *; omega))) ?_ | refine x_pure rfl (p_load1r rfl Try.g3 rfl (strs_ref (by omega))) ?_
 refine x_step hf rfl (r_call rfl rfl Try.ent63 rfl (compare_den _ _)) ?_
 refine x_pure rfl (p_assign rfl) ?_
 first | refine aops_end ?_ | refine aops_nil ?_
 refine hK2 _ ?_
 refine aw_ret ?_
 refine ⟨_, rfl, ?_⟩
 rfl
end Go.Proofs.Ytcjchfocohagdaa
