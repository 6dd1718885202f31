import Derived.Test.YtcjchfocohagdaaSW8
set_option linter.unusedVariables false
set_option linter.unusedSimpArgs false
namespace Go.Proofs.Ytcjchfocohagdaa
open Go Go.Abs

set_option maxRecDepth 20000 in
set_option maxHeartbeats 8000000 in
theorem sessOpens_den (l : List Se) (e : Se) (hl : l.length * 40 ≤ 140737488351232) (ht : ∀ e ∈ l, TS e.1.2) (he : TS e.1.2)  : Den Try.prog 3 [.sl 4 (l.map seC), .agg (seC e)]  (· = .s (.bool true)) := by
 refine den_of_aw Try.func3 rfl (Nat.le_of_ble_eq_true rfl) (fun w0 A hf => ?_)
 refine aw_seq_k (fun K1 hK1 => ?_)
 refine aw_region ?_
 refine x_step hf rfl (r_box rfl rfl (by simp [seC, AV.cells, AV.leaf, Value.oneCell', splice, AV.kill, AV.clean, cleanL, AV.only])) ?_
 refine x_pure rfl (p_assign_bad) ?_
 first | refine aops_end ?_ | refine aops_nil ?_
 refine hK1 _ ?_
 refine aw_seq_k (fun K2 hK2 => ?_)
 refine aw_seq_k (fun K3 hK3 => ?_)
 refine aw_region ?_
 refine x_pure rfl (p_move rfl) ?_
 first | refine x_pure rfl (p_len_sl rfl Try.e22) ?_ | refine x_pure rfl (p_len_own rfl Try.e22) ?_ | refine x_pure rfl (p_len_nil rfl Try.e22) ?_
 refine x_pure rfl (p_bin rfl rfl rfl) ?_
 first | refine aops_end ?_ | refine aops_nil ?_
 refine hK3 _ ?_
 refine aw_cond_s rfl (fun hc1 => ?_) (fun hc1 => ?_)
 ·
  try simp only [bs] at hc1
  refine aw_seq_k (fun K4 hK4 => ?_)
  refine aw_region ?_
  refine x_step hf rfl (r_call rfl rfl Try.ent10 rfl (alive10_den)) ?_
  refine x_pure rfl (p_assign rfl) ?_
  first | refine aops_end ?_ | refine aops_nil ?_
  refine hK4 _ ?_
  refine aw_ret ?_
  refine ⟨_, rfl, ?_⟩
  rfl
 ·
  try simp only [bs] at hc1
  refine aw_skip ?_
  refine hK2 _ ?_
  refine aw_seq_k (fun K5 hK5 => ?_)
  refine aw_region ?_
  refine x_pure rfl (p_move rfl) ?_
  refine x_step hf rfl (r_call rfl rfl Try.ent11 rfl (news10_den _ (by omega))) ?_
  refine x_pure rfl (p_assign rfl) ?_
  first | refine aops_end ?_ | refine aops_nil ?_
  refine hK5 _ ?_
  refine aw_seq_k (fun K6 hK6 => ?_)
  refine aw_region ?_
  have hq := opnR_len l e
  refine x_pure rfl (p_move rfl) ?_
  first | refine x_pure rfl (p_loads rfl Try.g24 Try.c24 rfl rfl) ?_ | refine x_pure rfl (p_loadsr rfl Try.g24 Try.c24 rfl rfl rfl) ?_
  refine x_step hf rfl (r_call rfl rfl Try.ent12 rfl (open10_den l e (by omega))) ?_
  refine x_pure rfl (p_move rfl) ?_
  refine x_pure rfl (p_extract rfl rfl) ?_
  refine x_pure rfl (p_extract rfl rfl) ?_
  refine x_pure rfl (p_assign rfl) ?_
  refine x_pure rfl (p_assign rfl) ?_
  first | refine aops_end ?_ | refine aops_nil ?_
  refine hK6 _ ?_
  refine aw_seq_k (fun K7 hK7 => ?_)
  refine aw_region ?_
  refine x_pure rfl (p_move rfl) ?_
  first | refine x_pure rfl (p_loads rfl Try.g24 Try.c24 rfl rfl) ?_ | refine x_pure rfl (p_loadsr rfl Try.g24 Try.c24 rfl rfl rfl) ?_
  refine x_step hf rfl (r_call rfl rfl Try.ent13 rfl (refOpen10_den l e (by omega))) ?_
  refine x_pure rfl (p_move rfl) ?_
  refine x_pure rfl (p_extract rfl rfl) ?_
  refine x_pure rfl (p_extract rfl rfl) ?_
  refine x_pure rfl (p_assign rfl) ?_
  refine x_pure rfl (p_assign rfl) ?_
  first | refine aops_end ?_ | refine aops_nil ?_
  refine hK7 _ ?_
  refine aw_seq_k (fun K8 hK8 => ?_)
  refine aw_region ?_
  refine x_step hf rfl (r_call rfl rfl Try.ent10 rfl (alive10_den)) ?_
  refine x_pure rfl (p_move rfl) ?_
  refine x_guard_t rfl rfl rfl ?_
  refine x_pure rfl (p_move rfl) ?_
  refine x_guard_t rfl rfl rfl ?_
  refine x_step hf rfl (r_call rfl rfl Try.ent15 rfl (olds10_den _ (by omega))) ?_
  refine x_guard_t rfl rfl rfl ?_
  refine x_pure rfl (p_move rfl) ?_
  refine x_guard_t rfl rfl rfl ?_
  refine x_step hf rfl (r_call rfl rfl Try.ent14 rfl (refSame10T_den _ _ rfl (by omega))) ?_
  refine x_pure rfl (p_pick_t rfl rfl) ?_
  refine x_pure rfl (p_move rfl) ?_
  refine x_guard_t rfl rfl rfl ?_
  refine x_pure rfl (p_move rfl) ?_
  refine x_guard_t rfl rfl rfl ?_
  refine x_pure rfl (p_move rfl) ?_
  refine x_guard_t rfl rfl rfl ?_
  refine x_pure rfl (p_bin rfl rfl (inteq_t (rfl))) ?_
  refine x_pure rfl (p_pick_t rfl rfl) ?_
  refine x_pure rfl (p_move rfl) ?_
  refine x_guard_t rfl rfl rfl ?_
  refine x_pure rfl (p_move rfl) ?_
  refine x_guard_t rfl rfl rfl ?_
  refine x_step hf rfl (r_call rfl rfl Try.ent15 rfl (olds10_den _ (by omega))) ?_
  refine x_guard_t rfl rfl rfl ?_
  refine x_pure rfl (p_move rfl) ?_
  refine x_guard_t rfl rfl rfl ?_
  refine x_step hf rfl (r_call rfl rfl Try.ent14 rfl (refSame10T_den _ _ rfl (by omega))) ?_
  refine x_pure rfl (p_pick_t rfl rfl) ?_
  refine x_pure rfl (p_move rfl) ?_
  refine x_guard_t rfl rfl rfl ?_
  refine x_pure rfl (p_move rfl) ?_
  refine x_guard_t rfl rfl rfl ?_
  refine x_pure rfl (p_bin rfl rfl rfl) ?_
  refine x_guard_t rfl rfl rfl ?_
  refine x_pure rfl (p_move rfl) ?_
  refine y_guard_s rfl rfl rfl (fun hg2 => ?_) (fun hg2 => ?_)
  ·
   try simp only [bs] at hg2
   refine x_pure rfl (p_move rfl) ?_
   refine x_guard_t rfl rfl rfl ?_
   refine x_step hf rfl (r_call rfl rfl Try.ent16 rfl (refRising10_den _ (by omega) (by assumption))) ?_
   refine x_guard_t rfl rfl rfl ?_
   refine x_pure rfl (p_not rfl) ?_
   refine x_guard_t rfl rfl rfl ?_
   refine x_pure rfl (p_pick_f rfl rfl) ?_
   refine x_guard_t rfl rfl rfl ?_
   refine x_pure rfl (p_move rfl) ?_
   refine y_guard_s rfl rfl rfl (fun hg3 => ?_) (fun hg3 => ?_)
   ·
    try simp only [bs] at hg3
    first | refine x_pure rfl (p_loads rfl Try.g24 Try.c24 rfl rfl) ?_ | refine x_pure rfl (p_loadsr rfl Try.g24 Try.c24 rfl rfl rfl) ?_
    refine x_guard_t rfl rfl rfl ?_
    refine x_step hf rfl (r_buildSlice Try.ap22 rfl rfl rfl rfl (by simp [seC, AV.cells, AV.leaf, Value.oneCell', splice, AV.kill, AV.clean, cleanL, AV.only])) ?_
    refine x_guard_t rfl rfl rfl ?_
    refine x_step hf rfl (r_call rfl rfl Try.ent16 rfl (refRising10_den [e] (by simp) (fun x hx => by rw [List.mem_singleton.1 hx]; exact he))) ?_
    refine x_guard_t rfl rfl rfl ?_
    refine x_pure rfl (p_not rfl) ?_
    refine x_guard_t rfl rfl rfl ?_
    refine x_pure rfl (p_pick_f rfl rfl) ?_
    refine x_guard_t rfl rfl rfl ?_
    refine x_pure rfl (p_move rfl) ?_
    refine y_guard_s rfl rfl rfl (fun hg4 => ?_) (fun hg4 => ?_)
    ·
     try simp only [bs] at hg4
     refine x_pure rfl (p_move rfl) ?_
     refine x_guard_t rfl rfl rfl ?_
     refine x_step hf rfl (r_call rfl rfl Try.ent17 rfl ((show Den Try.prog _ _ (· = .s (.bool true)) from den_is (rising10_den (opnR l e) (by omega) (opnR_ts ht he)) (by rw [opn_risR (by first | assumption | (simp_all; done)) (by first | assumption | (simp_all; done)) (by first | assumption | (simp_all; done))])))) ?_
     refine x_guard_t rfl rfl rfl ?_
     refine x_pure rfl (p_pick_f rfl rfl) ?_
     refine x_pure rfl (p_pick_t rfl rfl) ?_
     refine x_pure rfl (p_assign rfl) ?_
     first | refine aops_end ?_ | refine aops_nil ?_
     refine hK8 _ ?_
     refine aw_ret ?_
     refine ⟨_, rfl, ?_⟩
     rfl
    ·
     try simp only [bs] at hg4
     refine x_guard_f rfl rfl rfl ?_
     refine x_guard_t rfl rfl rfl ?_
     refine x_pure rfl (p_pick_t rfl rfl) ?_
     refine x_pure rfl (p_pick_t rfl rfl) ?_
     refine x_pure rfl (p_assign rfl) ?_
     first | refine aops_end ?_ | refine aops_nil ?_
     refine hK8 _ ?_
     refine aw_ret ?_
     refine ⟨_, rfl, ?_⟩
     rfl
   ·
    try simp only [bs] at hg3
    refine x_guard_f rfl rfl rfl ?_
    refine x_guard_f rfl rfl rfl ?_
    refine x_guard_f rfl rfl rfl ?_
    refine x_guard_t rfl rfl rfl ?_
    refine x_pure rfl (p_pick_t rfl rfl) ?_
    refine x_guard_t rfl rfl rfl ?_
    refine x_pure rfl (p_move rfl) ?_
    refine x_guard_f rfl rfl rfl ?_
    refine x_guard_f rfl rfl rfl ?_
    refine x_guard_t rfl rfl rfl ?_
    refine x_pure rfl (p_pick_t rfl rfl) ?_
    refine x_pure rfl (p_pick_t rfl rfl) ?_
    refine x_pure rfl (p_assign rfl) ?_
    first | refine aops_end ?_ | refine aops_nil ?_
    refine hK8 _ ?_
    refine aw_ret ?_
    refine ⟨_, rfl, ?_⟩
    rfl
  ·
   try simp only [bs] at hg2
   refine x_guard_f rfl rfl rfl ?_
   refine x_guard_f rfl rfl rfl ?_
   refine x_guard_t rfl rfl rfl ?_
   refine x_pure rfl (p_pick_t rfl rfl) ?_
   refine x_guard_t rfl rfl rfl ?_
   refine x_pure rfl (p_move rfl) ?_
   refine x_guard_f rfl rfl rfl ?_
   refine x_guard_f rfl rfl rfl ?_
   refine x_guard_f rfl rfl rfl ?_
   refine x_guard_f rfl rfl rfl ?_
   refine x_guard_t rfl rfl rfl ?_
   refine x_pure rfl (p_pick_t rfl rfl) ?_
   refine x_guard_t rfl rfl rfl ?_
   refine x_pure rfl (p_move rfl) ?_
   refine x_guard_f rfl rfl rfl ?_
   refine x_guard_f rfl rfl rfl ?_
   refine x_guard_t rfl rfl rfl ?_
   refine x_pure rfl (p_pick_t rfl rfl) ?_
   refine x_pure rfl (p_pick_t rfl rfl) ?_
   refine x_pure rfl (p_assign rfl) ?_
   first | refine aops_end ?_ | refine aops_nil ?_
   refine hK8 _ ?_
   refine aw_ret ?_
   refine ⟨_, rfl, ?_⟩
   rfl

set_option maxRecDepth 20000 in
set_option maxHeartbeats 8000000 in
theorem sessChanges_den (l : List Se) (w : Se) (hl : l.length * 40 ≤ 140737488351232)  : Den Try.prog 4 [.sl 4 (l.map seC), .agg (seC w)]  (· = .s (.bool true)) := by
 refine den_of_aw Try.func4 rfl (Nat.le_of_ble_eq_true rfl) (fun w0 A hf => ?_)
 refine aw_seq_k (fun K1 hK1 => ?_)
 refine aw_region ?_
 refine x_step hf rfl (r_box rfl rfl (by simp [seC, stC, spC, AV.cells, AV.leaf, Value.oneCell', splice, AV.kill, AV.clean, cleanL, AV.only])) ?_
 refine x_pure rfl (p_assign_bad) ?_
 first | refine aops_end ?_ | refine aops_nil ?_
 refine hK1 _ ?_
 refine aw_seq_k (fun K2 hK2 => ?_)
 refine aw_seq_k (fun K3 hK3 => ?_)
 refine aw_region ?_
 refine x_pure rfl (p_move rfl) ?_
 first | refine x_pure rfl (p_len_sl rfl Try.e22) ?_ | refine x_pure rfl (p_len_own rfl Try.e22) ?_ | refine x_pure rfl (p_len_nil rfl Try.e22) ?_
 refine x_pure rfl (p_bin rfl rfl rfl) ?_
 first | refine aops_end ?_ | refine aops_nil ?_
 refine hK3 _ ?_
 refine aw_cond_s rfl (fun hc1 => ?_) (fun hc1 => ?_)
 ·
  try simp only [bs] at hc1
  refine aw_seq_k (fun K4 hK4 => ?_)
  refine aw_region ?_
  refine x_step hf rfl (r_call rfl rfl Try.ent10 rfl (alive10_den)) ?_
  refine x_pure rfl (p_assign rfl) ?_
  first | refine aops_end ?_ | refine aops_nil ?_
  refine hK4 _ ?_
  refine aw_ret ?_
  refine ⟨_, rfl, ?_⟩
  rfl
 ·
  try simp only [bs] at hc1
  refine aw_skip ?_
  refine hK2 _ ?_
  refine aw_seq_k (fun K5 hK5 => ?_)
  refine aw_region ?_
  refine x_pure rfl (p_move rfl) ?_
  refine x_step hf rfl (r_call rfl rfl Try.ent11 rfl (news10_den _ (by omega))) ?_
  refine x_pure rfl (p_assign rfl) ?_
  first | refine aops_end ?_ | refine aops_nil ?_
  refine hK5 _ ?_
  refine aw_seq_k (fun K6 hK6 => ?_)
  refine aw_region ?_
  have hq := chgR_len l w.1.1 w.1.2 w.2.1 w.2.2
  refine x_pure rfl (p_move rfl) ?_
  first | refine x_pure rfl (p_fld_adr rfl Try.fd40_0 Try.c3 rfl) ?_ | refine x_pure rfl (p_fld_ref rfl Try.fd40_0 Try.c3 rfl) ?_
  first | refine x_pure rfl (p_load1 rfl Try.g3 rfl) ?_ | refine x_pure rfl (p_load1r rfl Try.g3 rfl rfl) ?_ | refine x_pure rfl (p_load1r rfl Try.g3 rfl (strs_ref (by simp only [List.length_cons] at *; omega))) ?_ | refine x_pure rfl (p_load1r rfl Try.g3 rfl (strs_ref (by omega))) ?_
  first | refine x_pure rfl (p_fld_adr rfl Try.fd40_1 Try.c9 rfl) ?_ | refine x_pure rfl (p_fld_ref rfl Try.fd40_1 Try.c9 rfl) ?_
  first | refine x_pure rfl (p_load1 rfl Try.g9 rfl) ?_ | refine x_pure rfl (p_load1r rfl Try.g9 rfl rfl) ?_ | refine x_pure rfl (p_load1r rfl Try.g9 rfl (strs_ref (by simp only [List.length_cons] at *; omega))) ?_ | refine x_pure rfl (p_load1r rfl Try.g9 rfl (strs_ref (by omega))) ?_
  first | refine x_pure rfl (p_fld_adr rfl Try.fd40_2 Try.c3 rfl) ?_ | refine x_pure rfl (p_fld_ref rfl Try.fd40_2 Try.c3 rfl) ?_
  first | refine x_pure rfl (p_load1 rfl Try.g3 rfl) ?_ | refine x_pure rfl (p_load1r rfl Try.g3 rfl rfl) ?_ | refine x_pure rfl (p_load1r rfl Try.g3 rfl (strs_ref (by simp only [List.length_cons] at *; omega))) ?_ | refine x_pure rfl (p_load1r rfl Try.g3 rfl (strs_ref (by omega))) ?_
  first | refine x_pure rfl (p_fld_adr rfl Try.fd40_3 Try.c3 rfl) ?_ | refine x_pure rfl (p_fld_ref rfl Try.fd40_3 Try.c3 rfl) ?_
  first | refine x_pure rfl (p_load1 rfl Try.g3 rfl) ?_ | refine x_pure rfl (p_load1r rfl Try.g3 rfl rfl) ?_ | refine x_pure rfl (p_load1r rfl Try.g3 rfl (strs_ref (by simp only [List.length_cons] at *; omega))) ?_ | refine x_pure rfl (p_load1r rfl Try.g3 rfl (strs_ref (by omega))) ?_
  refine x_step hf rfl (r_call rfl rfl Try.ent18 rfl (change10_den l w.1.1 w.1.2 w.2.1 w.2.2 (by omega))) ?_
  refine x_pure rfl (p_move rfl) ?_
  refine x_pure rfl (p_extract rfl rfl) ?_
  refine x_pure rfl (p_extract rfl rfl) ?_
  refine x_pure rfl (p_extract rfl rfl) ?_
  refine x_alloc hf rfl rfl rfl Try.z44 ?_
  refine x_pure rfl (p_assign rfl) ?_
  refine x_store hf rfl rfl Try.c44 rfl rfl (by simp [seC, stC, spC, AV.cells, AV.one, Value.oneCell', splice, AV.kill, AV.clean, cleanL, AV.only]) (by simp [seC, stC, spC, AV.cells, AV.leaf, Value.oneCell', splice, AV.kill, AV.clean, cleanL, AV.only]) rfl ?_
  refine aops_le (le_keep (nee 7) (sl' := [(0, _), (3, _), (5, _), (6, _), (7, _), (35, _)]) (m' := []) ⟨⟨_, rfl, rfl⟩, ⟨_, rfl, rfl⟩, ⟨_, rfl, rfl⟩, ⟨_, rfl, rfl⟩, ⟨_, rfl, rfl⟩, ⟨_, rfl, rfl⟩, trivial⟩ rfl) ?_
  refine x_pure rfl (p_assign rfl) ?_
  first | refine aops_end ?_ | refine aops_nil ?_
  refine hK6 _ ?_
  refine aw_seq_k (fun K7 hK7 => ?_)
  refine aw_region ?_
  refine x_pure rfl (p_move rfl) ?_
  first | refine x_pure rfl (p_fld_adr rfl Try.fd40_0 Try.c3 rfl) ?_ | refine x_pure rfl (p_fld_ref rfl Try.fd40_0 Try.c3 rfl) ?_
  first | refine x_pure rfl (p_load1 rfl Try.g3 rfl) ?_ | refine x_pure rfl (p_load1r rfl Try.g3 rfl rfl) ?_ | refine x_pure rfl (p_load1r rfl Try.g3 rfl (strs_ref (by simp only [List.length_cons] at *; omega))) ?_ | refine x_pure rfl (p_load1r rfl Try.g3 rfl (strs_ref (by omega))) ?_
  first | refine x_pure rfl (p_fld_adr rfl Try.fd40_1 Try.c9 rfl) ?_ | refine x_pure rfl (p_fld_ref rfl Try.fd40_1 Try.c9 rfl) ?_
  first | refine x_pure rfl (p_load1 rfl Try.g9 rfl) ?_ | refine x_pure rfl (p_load1r rfl Try.g9 rfl rfl) ?_ | refine x_pure rfl (p_load1r rfl Try.g9 rfl (strs_ref (by simp only [List.length_cons] at *; omega))) ?_ | refine x_pure rfl (p_load1r rfl Try.g9 rfl (strs_ref (by omega))) ?_
  first | refine x_pure rfl (p_fld_adr rfl Try.fd40_2 Try.c3 rfl) ?_ | refine x_pure rfl (p_fld_ref rfl Try.fd40_2 Try.c3 rfl) ?_
  first | refine x_pure rfl (p_load1 rfl Try.g3 rfl) ?_ | refine x_pure rfl (p_load1r rfl Try.g3 rfl rfl) ?_ | refine x_pure rfl (p_load1r rfl Try.g3 rfl (strs_ref (by simp only [List.length_cons] at *; omega))) ?_ | refine x_pure rfl (p_load1r rfl Try.g3 rfl (strs_ref (by omega))) ?_
  first | refine x_pure rfl (p_fld_adr rfl Try.fd40_3 Try.c3 rfl) ?_ | refine x_pure rfl (p_fld_ref rfl Try.fd40_3 Try.c3 rfl) ?_
  first | refine x_pure rfl (p_load1 rfl Try.g3 rfl) ?_ | refine x_pure rfl (p_load1r rfl Try.g3 rfl rfl) ?_ | refine x_pure rfl (p_load1r rfl Try.g3 rfl (strs_ref (by simp only [List.length_cons] at *; omega))) ?_ | refine x_pure rfl (p_load1r rfl Try.g3 rfl (strs_ref (by omega))) ?_
  refine x_step hf rfl (r_call rfl rfl Try.ent19 rfl (refChange10_den l w.1.1 w.1.2 w.2.1 w.2.2 (by omega))) ?_
  refine x_pure rfl (p_move rfl) ?_
  refine x_pure rfl (p_extract rfl rfl) ?_
  refine x_pure rfl (p_extract rfl rfl) ?_
  refine x_pure rfl (p_extract rfl rfl) ?_
  refine x_alloc hf rfl rfl rfl Try.z48 ?_
  refine x_pure rfl (p_assign rfl) ?_
  refine x_store hf rfl rfl Try.c48 rfl rfl (by simp [seC, stC, spC, AV.cells, AV.one, Value.oneCell', splice, AV.kill, AV.clean, cleanL, AV.only]) (by simp [seC, stC, spC, AV.cells, AV.leaf, Value.oneCell', splice, AV.kill, AV.clean, cleanL, AV.only]) rfl ?_
  refine aops_le (le_keep (nee 10) (sl' := [(0, _), (3, _), (5, _), (6, _), (7, _), (8, _), (9, _), (10, _), (49, _)]) (m' := []) ⟨⟨_, rfl, rfl⟩, ⟨_, rfl, rfl⟩, ⟨_, rfl, rfl⟩, ⟨_, rfl, rfl⟩, ⟨_, rfl, rfl⟩, ⟨_, rfl, rfl⟩, ⟨_, rfl, rfl⟩, ⟨_, rfl, rfl⟩, ⟨_, rfl, rfl⟩, trivial⟩ rfl) ?_
  refine x_pure rfl (p_assign rfl) ?_
  first | refine aops_end ?_ | refine aops_nil ?_
  refine hK7 _ ?_
  refine aw_seq_k (fun K8 hK8 => ?_)
  refine aw_region ?_
  refine x_pure rfl (p_move rfl) ?_
  first | refine x_pure rfl (p_fld_adr rfl Try.fd40_0 Try.c3 rfl) ?_ | refine x_pure rfl (p_fld_ref rfl Try.fd40_0 Try.c3 rfl) ?_
  first | refine x_pure rfl (p_load1 rfl Try.g3 rfl) ?_ | refine x_pure rfl (p_load1r rfl Try.g3 rfl rfl) ?_ | refine x_pure rfl (p_load1r rfl Try.g3 rfl (strs_ref (by simp only [List.length_cons] at *; omega))) ?_ | refine x_pure rfl (p_load1r rfl Try.g3 rfl (strs_ref (by omega))) ?_
  first | refine x_pure rfl (p_fld_adr rfl Try.fd40_1 Try.c9 rfl) ?_ | refine x_pure rfl (p_fld_ref rfl Try.fd40_1 Try.c9 rfl) ?_
  first | refine x_pure rfl (p_load1 rfl Try.g9 rfl) ?_ | refine x_pure rfl (p_load1r rfl Try.g9 rfl rfl) ?_ | refine x_pure rfl (p_load1r rfl Try.g9 rfl (strs_ref (by simp only [List.length_cons] at *; omega))) ?_ | refine x_pure rfl (p_load1r rfl Try.g9 rfl (strs_ref (by omega))) ?_
  refine x_step hf rfl (r_call rfl rfl Try.ent20 rfl (find10_den l w.1.1 w.1.2 (by omega))) ?_
  refine x_pure rfl (p_move rfl) ?_
  refine x_pure rfl (p_extract rfl rfl) ?_
  refine x_pure rfl (p_extract rfl rfl) ?_
  refine x_allocst hf rfl Try.z31 rfl Try.c31 rfl rfl rfl rfl (by simp [seC, stC, spC, AV.cells, AV.leaf, Value.oneCell', splice, AV.kill, AV.clean, cleanL, AV.only]) ?_
  refine x_pure rfl (p_assign rfl) ?_
  first | refine aops_end ?_ | refine aops_nil ?_
  refine hK8 _ ?_
  refine aw_seq_k (fun K9 hK9 => ?_)
  refine aw_region ?_
  refine x_pure rfl (p_move rfl) ?_
  first | refine x_pure rfl (p_fld_adr rfl Try.fd40_0 Try.c3 rfl) ?_ | refine x_pure rfl (p_fld_ref rfl Try.fd40_0 Try.c3 rfl) ?_
  first | refine x_pure rfl (p_load1 rfl Try.g3 rfl) ?_ | refine x_pure rfl (p_load1r rfl Try.g3 rfl rfl) ?_ | refine x_pure rfl (p_load1r rfl Try.g3 rfl (strs_ref (by simp only [List.length_cons] at *; omega))) ?_ | refine x_pure rfl (p_load1r rfl Try.g3 rfl (strs_ref (by omega))) ?_
  first | refine x_pure rfl (p_fld_adr rfl Try.fd40_1 Try.c9 rfl) ?_ | refine x_pure rfl (p_fld_ref rfl Try.fd40_1 Try.c9 rfl) ?_
  first | refine x_pure rfl (p_load1 rfl Try.g9 rfl) ?_ | refine x_pure rfl (p_load1r rfl Try.g9 rfl rfl) ?_ | refine x_pure rfl (p_load1r rfl Try.g9 rfl (strs_ref (by simp only [List.length_cons] at *; omega))) ?_ | refine x_pure rfl (p_load1r rfl Try.g9 rfl (strs_ref (by omega))) ?_
  refine x_step hf rfl (r_call rfl rfl Try.ent21 rfl (refFind10_den l w.1.1 w.1.2 (by omega))) ?_
  refine x_pure rfl (p_move rfl) ?_
  refine x_pure rfl (p_extract rfl rfl) ?_
  refine x_pure rfl (p_extract rfl rfl) ?_
  refine x_allocst hf rfl Try.z24 rfl Try.c24 rfl rfl rfl rfl (by simp [seC, stC, spC, AV.cells, AV.leaf, Value.oneCell', splice, AV.kill, AV.clean, cleanL, AV.only]) ?_
  refine x_pure rfl (p_assign rfl) ?_
  first | refine aops_end ?_ | refine aops_nil ?_
  refine hK9 _ ?_
  refine aw_seq_k (fun K10 hK10 => ?_)
  refine aw_draw hf Try.mixed (by kernel_rfl) rfl ?_
  refine d_rstep [] rfl rfl trivial rfl (r_call rfl rfl Try.ent10 rfl (alive10_den)) ?_
  refine d_pure [(68, _)] rfl rfl ⟨⟨rfl, rfl⟩, trivial⟩ rfl (p_move rfl) ?_
  refine d_pure [(6, _)] rfl rfl ⟨⟨rfl, rfl⟩, trivial⟩ rfl (p_move rfl) ?_
  refine d_rstep [(70, _)] rfl rfl ⟨⟨rfl, rfl⟩, trivial⟩ rfl (r_call rfl rfl Try.ent15 rfl (olds10_den _ (by omega))) ?_
  refine d_pure [(9, _)] rfl rfl ⟨⟨rfl, rfl⟩, trivial⟩ rfl (p_move rfl) ?_
  refine d_rstep [(71, _), (72, _)] rfl rfl ⟨⟨rfl, rfl⟩, ⟨rfl, rfl⟩, trivial⟩ rfl (r_call rfl rfl Try.ent14 rfl (refSame10T_den _ _ rfl (by omega))) ?_
  refine d_pure [(69, _), (73, _)] rfl rfl ⟨⟨rfl, rfl⟩, ⟨rfl, rfl⟩, trivial⟩ rfl (p_pick_t rfl rfl) ?_
  refine d_pure [(74, _)] rfl rfl ⟨⟨rfl, rfl⟩, trivial⟩ rfl (p_move rfl) ?_
  first | refine d_pure [(7, _)] rfl rfl ⟨⟨rfl, rfl⟩, trivial⟩ rfl (p_loads rfl Try.g44 Try.c44 rfl rfl) ?_ | refine d_pure [(7, _)] rfl rfl ⟨⟨rfl, rfl⟩, trivial⟩ rfl (p_loadsr rfl Try.g44 Try.c44 rfl rfl rfl) ?_
  refine d_rstep [(76, _)] rfl rfl ⟨⟨rfl, rfl⟩, trivial⟩ rfl (r_call rfl rfl Try.ent22 rfl (oldS_den (stR l w.1.1 w.1.2 w.2.2))) ?_
  first | refine d_pure [(10, _)] rfl rfl ⟨⟨rfl, rfl⟩, trivial⟩ rfl (p_loads rfl Try.g48 Try.c48 rfl rfl) ?_ | refine d_pure [(10, _)] rfl rfl ⟨⟨rfl, rfl⟩, trivial⟩ rfl (p_loadsr rfl Try.g48 Try.c48 rfl rfl rfl) ?_
  refine d_pure [(77, _), (78, _)] rfl rfl ⟨⟨rfl, rfl⟩, ⟨rfl, rfl⟩, trivial⟩ rfl (p_eqagg rfl rfl Try.q48 (aeq_stE (x := stR l w.1.1 w.1.2 w.2.2) rfl)) ?_
  refine d_pure [(75, _), (79, _)] rfl rfl ⟨⟨rfl, rfl⟩, ⟨rfl, rfl⟩, trivial⟩ rfl (p_pick_t rfl rfl) ?_
  refine d_pure [(80, _)] rfl rfl ⟨⟨rfl, rfl⟩, trivial⟩ rfl (p_move rfl) ?_
  refine d_pure [(8, _)] rfl rfl ⟨⟨rfl, rfl⟩, trivial⟩ rfl (p_move rfl) ?_
  refine d_pure [(11, _)] rfl rfl ⟨⟨rfl, rfl⟩, trivial⟩ rfl (p_move rfl) ?_
  refine d_pure [(82, _), (83, _)] rfl rfl ⟨⟨rfl, rfl⟩, ⟨rfl, rfl⟩, trivial⟩ rfl (p_bin rfl rfl (inteq_t (rfl))) ?_
  refine d_pure [(81, _), (84, _)] rfl rfl ⟨⟨rfl, rfl⟩, ⟨rfl, rfl⟩, trivial⟩ rfl (p_pick_t rfl rfl) ?_
  refine d_pure [(85, _)] rfl rfl ⟨⟨rfl, rfl⟩, trivial⟩ rfl (p_move rfl) ?_
  first | refine d_pure [(12, _)] rfl rfl ⟨⟨rfl, rfl⟩, trivial⟩ rfl (p_loads rfl Try.g31 Try.c31 rfl rfl) ?_ | refine d_pure [(12, _)] rfl rfl ⟨⟨rfl, rfl⟩, trivial⟩ rfl (p_loadsr rfl Try.g31 Try.c31 rfl rfl rfl) ?_
  first | refine d_pure [(14, _)] rfl rfl ⟨⟨rfl, rfl⟩, trivial⟩ rfl (p_loads rfl Try.g24 Try.c24 rfl rfl) ?_ | refine d_pure [(14, _)] rfl rfl ⟨⟨rfl, rfl⟩, trivial⟩ rfl (p_loadsr rfl Try.g24 Try.c24 rfl rfl rfl) ?_
  refine d_pure [(87, _), (88, _)] rfl rfl ⟨⟨rfl, rfl⟩, ⟨rfl, rfl⟩, trivial⟩ rfl (p_eqagg rfl rfl Try.q24 (aeq_seE (x := fndR l w.1.1 w.1.2) rfl)) ?_
  refine d_pure [(86, _), (89, _)] rfl rfl ⟨⟨rfl, rfl⟩, ⟨rfl, rfl⟩, trivial⟩ rfl (p_pick_t rfl rfl) ?_
  refine d_pure [(90, _)] rfl rfl ⟨⟨rfl, rfl⟩, trivial⟩ rfl (p_move rfl) ?_
  refine d_pure [(13, _)] rfl rfl ⟨⟨rfl, rfl⟩, trivial⟩ rfl (p_move rfl) ?_
  refine d_pure [(15, _)] rfl rfl ⟨⟨rfl, rfl⟩, trivial⟩ rfl (p_move rfl) ?_
  refine d_pure [(92, _), (93, _)] rfl rfl ⟨⟨rfl, rfl⟩, ⟨rfl, rfl⟩, trivial⟩ rfl (p_bin rfl rfl (inteq_t (rfl))) ?_
  refine d_pure [(91, _), (94, _)] rfl rfl ⟨⟨rfl, rfl⟩, ⟨rfl, rfl⟩, trivial⟩ rfl (p_pick_t rfl rfl) ?_
  refine d_pure [(95, _)] rfl rfl ⟨⟨rfl, rfl⟩, trivial⟩ rfl (p_move rfl) ?_
  refine d_pure [(5, _)] rfl rfl ⟨⟨rfl, rfl⟩, trivial⟩ rfl (p_move rfl) ?_
  refine d_rstep [(97, _)] rfl rfl ⟨⟨rfl, rfl⟩, trivial⟩ rfl (r_call rfl rfl Try.ent15 rfl (olds10_den _ (by omega))) ?_
  refine d_pure [(0, _)] rfl rfl ⟨⟨rfl, rfl⟩, trivial⟩ rfl (p_move rfl) ?_
  refine d_rstep [(98, _), (99, _)] rfl rfl ⟨⟨rfl, rfl⟩, ⟨rfl, rfl⟩, trivial⟩ rfl (r_call rfl rfl Try.ent14 rfl (refSame10T_den _ _ rfl (by omega))) ?_
  refine d_pure [(96, _), (100, _)] rfl rfl ⟨⟨rfl, rfl⟩, ⟨rfl, rfl⟩, trivial⟩ rfl (p_pick_t rfl rfl) ?_
  refine d_pure [(101, _)] rfl rfl ⟨⟨rfl, rfl⟩, trivial⟩ rfl (p_assign rfl) ?_
  refine lex_end (sl' := [(4, _)]) rfl ⟨rfl, trivial⟩ rfl ?_
  refine hK10 _ ?_
  refine aw_ret ?_
  refine ⟨_, rfl, ?_⟩
  rfl

set_option maxRecDepth 20000 in
set_option maxHeartbeats 8000000 in
theorem sessCloses_den (l : List Se) (w : Se) (hl : l.length * 40 ≤ 140737488351232)  : Den Try.prog 5 [.sl 4 (l.map seC), .agg (seC w)]  (· = .s (.bool true)) := by
 refine den_of_aw Try.func5 rfl (Nat.le_of_ble_eq_true rfl) (fun w0 A hf => ?_)
 refine aw_seq_k (fun K1 hK1 => ?_)
 refine aw_region ?_
 refine x_step hf rfl (r_box rfl rfl (by simp [seC, stC, spC, AV.cells, AV.leaf, Value.oneCell', splice, AV.kill, AV.clean, cleanL, AV.only])) ?_
 refine x_pure rfl (p_assign_bad) ?_
 first | refine aops_end ?_ | refine aops_nil ?_
 refine hK1 _ ?_
 refine aw_seq_k (fun K2 hK2 => ?_)
 refine aw_seq_k (fun K3 hK3 => ?_)
 refine aw_region ?_
 refine x_pure rfl (p_move rfl) ?_
 first | refine x_pure rfl (p_len_sl rfl Try.e22) ?_ | refine x_pure rfl (p_len_own rfl Try.e22) ?_ | refine x_pure rfl (p_len_nil rfl Try.e22) ?_
 refine x_pure rfl (p_bin rfl rfl rfl) ?_
 first | refine aops_end ?_ | refine aops_nil ?_
 refine hK3 _ ?_
 refine aw_cond_s rfl (fun hc1 => ?_) (fun hc1 => ?_)
 ·
  try simp only [bs] at hc1
  refine aw_seq_k (fun K4 hK4 => ?_)
  refine aw_region ?_
  refine x_step hf rfl (r_call rfl rfl Try.ent10 rfl (alive10_den)) ?_
  refine x_pure rfl (p_assign rfl) ?_
  first | refine aops_end ?_ | refine aops_nil ?_
  refine hK4 _ ?_
  refine aw_ret ?_
  refine ⟨_, rfl, ?_⟩
  rfl
 ·
  try simp only [bs] at hc1
  refine aw_skip ?_
  refine hK2 _ ?_
  refine aw_seq_k (fun K5 hK5 => ?_)
  refine aw_region ?_
  refine x_pure rfl (p_move rfl) ?_
  refine x_step hf rfl (r_call rfl rfl Try.ent11 rfl (news10_den _ (by omega))) ?_
  refine x_pure rfl (p_assign rfl) ?_
  first | refine aops_end ?_ | refine aops_nil ?_
  refine hK5 _ ?_
  refine aw_seq_k (fun K6 hK6 => ?_)
  refine aw_region ?_
  have hq := clsR_len l w.1.1 w.1.2
  refine x_pure rfl (p_move rfl) ?_
  first | refine x_pure rfl (p_fld_adr rfl Try.fd40_0 Try.c3 rfl) ?_ | refine x_pure rfl (p_fld_ref rfl Try.fd40_0 Try.c3 rfl) ?_
  first | refine x_pure rfl (p_load1 rfl Try.g3 rfl) ?_ | refine x_pure rfl (p_load1r rfl Try.g3 rfl rfl) ?_ | refine x_pure rfl (p_load1r rfl Try.g3 rfl (strs_ref (by simp only [List.length_cons] at *; omega))) ?_ | refine x_pure rfl (p_load1r rfl Try.g3 rfl (strs_ref (by omega))) ?_
  first | refine x_pure rfl (p_fld_adr rfl Try.fd40_1 Try.c9 rfl) ?_ | refine x_pure rfl (p_fld_ref rfl Try.fd40_1 Try.c9 rfl) ?_
  first | refine x_pure rfl (p_load1 rfl Try.g9 rfl) ?_ | refine x_pure rfl (p_load1r rfl Try.g9 rfl rfl) ?_ | refine x_pure rfl (p_load1r rfl Try.g9 rfl (strs_ref (by simp only [List.length_cons] at *; omega))) ?_ | refine x_pure rfl (p_load1r rfl Try.g9 rfl (strs_ref (by omega))) ?_
  first | refine x_pure rfl (p_fld_adr rfl Try.fd40_3 Try.c3 rfl) ?_ | refine x_pure rfl (p_fld_ref rfl Try.fd40_3 Try.c3 rfl) ?_
  first | refine x_pure rfl (p_load1 rfl Try.g3 rfl) ?_ | refine x_pure rfl (p_load1r rfl Try.g3 rfl rfl) ?_ | refine x_pure rfl (p_load1r rfl Try.g3 rfl (strs_ref (by simp only [List.length_cons] at *; omega))) ?_ | refine x_pure rfl (p_load1r rfl Try.g3 rfl (strs_ref (by omega))) ?_
  refine x_step hf rfl (r_call rfl rfl Try.ent23 rfl (close10_den l w.1.1 w.1.2 w.2.2 (by omega))) ?_
  refine x_pure rfl (p_move rfl) ?_
  refine x_pure rfl (p_extract rfl rfl) ?_
  refine x_pure rfl (p_extract rfl rfl) ?_
  refine x_pure rfl (p_extract rfl rfl) ?_
  refine x_alloc hf rfl rfl rfl Try.z44 ?_
  refine x_pure rfl (p_assign rfl) ?_
  refine x_store hf rfl rfl Try.c44 rfl rfl (by simp [seC, stC, spC, AV.cells, AV.one, Value.oneCell', splice, AV.kill, AV.clean, cleanL, AV.only]) (by simp [seC, stC, spC, AV.cells, AV.leaf, Value.oneCell', splice, AV.kill, AV.clean, cleanL, AV.only]) rfl ?_
  refine aops_le (le_keep (nee 7) (sl' := [(0, _), (3, _), (5, _), (6, _), (7, _), (29, _)]) (m' := []) ⟨⟨_, rfl, rfl⟩, ⟨_, rfl, rfl⟩, ⟨_, rfl, rfl⟩, ⟨_, rfl, rfl⟩, ⟨_, rfl, rfl⟩, ⟨_, rfl, rfl⟩, trivial⟩ rfl) ?_
  refine x_pure rfl (p_assign rfl) ?_
  first | refine aops_end ?_ | refine aops_nil ?_
  refine hK6 _ ?_
  refine aw_seq_k (fun K7 hK7 => ?_)
  refine aw_region ?_
  refine x_pure rfl (p_move rfl) ?_
  first | refine x_pure rfl (p_fld_adr rfl Try.fd40_0 Try.c3 rfl) ?_ | refine x_pure rfl (p_fld_ref rfl Try.fd40_0 Try.c3 rfl) ?_
  first | refine x_pure rfl (p_load1 rfl Try.g3 rfl) ?_ | refine x_pure rfl (p_load1r rfl Try.g3 rfl rfl) ?_ | refine x_pure rfl (p_load1r rfl Try.g3 rfl (strs_ref (by simp only [List.length_cons] at *; omega))) ?_ | refine x_pure rfl (p_load1r rfl Try.g3 rfl (strs_ref (by omega))) ?_
  first | refine x_pure rfl (p_fld_adr rfl Try.fd40_1 Try.c9 rfl) ?_ | refine x_pure rfl (p_fld_ref rfl Try.fd40_1 Try.c9 rfl) ?_
  first | refine x_pure rfl (p_load1 rfl Try.g9 rfl) ?_ | refine x_pure rfl (p_load1r rfl Try.g9 rfl rfl) ?_ | refine x_pure rfl (p_load1r rfl Try.g9 rfl (strs_ref (by simp only [List.length_cons] at *; omega))) ?_ | refine x_pure rfl (p_load1r rfl Try.g9 rfl (strs_ref (by omega))) ?_
  first | refine x_pure rfl (p_fld_adr rfl Try.fd40_3 Try.c3 rfl) ?_ | refine x_pure rfl (p_fld_ref rfl Try.fd40_3 Try.c3 rfl) ?_
  first | refine x_pure rfl (p_load1 rfl Try.g3 rfl) ?_ | refine x_pure rfl (p_load1r rfl Try.g3 rfl rfl) ?_ | refine x_pure rfl (p_load1r rfl Try.g3 rfl (strs_ref (by simp only [List.length_cons] at *; omega))) ?_ | refine x_pure rfl (p_load1r rfl Try.g3 rfl (strs_ref (by omega))) ?_
  refine x_step hf rfl (r_call rfl rfl Try.ent24 rfl (refClose10_den l w.1.1 w.1.2 w.2.2 (by omega))) ?_
  refine x_pure rfl (p_move rfl) ?_
  refine x_pure rfl (p_extract rfl rfl) ?_
  refine x_pure rfl (p_extract rfl rfl) ?_
  refine x_pure rfl (p_extract rfl rfl) ?_
  refine x_alloc hf rfl rfl rfl Try.z48 ?_
  refine x_pure rfl (p_assign rfl) ?_
  refine x_store hf rfl rfl Try.c48 rfl rfl (by simp [seC, stC, spC, AV.cells, AV.one, Value.oneCell', splice, AV.kill, AV.clean, cleanL, AV.only]) (by simp [seC, stC, spC, AV.cells, AV.leaf, Value.oneCell', splice, AV.kill, AV.clean, cleanL, AV.only]) rfl ?_
  refine aops_le (le_keep (nee 10) (sl' := [(0, _), (5, _), (6, _), (7, _), (8, _), (9, _), (10, _), (41, _)]) (m' := []) ⟨⟨_, rfl, rfl⟩, ⟨_, rfl, rfl⟩, ⟨_, rfl, rfl⟩, ⟨_, rfl, rfl⟩, ⟨_, rfl, rfl⟩, ⟨_, rfl, rfl⟩, ⟨_, rfl, rfl⟩, ⟨_, rfl, rfl⟩, trivial⟩ rfl) ?_
  refine x_pure rfl (p_assign rfl) ?_
  first | refine aops_end ?_ | refine aops_nil ?_
  refine hK7 _ ?_
  refine aw_seq_k (fun K8 hK8 => ?_)
  refine aw_draw hf Try.mixed (by kernel_rfl) rfl ?_
  refine d_rstep [] rfl rfl trivial rfl (r_call rfl rfl Try.ent10 rfl (alive10_den)) ?_
  refine d_pure [(42, _)] rfl rfl ⟨⟨rfl, rfl⟩, trivial⟩ rfl (p_move rfl) ?_
  refine d_pure [(6, _)] rfl rfl ⟨⟨rfl, rfl⟩, trivial⟩ rfl (p_move rfl) ?_
  refine d_rstep [(44, _)] rfl rfl ⟨⟨rfl, rfl⟩, trivial⟩ rfl (r_call rfl rfl Try.ent15 rfl (olds10_den _ (by omega))) ?_
  refine d_pure [(9, _)] rfl rfl ⟨⟨rfl, rfl⟩, trivial⟩ rfl (p_move rfl) ?_
  refine d_rstep [(45, _), (46, _)] rfl rfl ⟨⟨rfl, rfl⟩, ⟨rfl, rfl⟩, trivial⟩ rfl (r_call rfl rfl Try.ent14 rfl (refSame10T_den _ _ rfl (by omega))) ?_
  refine d_pure [(43, _), (47, _)] rfl rfl ⟨⟨rfl, rfl⟩, ⟨rfl, rfl⟩, trivial⟩ rfl (p_pick_t rfl rfl) ?_
  refine d_pure [(48, _)] rfl rfl ⟨⟨rfl, rfl⟩, trivial⟩ rfl (p_move rfl) ?_
  first | refine d_pure [(7, _)] rfl rfl ⟨⟨rfl, rfl⟩, trivial⟩ rfl (p_loads rfl Try.g44 Try.c44 rfl rfl) ?_ | refine d_pure [(7, _)] rfl rfl ⟨⟨rfl, rfl⟩, trivial⟩ rfl (p_loadsr rfl Try.g44 Try.c44 rfl rfl rfl) ?_
  refine d_rstep [(50, _)] rfl rfl ⟨⟨rfl, rfl⟩, trivial⟩ rfl (r_call rfl rfl Try.ent22 rfl (oldS_den (stR l w.1.1 w.1.2 w.2.2))) ?_
  first | refine d_pure [(10, _)] rfl rfl ⟨⟨rfl, rfl⟩, trivial⟩ rfl (p_loads rfl Try.g48 Try.c48 rfl rfl) ?_ | refine d_pure [(10, _)] rfl rfl ⟨⟨rfl, rfl⟩, trivial⟩ rfl (p_loadsr rfl Try.g48 Try.c48 rfl rfl rfl) ?_
  refine d_pure [(51, _), (52, _)] rfl rfl ⟨⟨rfl, rfl⟩, ⟨rfl, rfl⟩, trivial⟩ rfl (p_eqagg rfl rfl Try.q48 (aeq_stE (x := stR l w.1.1 w.1.2 w.2.2) rfl)) ?_
  refine d_pure [(49, _), (53, _)] rfl rfl ⟨⟨rfl, rfl⟩, ⟨rfl, rfl⟩, trivial⟩ rfl (p_pick_t rfl rfl) ?_
  refine d_pure [(54, _)] rfl rfl ⟨⟨rfl, rfl⟩, trivial⟩ rfl (p_move rfl) ?_
  refine d_pure [(8, _)] rfl rfl ⟨⟨rfl, rfl⟩, trivial⟩ rfl (p_move rfl) ?_
  refine d_pure [(11, _)] rfl rfl ⟨⟨rfl, rfl⟩, trivial⟩ rfl (p_move rfl) ?_
  refine d_pure [(56, _), (57, _)] rfl rfl ⟨⟨rfl, rfl⟩, ⟨rfl, rfl⟩, trivial⟩ rfl (p_bin rfl rfl (inteq_t (rfl))) ?_
  refine d_pure [(55, _), (58, _)] rfl rfl ⟨⟨rfl, rfl⟩, ⟨rfl, rfl⟩, trivial⟩ rfl (p_pick_t rfl rfl) ?_
  refine d_pure [(59, _)] rfl rfl ⟨⟨rfl, rfl⟩, trivial⟩ rfl (p_move rfl) ?_
  refine d_pure [(5, _)] rfl rfl ⟨⟨rfl, rfl⟩, trivial⟩ rfl (p_move rfl) ?_
  refine d_rstep [(61, _)] rfl rfl ⟨⟨rfl, rfl⟩, trivial⟩ rfl (r_call rfl rfl Try.ent15 rfl (olds10_den _ (by omega))) ?_
  refine d_pure [(0, _)] rfl rfl ⟨⟨rfl, rfl⟩, trivial⟩ rfl (p_move rfl) ?_
  refine d_rstep [(62, _), (63, _)] rfl rfl ⟨⟨rfl, rfl⟩, ⟨rfl, rfl⟩, trivial⟩ rfl (r_call rfl rfl Try.ent14 rfl (refSame10T_den _ _ rfl (by omega))) ?_
  refine d_pure [(60, _), (64, _)] rfl rfl ⟨⟨rfl, rfl⟩, ⟨rfl, rfl⟩, trivial⟩ rfl (p_pick_t rfl rfl) ?_
  refine d_pure [(65, _)] rfl rfl ⟨⟨rfl, rfl⟩, trivial⟩ rfl (p_assign rfl) ?_
  refine lex_end (sl' := [(4, _)]) rfl ⟨rfl, trivial⟩ rfl ?_
  refine hK8 _ ?_
  refine aw_ret ?_
  refine ⟨_, rfl, ?_⟩
  rfl
end Go.Proofs.Ytcjchfocohagdaa
