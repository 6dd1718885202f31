import Derived.Test.YtcjchfocohagdaaSW1
set_option linter.unusedVariables false
set_option linter.unusedSimpArgs false
namespace Go.Proofs.Ytcjchfocohagdaa
open Go Go.Abs

set_option maxRecDepth 20000 in
set_option maxHeartbeats 1000000 in
theorem find10_den (l : List Se) (n : Int) (u : ByteArray) (hl : l.length ≤ 9223372036854775807)  : Den Try.prog 20 [.sl 4 (l.map seC), .s (.int .i64 n), .s (.string u)]  (· = .tup [.agg (seC (fndR l n u)), .s (.int .i64 (codeS l n u))]) := by
 refine den_of_aw Try.func20 rfl (Nat.le_of_ble_eq_true rfl) (fun w0 A hf => ?_)
 refine aw_seq_k (fun K1 hK1 => ?_)
 refine aw_region ?_
 refine x_alloc hf rfl rfl rfl Try.z31 ?_
 refine x_pure rfl (p_assign_bad) ?_
 first | refine aops_end ?_ | refine aops_nil ?_
 refine hK1 _ ?_
 refine aw_seq_k (fun K2 hK2 => ?_)
 refine aw_region ?_
 refine x_pure rfl (p_move rfl) ?_
 refine x_pure rfl (p_move rfl) ?_
 refine x_pure rfl (p_move rfl) ?_
 refine x_step hf rfl (r_call rfl rfl Try.ent39 rfl (at10_den _ _ _ (by omega))) ?_
 refine x_pure rfl (p_move rfl) ?_
 refine x_pure rfl (p_extract rfl rfl) ?_
 refine x_pure rfl (p_extract rfl rfl) ?_
 refine x_pure rfl (p_assign rfl) ?_
 refine x_pure rfl (p_assign rfl) ?_
 first | refine aops_end ?_ | refine aops_nil ?_
 refine hK2 _ ?_
 refine aw_seq_k (fun K3 hK3 => ?_)
 refine aw_seq_k (fun K4 hK4 => ?_)
 refine aw_region ?_
 refine x_pure rfl (p_move rfl) ?_
 refine x_pure rfl (p_bin rfl rfl rfl) ?_
 first | refine aops_end ?_ | refine aops_nil ?_
 refine hK4 _ ?_
 refine aw_cond_s rfl (fun hc1 => ?_) (fun hc1 => ?_)
 ·
  try simp only [bs] at hc1
  refine aw_seq_k (fun K5 hK5 => ?_)
  refine aw_region ?_
  refine x_pure rfl (p_build rfl Try.z31 Try.pl31 (by simp [seC, AV.cells, AV.one, Value.oneCell', splice, AV.kill, AV.clean, cleanL, AV.only]) rfl) ?_
  refine x_pure rfl (p_move rfl) ?_
  refine x_store hf rfl rfl Try.c31 rfl rfl (by simp [seC, AV.cells, AV.one, Value.oneCell', splice, AV.kill, AV.clean, cleanL, AV.only]) (by simp [seC, AV.cells, AV.leaf, Value.oneCell', splice, AV.kill, AV.clean, cleanL, AV.only]) rfl ?_
  refine x_pure rfl (p_assign rfl) ?_
  first | refine aops_end ?_ | refine aops_nil ?_
  refine hK5 _ ?_
  refine aw_ret ?_
  refine ⟨_, rfl, ?_⟩
  rw [fndR, if_neg (by assumption)]; rfl
 ·
  try simp only [bs] at hc1
  obtain ⟨k, hk, ek, hk1, hk2, hk3⟩ := code_ok (show codeS l n u = 0 by assumption)
  obtain ⟨c1, c2, c3⟩ := fnd_at hk hk1 hk2 hk3
  obtain ⟨_, _, _, c4, c5⟩ := at_here n u 0 0 l k hk hk3 hk1
  rw [ek]
  refine aw_skip ?_
  refine hK3 _ ?_
  refine aw_seq_k (fun K6 hK6 => ?_)
  refine aw_region ?_
  refine x_pure rfl (p_move rfl) ?_
  refine x_pure rfl (p_move rfl) ?_
  first | refine x_pure rfl (p_idx_sl rfl rfl Try.e26 Try.c31 (by first | assumption | (refine ⟨by omega, ?_⟩; first | assumption | exact strs_at (by omega) | exact strs_at (by simp only [List.length_cons] at *; omega) | exact ints_at (by omega) | exact map_at (by omega) | exact list_at (by omega)) | exact ⟨by decide, rfl⟩)) ?_ | refine x_pure rfl (p_idx_own rfl rfl Try.e26 Try.c31 (by omega)) ?_
  first | refine x_pure rfl (p_loads rfl Try.g31 Try.c31 rfl rfl) ?_ | refine x_pure rfl (p_loadsr rfl Try.g31 Try.c31 rfl rfl rfl) ?_
  refine x_store hf rfl rfl Try.c31 rfl rfl (by simp [seC, AV.cells, AV.one, Value.oneCell', splice, AV.kill, AV.clean, cleanL, AV.only]) (by simp [seC, AV.cells, AV.leaf, Value.oneCell', splice, AV.kill, AV.clean, cleanL, AV.only]) rfl ?_
  refine x_pure rfl (p_assign rfl) ?_
  first | refine aops_end ?_ | refine aops_nil ?_
  refine hK6 _ ?_
  refine aw_ret ?_
  refine ⟨_, rfl, ?_⟩
  rw [fndR, if_pos c1, c1, c2]; rfl

set_option maxRecDepth 20000 in
set_option maxHeartbeats 1000000 in
theorem refFind10_den (l : List Se) (n : Int) (u : ByteArray) (hl : l.length ≤ 9223372036854775807)  : Den Try.prog 21 [.sl 4 (l.map seC), .s (.int .i64 n), .s (.string u)]  (· = .tup [.agg (seC (fndR l n u)), .s (.int .i64 (codeS l n u))]) := by
 refine den_of_aw Try.func21 rfl (Nat.le_of_ble_eq_true rfl) (fun w0 A hf => ?_)
 refine aw_seq_k (fun K1 hK1 => ?_)
 refine aw_region ?_
 refine x_alloc hf rfl rfl rfl Try.z24 ?_
 refine x_pure rfl (p_assign_bad) ?_
 first | refine aops_end ?_ | refine aops_nil ?_
 refine hK1 _ ?_
 refine aw_seq_k (fun K2 hK2 => ?_)
 refine aw_region ?_
 refine x_pure rfl (p_move rfl) ?_
 refine x_pure rfl (p_move rfl) ?_
 refine x_step hf rfl (r_call rfl rfl Try.ent43 rfl (refAt10_den _ _ (by omega))) ?_
 refine x_pure rfl (p_assign rfl) ?_
 first | refine aops_end ?_ | refine aops_nil ?_
 refine hK2 _ ?_
 refine aw_seq_k (fun K3 hK3 => ?_)
 refine aw_seq_k (fun K4 hK4 => ?_)
 refine aw_region ?_
 refine x_pure rfl (p_move rfl) ?_
 refine x_pure rfl (p_bin rfl rfl rfl) ?_
 first | refine aops_end ?_ | refine aops_nil ?_
 refine hK4 _ ?_
 refine aw_cond_s rfl (fun hc1 => ?_) (fun hc1 => ?_)
 ·
  try simp only [bs] at hc1
  refine aw_seq_k (fun K5 hK5 => ?_)
  refine aw_region ?_
  refine x_pure rfl (p_build rfl Try.z24 Try.pl24 (by simp [seC, AV.cells, AV.one, Value.oneCell', splice, AV.kill, AV.clean, cleanL, AV.only]) rfl) ?_
  refine x_store hf rfl rfl Try.c24 rfl rfl (by simp [seC, AV.cells, AV.one, Value.oneCell', splice, AV.kill, AV.clean, cleanL, AV.only]) (by simp [seC, AV.cells, AV.leaf, Value.oneCell', splice, AV.kill, AV.clean, cleanL, AV.only]) rfl ?_
  refine x_pure rfl (p_assign rfl) ?_
  first | refine aops_end ?_ | refine aops_nil ?_
  refine hK5 _ ?_
  refine aw_ret ?_
  refine ⟨_, rfl, ?_⟩
  have hc : codeS l n u = 101 := by
   rcases idxB_cases (isN n) l with ⟨_, h⟩ | ⟨k', h1, e, h2, h3⟩
   · exact (at_none n u l (fun j hj => h _ (List.getElem_mem hj))).2.1
   · exfalso; omega
  rw [fndR, if_neg (by omega), hc]; rfl
 ·
  try simp only [bs] at hc1
  obtain ⟨k, hk, ek, hk1, hk2⟩ : ∃ k : Nat, ∃ h : k < l.length, idxB (isN n) l = (k : Nat) ∧ isN n l[k] = true ∧ ∀ (j : Nat) (hj : j < l.length), j < k → isN n l[j] = false := by
   rcases idxB_cases (isN n) l with ⟨e, _⟩ | ⟨k', h1, e, h2, h3⟩
   · exfalso; omega
   · exact ⟨k', h1, e, h2, h3⟩
  obtain ⟨e1, e2, e3, _⟩ := at_here n u 0 0 l k hk hk2 hk1
  rw [ek]
  refine aw_skip ?_
  refine hK3 _ ?_
  refine aw_seq_k (fun K6 hK6 => ?_)
  refine aw_seq_k (fun K7 hK7 => ?_)
  refine aw_region ?_
  refine x_pure rfl (p_move rfl) ?_
  refine x_pure rfl (p_move rfl) ?_
  first | refine x_pure rfl (p_idx_sl rfl rfl Try.e22 Try.c24 (by first | assumption | (refine ⟨by omega, ?_⟩; first | assumption | exact strs_at (by omega) | exact strs_at (by simp only [List.length_cons] at *; omega) | exact ints_at (by omega) | exact map_at (by omega) | exact list_at (by omega)) | exact ⟨by decide, rfl⟩)) ?_ | refine x_pure rfl (p_idx_own rfl rfl Try.e22 Try.c24 (by omega)) ?_
  first | refine x_pure rfl (p_fld_adr rfl Try.fd24_1 Try.c9 rfl) ?_ | refine x_pure rfl (p_fld_ref rfl Try.fd24_1 Try.c9 rfl) ?_
  first | refine x_pure rfl (p_load1 rfl Try.g9 rfl) ?_ | refine x_pure rfl (p_load1r rfl Try.g9 rfl rfl) ?_ | refine x_pure rfl (p_load1r rfl Try.g9 rfl (strs_ref (by simp only [List.length_cons] at *; omega))) ?_ | refine x_pure rfl (p_load1r rfl Try.g9 rfl (strs_ref (by omega))) ?_
  refine x_pure rfl (p_move rfl) ?_
  refine x_pure rfl (p_bin rfl rfl rfl) ?_
  first | refine aops_end ?_ | refine aops_nil ?_
  refine hK7 _ ?_
  refine aw_cond_s rfl (fun hc2 => ?_) (fun hc2 => ?_)
  ·
   try simp only [bs] at hc2
   refine aw_seq_k (fun K8 hK8 => ?_)
   refine aw_region ?_
   refine x_pure rfl (p_build rfl Try.z24 Try.pl24 (by simp [seC, AV.cells, AV.one, Value.oneCell', splice, AV.kill, AV.clean, cleanL, AV.only]) rfl) ?_
   refine x_store hf rfl rfl Try.c24 rfl rfl (by simp [seC, AV.cells, AV.one, Value.oneCell', splice, AV.kill, AV.clean, cleanL, AV.only]) (by simp [seC, AV.cells, AV.leaf, Value.oneCell', splice, AV.kill, AV.clean, cleanL, AV.only]) rfl ?_
   refine x_pure rfl (p_assign rfl) ?_
   first | refine aops_end ?_ | refine aops_nil ?_
   refine hK8 _ ?_
   refine aw_ret ?_
   refine ⟨_, rfl, ?_⟩
   have hc : codeS l n u = 102 := by rw [e3, if_neg (by simp_all [toList_inj])]
   rw [fndR, if_neg (by omega), hc]; rfl
  ·
   try simp only [bs] at hc2
   refine aw_skip ?_
   refine hK6 _ ?_
   refine aw_seq_k (fun K9 hK9 => ?_)
   refine aw_region ?_
   refine x_pure rfl (p_move rfl) ?_
   refine x_pure rfl (p_move rfl) ?_
   first | refine x_pure rfl (p_idx_sl rfl rfl Try.e22 Try.c24 (by first | assumption | (refine ⟨by omega, ?_⟩; first | assumption | exact strs_at (by omega) | exact strs_at (by simp only [List.length_cons] at *; omega) | exact ints_at (by omega) | exact map_at (by omega) | exact list_at (by omega)) | exact ⟨by decide, rfl⟩)) ?_ | refine x_pure rfl (p_idx_own rfl rfl Try.e22 Try.c24 (by omega)) ?_
   first | refine x_pure rfl (p_loads rfl Try.g24 Try.c24 rfl rfl) ?_ | refine x_pure rfl (p_loadsr rfl Try.g24 Try.c24 rfl rfl rfl) ?_
   refine x_store hf rfl rfl Try.c24 rfl rfl (by simp [seC, AV.cells, AV.one, Value.oneCell', splice, AV.kill, AV.clean, cleanL, AV.only]) (by simp [seC, AV.cells, AV.leaf, Value.oneCell', splice, AV.kill, AV.clean, cleanL, AV.only]) rfl ?_
   refine x_pure rfl (p_assign rfl) ?_
   first | refine aops_end ?_ | refine aops_nil ?_
   refine hK9 _ ?_
   refine aw_ret ?_
   refine ⟨_, rfl, ?_⟩
   have hc : codeS l n u = 0 := by rw [e3, if_pos (by simp_all [toList_inj])]
   rw [fndR, if_pos hc, hc, e2]; rfl

set_option maxRecDepth 20000 in
set_option maxHeartbeats 4000000 in
theorem change10_den (l : List Se) (n : Int) (u : ByteArray) (st t : Int) (hl : l.length * 40 ≤ 140737488351232)  : Den Try.prog 18 [.sl 4 (l.map seC), .s (.int .i64 n), .s (.string u), .s (.int .i64 st), .s (.int .i64 t)]  (· = .tup [.sl 4 ((chgR l n u st t).map seC), .agg (stC (stR l n u t)), .s (.int .i64 (codeS l n u))]) := by
 refine den_of_aw Try.func18 rfl (Nat.le_of_ble_eq_true rfl) (fun w0 A hf => ?_)
 refine aw_seq_k (fun K1 hK1 => ?_)
 refine aw_region ?_
 refine x_pure rfl (p_assign_bad) ?_
 refine x_alloc hf rfl rfl rfl Try.z44 ?_
 refine x_pure rfl (p_assign_bad) ?_
 first | refine aops_end ?_ | refine aops_nil ?_
 refine hK1 _ ?_
 refine aw_seq_k (fun K2 hK2 => ?_)
 refine aw_region ?_
 refine x_pure rfl (p_move rfl) ?_
 refine x_pure rfl (p_move rfl) ?_
 refine x_pure rfl (p_move rfl) ?_
 refine x_step hf rfl (r_call rfl rfl Try.ent39 rfl (at10_den _ _ _ (by omega))) ?_
 refine x_pure rfl (p_move rfl) ?_
 refine x_pure rfl (p_extract rfl rfl) ?_
 refine x_pure rfl (p_extract rfl rfl) ?_
 refine x_pure rfl (p_assign rfl) ?_
 refine x_pure rfl (p_assign rfl) ?_
 first | refine aops_end ?_ | refine aops_nil ?_
 refine hK2 _ ?_
 refine aw_seq_k (fun K3 hK3 => ?_)
 refine aw_seq_k (fun K4 hK4 => ?_)
 refine aw_region ?_
 refine x_pure rfl (p_move rfl) ?_
 refine x_pure rfl (p_bin rfl rfl rfl) ?_
 first | refine aops_end ?_ | refine aops_nil ?_
 refine hK4 _ ?_
 refine aw_cond_s rfl (fun hc1 => ?_) (fun hc1 => ?_)
 ·
  try simp only [bs] at hc1
  refine aw_seq_k (fun K5 hK5 => ?_)
  refine aw_region ?_
  refine x_pure rfl (p_build rfl Try.z44 Try.pl44 (by simp [seC, stC, spC, AV.cells, AV.one, Value.oneCell', splice, AV.kill, AV.clean, cleanL, AV.only]) rfl) ?_
  refine x_pure rfl (p_move rfl) ?_
  refine x_pure rfl (p_nil (k := 4)) ?_
  refine x_store hf rfl rfl Try.c44 rfl rfl (by simp [seC, stC, spC, AV.cells, AV.one, Value.oneCell', splice, AV.kill, AV.clean, cleanL, AV.only]) (by simp [seC, stC, spC, AV.cells, AV.leaf, Value.oneCell', splice, AV.kill, AV.clean, cleanL, AV.only]) rfl ?_
  refine x_pure rfl (p_assign rfl) ?_
  first | refine aops_end ?_ | refine aops_nil ?_
  refine hK5 _ ?_
  refine aw_ret ?_
  refine ⟨_, rfl, ?_⟩
  rw [chgR, stR, if_neg (by assumption), if_neg (by assumption)]; rfl
 ·
  try simp only [bs] at hc1
  obtain ⟨k, hk, ek, hk1, hk2, hk3⟩ := code_ok (show codeS l n u = 0 by assumption)
  obtain ⟨c1, c2, c3⟩ := fnd_at hk hk1 hk2 hk3
  obtain ⟨_, _, _, c4, c5⟩ := at_here n u st t l k hk hk3 hk1
  rw [ek]
  refine aw_skip ?_
  refine hK3 _ ?_
  refine aw_seq_k (fun K6 hK6 => ?_)
  refine aw_region ?_
  refine x_pure rfl (p_move rfl) ?_
  refine y_callO hf rfl rfl rfl rfl rfl Try.ent47 rfl (xClone_den _ (by omega)) ?_
  rintro _ rfl
  refine x_pure rfl (p_assign rfl) ?_
  first | refine aops_end ?_ | refine aops_nil ?_
  refine hK6 _ ?_
  refine aw_seq_k (fun K7 hK7 => ?_)
  refine aw_region ?_
  have hml : (l.map seC).length = l.length := List.length_map _
  refine x_pure rfl (p_move rfl) ?_
  refine x_pure rfl (p_move rfl) ?_
  refine x_pure rfl (p_move rfl) ?_
  refine x_pure rfl (p_move rfl) ?_
  refine x_pure rfl (p_move rfl) ?_
  refine x_pure rfl (p_move rfl) ?_
  first | refine x_pure rfl (p_idx_sl rfl rfl Try.e26 Try.c31 (by first | assumption | (refine ⟨by omega, ?_⟩; first | assumption | exact strs_at (by omega) | exact strs_at (by simp only [List.length_cons] at *; omega) | exact ints_at (by omega) | exact map_at (by omega) | exact list_at (by omega)) | exact ⟨by decide, rfl⟩)) ?_ | refine x_pure rfl (p_idx_own rfl rfl Try.e26 Try.c31 (by omega)) ?_
  first | refine x_pure rfl (p_fld_adr rfl Try.fd31_2 Try.c3 rfl) ?_ | refine x_pure rfl (p_fld_ref rfl Try.fd31_2 Try.c3 rfl) ?_
  refine x_store hf rfl rfl Try.c3 rfl rfl (by simp [AV.cells, AV.one, Value.oneCell']) (by simp [AV.cells, AV.leaf, Value.oneCell']) (own_store (c := 4) (k := k) (f := 2) (enc := seC) (v := (l[k].1, (st, l[k].2.2))) (by omega) (by first | omega | (rw [List.length_set]; omega)) (by first | rfl | (simp only [List.getElem_set_self]; rfl)) (Nat.le_of_ble_eq_true rfl)) ?_
  first | refine x_pure rfl (p_idx_sl rfl rfl Try.e26 Try.c31 (by first | assumption | (refine ⟨by omega, ?_⟩; first | assumption | exact strs_at (by omega) | exact strs_at (by simp only [List.length_cons] at *; omega) | exact ints_at (by omega) | exact map_at (by omega) | exact list_at (by omega)) | exact ⟨by decide, rfl⟩)) ?_ | refine x_pure rfl (p_idx_own rfl rfl Try.e26 Try.c31 (by omega)) ?_
  first | refine x_pure rfl (p_fld_adr rfl Try.fd31_3 Try.c3 rfl) ?_ | refine x_pure rfl (p_fld_ref rfl Try.fd31_3 Try.c3 rfl) ?_
  refine x_store hf rfl rfl Try.c3 rfl rfl (by simp [AV.cells, AV.one, Value.oneCell']) (by simp [AV.cells, AV.leaf, Value.oneCell']) (own_store (c := 4) (k := k) (f := 3) (enc := seC) (v := (l[k].1, (st, t))) (by omega) (by first | omega | (rw [List.length_set]; omega)) (by first | rfl | (simp only [List.getElem_set_self]; rfl)) (Nat.le_of_ble_eq_true rfl)) ?_
  first | refine aops_end ?_ | refine aops_nil ?_
  refine hK7 _ ?_
  refine aw_seq_k (fun K8 hK8 => ?_)
  refine aw_region ?_
  refine x_pure rfl (p_move rfl) ?_
  refine x_pure rfl (p_move rfl) ?_
  refine x_pure rfl (p_move rfl) ?_
  first | refine x_pure rfl (p_idx_sl rfl rfl Try.e26 Try.c31 (by first | assumption | (refine ⟨by omega, ?_⟩; first | assumption | exact strs_at (by omega) | exact strs_at (by simp only [List.length_cons] at *; omega) | exact ints_at (by omega) | exact map_at (by omega) | exact list_at (by omega)) | exact ⟨by decide, rfl⟩)) ?_ | refine x_pure rfl (p_idx_own rfl rfl Try.e26 Try.c31 (by omega)) ?_
  first | refine x_pure rfl (p_loads rfl Try.g31 Try.c31 rfl rfl) ?_ | refine x_pure rfl (p_loadsr rfl Try.g31 Try.c31 rfl rfl rfl) ?_
  refine x_pure rfl (p_move rfl) ?_
  refine x_step hf rfl (r_call rfl rfl Try.ent48 rfl (stay10_den _ _)) ?_
  refine x_pure rfl (p_assign rfl) ?_
  refine x_store hf rfl rfl Try.c44 rfl rfl (by simp [seC, stC, spC, AV.cells, AV.one, Value.oneCell', splice, AV.kill, AV.clean, cleanL, AV.only]) (by simp [seC, stC, spC, AV.cells, AV.leaf, Value.oneCell', splice, AV.kill, AV.clean, cleanL, AV.only]) rfl ?_
  refine x_pure rfl (p_assign rfl) ?_
  first | refine aops_end ?_ | refine aops_nil ?_
  refine hK8 _ ?_
  refine aw_ret ?_
  refine ⟨_, rfl, ?_⟩
  refine (congrArg (fun z => AV.tup [z, .agg (stC (stayOf l[k] t)), .s (.int .i64 0)]) (conv_whole (g := 28) rfl (by simp only [List.length_map, List.length_set]))).trans ?_
  rw [chgR, stR, if_pos c1, if_pos c1, c1, c2, c4, List.set_set]

set_option maxRecDepth 20000 in
set_option maxHeartbeats 4000000 in
theorem refChange10_den (l : List Se) (n : Int) (u : ByteArray) (st t : Int) (hl : l.length * 40 ≤ 140737488351232)  : Den Try.prog 19 [.sl 4 (l.map seC), .s (.int .i64 n), .s (.string u), .s (.int .i64 st), .s (.int .i64 t)]  (· = .tup [.sl 4 ((chgR l n u st t).map seC), .agg (stC (stR l n u t)), .s (.int .i64 (codeS l n u))]) := by
 refine den_of_aw Try.func19 rfl (Nat.le_of_ble_eq_true rfl) (fun w0 A hf => ?_)
 refine aw_seq_k (fun K1 hK1 => ?_)
 refine aw_region ?_
 refine x_pure rfl (p_assign_bad) ?_
 refine x_alloc hf rfl rfl rfl Try.z48 ?_
 refine x_pure rfl (p_assign_bad) ?_
 first | refine aops_end ?_ | refine aops_nil ?_
 refine hK1 _ ?_
 refine aw_seq_k (fun K2 hK2 => ?_)
 refine aw_region ?_
 refine x_pure rfl (p_move rfl) ?_
 refine x_pure rfl (p_move rfl) ?_
 refine x_pure rfl (p_move rfl) ?_
 refine x_step hf rfl (r_call rfl rfl Try.ent21 rfl (refFind10_den _ _ _ (by omega))) ?_
 refine x_pure rfl (p_move rfl) ?_
 refine x_pure rfl (p_extract rfl rfl) ?_
 refine x_pure rfl (p_extract rfl rfl) ?_
 refine x_allocst hf rfl Try.z24 rfl Try.c24 rfl rfl rfl rfl (by simp [seC, stC, spC, AV.cells, AV.leaf, Value.oneCell', splice, AV.kill, AV.clean, cleanL, AV.only]) ?_
 refine x_pure rfl (p_assign rfl) ?_
 first | refine aops_end ?_ | refine aops_nil ?_
 refine hK2 _ ?_
 refine aw_seq_k (fun K3 hK3 => ?_)
 refine aw_seq_k (fun K4 hK4 => ?_)
 refine aw_region ?_
 refine x_pure rfl (p_move rfl) ?_
 refine x_pure rfl (p_bin rfl rfl rfl) ?_
 first | refine aops_end ?_ | refine aops_nil ?_
 refine hK4 _ ?_
 refine aw_cond_s rfl (fun hc1 => ?_) (fun hc1 => ?_)
 ·
  try simp only [bs] at hc1
  refine aw_seq_k (fun K5 hK5 => ?_)
  refine aw_region ?_
  refine x_pure rfl (p_build rfl Try.z48 Try.pl48 (by simp [seC, stC, spC, AV.cells, AV.one, Value.oneCell', splice, AV.kill, AV.clean, cleanL, AV.only]) rfl) ?_
  refine x_pure rfl (p_move rfl) ?_
  refine x_pure rfl (p_nil (k := 4)) ?_
  refine x_store hf rfl rfl Try.c48 rfl rfl (by simp [seC, stC, spC, AV.cells, AV.one, Value.oneCell', splice, AV.kill, AV.clean, cleanL, AV.only]) (by simp [seC, stC, spC, AV.cells, AV.leaf, Value.oneCell', splice, AV.kill, AV.clean, cleanL, AV.only]) rfl ?_
  refine x_pure rfl (p_assign rfl) ?_
  first | refine aops_end ?_ | refine aops_nil ?_
  refine hK5 _ ?_
  refine aw_ret ?_
  refine ⟨_, rfl, ?_⟩
  rw [chgR, stR, if_neg (by assumption), if_neg (by assumption)]; rfl
 ·
  try simp only [bs] at hc1
  obtain ⟨k, hk, ek, hk1, hk2, hk3⟩ := code_ok (show codeS l n u = 0 by assumption)
  obtain ⟨c1, c2, c3⟩ := fnd_at hk hk1 hk2 hk3
  obtain ⟨_, _, _, c4, c5⟩ := at_here n u st t l k hk hk3 hk1
  refine aw_skip ?_
  refine hK3 _ ?_
  refine aw_seq_k (fun K6 hK6 => ?_)
  refine aw_region ?_
  refine y_buildSlice hf rfl rfl rfl Try.ap22 rfl rfl rfl rfl (by simp [seC, stC, spC, AV.cells, AV.leaf, Value.oneCell', splice, AV.kill, AV.clean, cleanL, AV.only]) ?_
  refine x_pure rfl (p_move rfl) ?_
  refine x_append hf rfl Try.ap22 rfl rfl rfl (.inl rfl) (by first | rfl | (simp only [List.length_append, List.length_map, List.length_cons, List.length_nil, List.length_take] <;> omega)) rfl (by first | rfl | simp [asrc, look]) (by first | (simp only [maxLen, List.length_map, List.length_append, List.length_cons, List.length_nil]; omega) | (simp [maxLen] <;> omega)) (by first | (simp only [List.length_map, List.length_append, List.length_cons, List.length_nil]; omega) | (simp <;> omega)) ?_
  refine aops_le (le_of (sl' := [(0, _), (1, _), (2, _), (3, _), (4, _), (11, _), (13, _), (29, _)]) ⟨rfl, rfl, rfl, rfl, rfl, rfl, rfl, rfl, trivial⟩) ?_
  refine x_pure rfl (p_assign rfl) ?_
  first | refine aops_end ?_ | refine aops_nil ?_
  refine hK6 _ ?_
  refine aw_seq_k (fun K7 hK7 => ?_)
  refine aw_region ?_
  have hml : (l.map seC).length = l.length := List.length_map _
  have hix : idxB (isN n) l = (k : Nat) := idxB_found hk hk3 hk1
  refine x_pure rfl (p_move rfl) ?_
  refine x_pure rfl (p_move rfl) ?_
  refine x_pure rfl (p_move rfl) ?_
  refine x_step hf rfl (r_call rfl rfl Try.ent43 rfl (refAt10_den _ _ (by omega))) ?_
  refine x_pure rfl (p_move rfl) ?_
  refine x_pure rfl (p_move rfl) ?_
  refine x_pure rfl (p_move rfl) ?_
  refine x_pure rfl (p_move rfl) ?_
  refine x_pure rfl (p_build rfl Try.z24 Try.pl24 (by simp [seC, stC, spC, AV.cells, AV.one, Value.oneCell', splice, AV.kill, AV.clean, cleanL, AV.only]) rfl) ?_
  rw [hix]
  first | refine x_pure rfl (p_idx_sl rfl rfl Try.e22 Try.c24 (by first | assumption | (refine ⟨by omega, ?_⟩; first | assumption | exact strs_at (by omega) | exact strs_at (by simp only [List.length_cons] at *; omega) | exact ints_at (by omega) | exact map_at (by omega) | exact list_at (by omega)) | exact ⟨by decide, rfl⟩)) ?_ | refine x_pure rfl (p_idx_own rfl rfl Try.e22 Try.c24 (by omega)) ?_
  refine x_store hf rfl rfl Try.c24 rfl rfl (by simp [seC, AV.cells, AV.one, Value.oneCell', splice, AV.kill, AV.clean, cleanL, AV.only]) (by simp [seC, AV.cells, AV.leaf, Value.oneCell', splice, AV.kill, AV.clean, cleanL, AV.only]) (own_store (c := 4) (k := k) (enc := seC) (v := ((n, u), (st, t))) (by omega) (by omega) rfl (Nat.le_refl _)) ?_
  first | refine aops_end ?_ | refine aops_nil ?_
  refine hK7 _ ?_
  refine aw_seq_k (fun K8 hK8 => ?_)
  refine aw_region ?_
  refine x_pure rfl (p_move rfl) ?_
  first | refine x_pure rfl (p_loads rfl Try.g24 Try.c24 rfl rfl) ?_ | refine x_pure rfl (p_loadsr rfl Try.g24 Try.c24 rfl rfl rfl) ?_
  refine x_pure rfl (p_move rfl) ?_
  refine x_step hf rfl (r_call rfl rfl Try.ent49 rfl (refStay10_den _ _)) ?_
  refine x_pure rfl (p_assign rfl) ?_
  refine x_store hf rfl rfl Try.c48 rfl rfl (by simp [seC, stC, spC, AV.cells, AV.one, Value.oneCell', splice, AV.kill, AV.clean, cleanL, AV.only]) (by simp [seC, stC, spC, AV.cells, AV.leaf, Value.oneCell', splice, AV.kill, AV.clean, cleanL, AV.only]) rfl ?_
  refine x_pure rfl (p_assign rfl) ?_
  first | refine aops_end ?_ | refine aops_nil ?_
  refine hK8 _ ?_
  refine aw_ret ?_
  refine ⟨_, rfl, ?_⟩
  refine (congrArg (fun z => AV.tup [z, .agg (stC (stayOf (fndR l n u) t)), .s (.int .i64 0)]) (conv_whole (g := 27) rfl (by simp only [List.length_map, List.length_set, Nat.zero_add]))).trans ?_
  rw [chgR, stR, fndR, if_pos c1, if_pos c1, if_pos c1, c1, c4, c3]
end Go.Proofs.Ytcjchfocohagdaa
