import Derived.Test.YtcjchfocohagdaaSW2
set_option linter.unusedVariables false
set_option linter.unusedSimpArgs false
namespace Go.Proofs.Ytcjchfocohagdaa
open Go Go.Abs

set_option maxRecDepth 20000 in
set_option maxHeartbeats 4000000 in
theorem close10_den (l : List Se) (n : Int) (u : ByteArray) (t : Int) (hl : l.length * 40 ≤ 140737488351232)  : Den Try.prog 23 [.sl 4 (l.map seC), .s (.int .i64 n), .s (.string u), .s (.int .i64 t)]  (· = .tup [.sl 4 ((clsR l n u).map seC), .agg (stC (stR l n u t)), .s (.int .i64 (codeS l n u))]) := by
 refine den_of_aw Try.func23 rfl (Nat.le_of_ble_eq_true rfl) (fun w0 A hf => ?_)
 refine aw_seq_k (fun K1 hK1 => ?_)
 refine aw_region ?_
 refine x_pure rfl (p_assign_bad) ?_
 refine x_alloc hf rfl rfl rfl Try.z44 ?_
 refine x_pure rfl (p_assign_bad) ?_
 first | refine aops_end ?_ | refine aops_nil ?_
 refine hK1 _ ?_
 refine aw_seq_k (fun K2 hK2 => ?_)
 refine aw_region ?_
 refine x_pure rfl (p_move rfl) ?_
 refine x_pure rfl (p_move rfl) ?_
 refine x_pure rfl (p_move rfl) ?_
 refine x_step hf rfl (r_call rfl rfl Try.ent39 rfl (at10_den _ _ _ (by omega))) ?_
 refine x_pure rfl (p_move rfl) ?_
 refine x_pure rfl (p_extract rfl rfl) ?_
 refine x_pure rfl (p_extract rfl rfl) ?_
 refine x_pure rfl (p_assign rfl) ?_
 refine x_pure rfl (p_assign rfl) ?_
 first | refine aops_end ?_ | refine aops_nil ?_
 refine hK2 _ ?_
 refine aw_seq_k (fun K3 hK3 => ?_)
 refine aw_seq_k (fun K4 hK4 => ?_)
 refine aw_region ?_
 refine x_pure rfl (p_move rfl) ?_
 refine x_pure rfl (p_bin rfl rfl rfl) ?_
 first | refine aops_end ?_ | refine aops_nil ?_
 refine hK4 _ ?_
 refine aw_cond_s rfl (fun hc1 => ?_) (fun hc1 => ?_)
 ·
  try simp only [bs] at hc1
  refine aw_seq_k (fun K5 hK5 => ?_)
  refine aw_region ?_
  refine x_pure rfl (p_build rfl Try.z44 Try.pl44 (by simp [seC, stC, spC, AV.cells, AV.one, Value.oneCell', splice, AV.kill, AV.clean, cleanL, AV.only]) rfl) ?_
  refine x_pure rfl (p_move rfl) ?_
  refine x_pure rfl (p_nil (k := 4)) ?_
  refine x_store hf rfl rfl Try.c44 rfl rfl (by simp [seC, stC, spC, AV.cells, AV.one, Value.oneCell', splice, AV.kill, AV.clean, cleanL, AV.only]) (by simp [seC, stC, spC, AV.cells, AV.leaf, Value.oneCell', splice, AV.kill, AV.clean, cleanL, AV.only]) rfl ?_
  refine x_pure rfl (p_assign rfl) ?_
  first | refine aops_end ?_ | refine aops_nil ?_
  refine hK5 _ ?_
  refine aw_ret ?_
  refine ⟨_, rfl, ?_⟩
  rw [clsR, stR, if_neg (by assumption), if_neg (by assumption)]; rfl
 ·
  try simp only [bs] at hc1
  obtain ⟨k, hk, ek, hk1, hk2, hk3⟩ := code_ok (show codeS l n u = 0 by assumption)
  obtain ⟨c1, c2, c3⟩ := fnd_at hk hk1 hk2 hk3
  obtain ⟨_, _, _, c4, c5⟩ := at_here n u 0 t l k hk hk3 hk1
  rw [ek]
  refine aw_skip ?_
  refine hK3 _ ?_
  refine aw_seq_k (fun K6 hK6 => ?_)
  refine aw_draw_tail hf (L := #[true, true, true, true, true, true, true, true, true, true, true, true, true, true, true, true, false, false]) 16 2 Try.mixed (by kernel_rfl) rfl (by kernel_rfl) rfl ?_
  refine d_pure [(0, _)] rfl rfl ⟨⟨rfl, rfl⟩, trivial⟩ rfl (p_move rfl) ?_
  refine d_pure [(11, _)] rfl rfl ⟨⟨rfl, rfl⟩, trivial⟩ rfl (p_move rfl) ?_
  refine d_pure [(24, _), (25, _)] rfl rfl ⟨⟨rfl, rfl⟩, ⟨rfl, rfl⟩, trivial⟩ rfl (p_slice_sl rfl Try.e26 Try.c31 rfl (bnd_z rfl (by omega)) (by omega) (by simp only [List.length_map, Int.toNat_natCast] <;> omega) (slice_to (k := k) (by omega))) ?_
  refine d_pure [(0, _)] rfl rfl ⟨⟨rfl, rfl⟩, trivial⟩ rfl (p_move rfl) ?_
  refine d_pure [(11, _)] rfl rfl ⟨⟨rfl, rfl⟩, trivial⟩ rfl (p_move rfl) ?_
  first | refine d_pure [(28, _)] rfl rfl ⟨⟨rfl, rfl⟩, trivial⟩ rfl (p_add rfl rfl (by omega) (by omega)) ?_ | refine d_pure [(28, _)] rfl rfl ⟨⟨rfl, rfl⟩, trivial⟩ rfl (p_bin rfl rfl rfl) ?_
  refine d_pure [(27, _), (29, _)] rfl rfl ⟨⟨rfl, rfl⟩, ⟨rfl, rfl⟩, trivial⟩ rfl (p_slice_sl rfl Try.e26 Try.c31 (bnd_z rfl (by omega)) rfl (by simp only [List.length_map, Int.toNat_natCast] <;> omega) (by omega) (slice_from (k := k + 1) (by omega))) ?_
  refine d_rstep [(26, _), (30, _)] rfl rfl ⟨⟨rfl, rfl⟩, ⟨rfl, rfl⟩, trivial⟩ rfl (r_buildSlice Try.ap104 rfl rfl rfl rfl (by simp [seC, stC, spC, AV.cells, AV.leaf, Value.oneCell', splice, AV.kill, AV.clean, cleanL, AV.only])) ?_
  refine d_rstep [(31, _)] rfl rfl ⟨⟨rfl, rfl⟩, trivial⟩ rfl (r_call rfl rfl Try.ent42 rfl ((show Den Try.prog _ _ (· = .sl 4 ((l.take k ++ l.drop (k + 1)).map seC)) from (den_of_deno' (xConcat_den [l.take k, l.drop (k + 1)] (by simp) (by simp only [List.flatten_cons, List.flatten_nil, List.length_append, List.length_take, List.length_drop, List.length_nil]; omega))).mono fun r h => h.trans (by simp)))) ?_
  refine d_pure [(0, _)] rfl rfl ⟨⟨rfl, rfl⟩, trivial⟩ rfl (p_move rfl) ?_
  refine d_pure [(11, _)] rfl rfl ⟨⟨rfl, rfl⟩, trivial⟩ rfl (p_move rfl) ?_
  first | refine d_pure [(33, _), (34, _)] rfl rfl ⟨⟨rfl, rfl⟩, ⟨rfl, rfl⟩, trivial⟩ rfl (p_idx_sl rfl rfl Try.e26 Try.c31 (by first | assumption | (refine ⟨by omega, ?_⟩; first | assumption | exact strs_at (by omega) | exact strs_at (by simp only [List.length_cons] at *; omega) | exact ints_at (by omega) | exact map_at (by omega) | exact list_at (by omega)) | exact ⟨by decide, rfl⟩)) ?_ | refine d_pure [(33, _), (34, _)] rfl rfl ⟨⟨rfl, rfl⟩, ⟨rfl, rfl⟩, trivial⟩ rfl (p_idx_own rfl rfl Try.e26 Try.c31 (by omega)) ?_
  first | refine d_pure [(35, _)] rfl rfl ⟨⟨rfl, rfl⟩, trivial⟩ rfl (p_loads rfl Try.g31 Try.c31 rfl rfl) ?_ | refine d_pure [(35, _)] rfl rfl ⟨⟨rfl, rfl⟩, trivial⟩ rfl (p_loadsr rfl Try.g31 Try.c31 rfl rfl rfl) ?_
  refine d_pure [(3, _)] rfl rfl ⟨⟨rfl, rfl⟩, trivial⟩ rfl (p_move rfl) ?_
  refine d_rstep [(36, _), (37, _)] rfl rfl ⟨⟨rfl, rfl⟩, ⟨rfl, rfl⟩, trivial⟩ rfl (r_call rfl rfl Try.ent48 rfl (stay10_den l[k] t)) ?_
  refine d_pure [(32, _)] rfl rfl ⟨⟨rfl, rfl⟩, trivial⟩ rfl (p_assign rfl) ?_
  refine lex_tail (sl' := [(8, _), (9, _), (38, _)]) rfl ⟨rfl, rfl, rfl, trivial⟩ rfl ?_
  refine aany_step 16 [] (by kernel_rfl) ⟨?_, trivial⟩
  ·
   refine ⟨_, rfl, rfl, ?_⟩
   refine aop_of_aops (ops := #[]) rfl ?_
   refine x_store hf rfl rfl Try.c44 rfl rfl (by simp [seC, stC, spC, AV.cells, AV.one, Value.oneCell', splice, AV.kill, AV.clean, cleanL, AV.only]) (by simp [seC, stC, spC, AV.cells, AV.leaf, Value.oneCell', splice, AV.kill, AV.clean, cleanL, AV.only]) rfl ?_
   refine aops_any ?_
   refine aany_step 17 [] (by kernel_rfl) ⟨?_, trivial⟩
   ·
    refine ⟨_, rfl, rfl, ?_⟩
    refine aop_of_aops (ops := #[]) rfl ?_
    refine x_pure rfl (p_assign rfl) ?_
    refine aops_any ?_
    refine aany_end (by kernel_rfl) ?_
    refine hK6 _ ?_
    refine aw_ret ?_
    refine ⟨_, rfl, ?_⟩
    rw [clsR, stR, if_pos c1, if_pos c1, c1, c2, c5]; rfl

set_option maxRecDepth 20000 in
set_option maxHeartbeats 4000000 in
theorem refClose10_den (l : List Se) (n : Int) (u : ByteArray) (t : Int) (hl : l.length * 40 ≤ 140737488351232)  : Den Try.prog 24 [.sl 4 (l.map seC), .s (.int .i64 n), .s (.string u), .s (.int .i64 t)]  (· = .tup [.sl 4 ((clsR l n u).map seC), .agg (stC (stR l n u t)), .s (.int .i64 (codeS l n u))]) := by
 refine den_of_aw Try.func24 rfl (Nat.le_of_ble_eq_true rfl) (fun w0 A hf => ?_)
 refine aw_seq_k (fun K1 hK1 => ?_)
 refine aw_region ?_
 refine x_pure rfl (p_assign_bad) ?_
 refine x_alloc hf rfl rfl rfl Try.z48 ?_
 refine x_pure rfl (p_assign_bad) ?_
 first | refine aops_end ?_ | refine aops_nil ?_
 refine hK1 _ ?_
 refine aw_seq_k (fun K2 hK2 => ?_)
 refine aw_region ?_
 refine x_pure rfl (p_move rfl) ?_
 refine x_pure rfl (p_move rfl) ?_
 refine x_pure rfl (p_move rfl) ?_
 refine x_step hf rfl (r_call rfl rfl Try.ent21 rfl (refFind10_den _ _ _ (by omega))) ?_
 refine x_pure rfl (p_move rfl) ?_
 refine x_pure rfl (p_extract rfl rfl) ?_
 refine x_pure rfl (p_extract rfl rfl) ?_
 refine x_allocst hf rfl Try.z24 rfl Try.c24 rfl rfl rfl rfl (by simp [seC, stC, spC, AV.cells, AV.leaf, Value.oneCell', splice, AV.kill, AV.clean, cleanL, AV.only]) ?_
 refine x_pure rfl (p_assign rfl) ?_
 first | refine aops_end ?_ | refine aops_nil ?_
 refine hK2 _ ?_
 refine aw_seq_k (fun K3 hK3 => ?_)
 refine aw_seq_k (fun K4 hK4 => ?_)
 refine aw_region ?_
 refine x_pure rfl (p_move rfl) ?_
 refine x_pure rfl (p_bin rfl rfl rfl) ?_
 first | refine aops_end ?_ | refine aops_nil ?_
 refine hK4 _ ?_
 refine aw_cond_s rfl (fun hc1 => ?_) (fun hc1 => ?_)
 ·
  try simp only [bs] at hc1
  refine aw_seq_k (fun K5 hK5 => ?_)
  refine aw_region ?_
  refine x_pure rfl (p_build rfl Try.z48 Try.pl48 (by simp [seC, stC, spC, AV.cells, AV.one, Value.oneCell', splice, AV.kill, AV.clean, cleanL, AV.only]) rfl) ?_
  refine x_pure rfl (p_move rfl) ?_
  refine x_pure rfl (p_nil (k := 4)) ?_
  refine x_store hf rfl rfl Try.c48 rfl rfl (by simp [seC, stC, spC, AV.cells, AV.one, Value.oneCell', splice, AV.kill, AV.clean, cleanL, AV.only]) (by simp [seC, stC, spC, AV.cells, AV.leaf, Value.oneCell', splice, AV.kill, AV.clean, cleanL, AV.only]) rfl ?_
  refine x_pure rfl (p_assign rfl) ?_
  first | refine aops_end ?_ | refine aops_nil ?_
  refine hK5 _ ?_
  refine aw_ret ?_
  refine ⟨_, rfl, ?_⟩
  rw [clsR, stR, if_neg (by assumption), if_neg (by assumption)]; rfl
 ·
  try simp only [bs] at hc1
  obtain ⟨k, hk, ek, hk1, hk2, hk3⟩ := code_ok (show codeS l n u = 0 by assumption)
  obtain ⟨c1, c2, c3⟩ := fnd_at hk hk1 hk2 hk3
  obtain ⟨_, _, _, c4, c5⟩ := at_here n u 0 t l k hk hk3 hk1
  have hix : idxB (isN n) l = (k : Nat) := idxB_found hk hk3 hk1
  refine aw_skip ?_
  refine hK3 _ ?_
  refine aw_seq_k (fun K6 hK6 => ?_)
  refine aw_region ?_
  refine x_nil hf 4 rfl rfl rfl ?_
  first | refine aops_end ?_ | refine aops_nil ?_
  refine hK6 _ ?_
  refine aw_seq_k (fun K7 hK7 => ?_)
  refine aw_seq_k (fun K8 hK8 => ?_)
  refine aw_region ?_
  refine x_pure rfl (p_assign rfl) ?_
  first | refine aops_end ?_ | refine aops_nil ?_
  refine hK8 _ ?_
  refine aw_block ?_
  refine aw_loop (ι := Nat × List Se) (fun (⟨j, out⟩ : Nat × List Se) => ⟨48, [(0, .sl 4 (l.map seC)), (1, .s (.int .i64 n)), (3, .s (.int .i64 t)), (9, .ref 9 0 0 0), (11, .adr (seC (fndR l n u))), (13, .own 13 4 0 out.length), (14, .s (.int .i64 (j : Nat)))], [(13, .buf 4 (out.map seC)), (9, .box [.s (.int .i64 0), .s (.int .i64 0), .s (.int .i64 0), .s (.int .i64 0)])]⟩) (fun (⟨j, out⟩ : Nat × List Se) => j ≤ l.length ∧ out = (l.take j).eraseIdx k ∧ out.length ≤ j) (fun (⟨j, out⟩ : Nat × List Se) => l.length - j) (0, []) ?_ ?_ ?_
  · exact ⟨Nat.zero_le _, rfl, Nat.le_refl _⟩
  · exact le_of ⟨rfl, rfl, rfl, rfl, rfl, rfl, rfl, trivial⟩
  ·
   rintro ⟨j, out⟩ hC
   obtain ⟨h1, h2, h3⟩ := hC
   refine aw_seq_k (fun K9 hK9 => ?_)
   refine aw_seq_k (fun K10 hK10 => ?_)
   refine aw_region ?_
   refine x_pure rfl (p_move rfl) ?_
   refine x_pure rfl (p_move rfl) ?_
   first | refine x_pure rfl (p_len_sl rfl Try.e22) ?_ | refine x_pure rfl (p_len_own rfl Try.e22) ?_ | refine x_pure rfl (p_len_nil rfl Try.e22) ?_
   refine x_pure rfl (p_bin rfl rfl rfl) ?_
   first | refine aops_end ?_ | refine aops_nil ?_
   refine hK10 _ ?_
   refine aw_cond_s rfl (fun hc2 => ?_) (fun hc2 => ?_)
   ·
    try simp only [bs] at hc2
    refine aw_skip ?_
    refine hK9 _ ?_
    refine aw_seq_k (fun K11 hK11 => ?_)
    refine aw_block ?_
    refine aw_seq_k (fun K12 hK12 => ?_)
    refine aw_region ?_
    refine x_pure rfl (p_move rfl) ?_
    refine x_pure rfl (p_move rfl) ?_
    refine x_pure rfl (p_move rfl) ?_
    refine x_step hf rfl (r_call rfl rfl Try.ent43 rfl (refAt10_den _ _ (by omega))) ?_
    rw [hix]
    refine x_pure rfl (p_bin rfl rfl rfl) ?_
    first | refine aops_end ?_ | refine aops_nil ?_
    refine hK12 _ ?_
    refine aw_cond_s rfl (fun hc3 => ?_) (fun hc3 => ?_)
    ·
     try simp only [bs] at hc3
     refine aw_region ?_
     refine x_pure rfl (p_move rfl) ?_
     refine x_pure rfl (p_move rfl) ?_
     refine x_pure rfl (p_move rfl) ?_
     first | refine x_pure rfl (p_idx_sl rfl rfl Try.e22 Try.c24 (by first | assumption | (refine ⟨by omega, ?_⟩; first | assumption | exact strs_at (by omega) | exact strs_at (by simp only [List.length_cons] at *; omega) | exact ints_at (by omega) | exact map_at (by omega) | exact list_at (by omega)) | exact ⟨by decide, rfl⟩)) ?_ | refine x_pure rfl (p_idx_own rfl rfl Try.e22 Try.c24 (by omega)) ?_
     first | refine x_pure rfl (p_loads rfl Try.g24 Try.c24 rfl rfl) ?_ | refine x_pure rfl (p_loadsr rfl Try.g24 Try.c24 rfl rfl rfl) ?_
     refine x_step hf rfl (r_buildSlice Try.ap22 rfl rfl rfl rfl (by simp [seC, stC, spC, AV.cells, AV.leaf, Value.oneCell', splice, AV.kill, AV.clean, cleanL, AV.only])) ?_
     refine x_append hf rfl Try.ap22 rfl rfl rfl (.inl rfl) (by first | rfl | (simp only [List.length_append, List.length_map, List.length_cons, List.length_nil, List.length_take] <;> omega)) rfl (by first | rfl | simp [asrc, look]) (by first | (simp only [maxLen, List.length_map, List.length_append, List.length_cons, List.length_nil]; omega) | (simp [maxLen] <;> omega)) (by first | (simp only [List.length_map, List.length_append, List.length_cons, List.length_nil]; omega) | (simp <;> omega)) ?_
     refine aops_le (le_of (sl' := [(0, _), (1, _), (3, _), (9, _), (11, _), (14, _), (43, _)]) ⟨rfl, rfl, rfl, rfl, rfl, rfl, rfl, trivial⟩) ?_
     refine x_pure rfl (p_assign rfl) ?_
     first | refine aops_end ?_ | refine aops_nil ?_
     refine hK11 _ ?_
     refine aw_region ?_
     refine x_pure rfl (p_move rfl) ?_
     first | refine x_pure rfl (p_add rfl rfl (by omega) (by omega)) ?_ | refine x_pure rfl (p_bin rfl rfl rfl) ?_
     refine x_pure rfl (p_assign rfl) ?_
     first | refine aops_end ?_ | refine aops_nil ?_
     first
     | exact ⟨(j + 1, out ++ [l[j]]), ⟨by omega, by rw [h2, er_ne (by omega) (by omega)], by rw [List.length_append]; simp only [List.length_cons, List.length_nil]; omega⟩, by simp only; omega, le_to ⟨rfl, rfl, rfl, rfl, rfl, (by first | rfl | (rw [List.length_append]; rfl)), rfl, trivial⟩ (by rw [List.map_append]; rfl)⟩
     | exact ⟨(j + 1, out), ⟨by omega, by rw [h2, show j = k by omega, er_eq hk], by omega⟩, by simp only; omega, le_to ⟨rfl, rfl, rfl, rfl, rfl, (by first | rfl | (rw [List.length_append]; rfl)), rfl, trivial⟩ rfl⟩
    ·
     try simp only [bs] at hc3
     refine aw_skip ?_
     refine hK11 _ ?_
     refine aw_region ?_
     refine x_pure rfl (p_move rfl) ?_
     first | refine x_pure rfl (p_add rfl rfl (by omega) (by omega)) ?_ | refine x_pure rfl (p_bin rfl rfl rfl) ?_
     refine x_pure rfl (p_assign rfl) ?_
     first | refine aops_end ?_ | refine aops_nil ?_
     first
     | exact ⟨(j + 1, out ++ [l[j]]), ⟨by omega, by rw [h2, er_ne (by omega) (by omega)], by rw [List.length_append]; simp only [List.length_cons, List.length_nil]; omega⟩, by simp only; omega, le_to ⟨rfl, rfl, rfl, rfl, rfl, (by first | rfl | (rw [List.length_append]; rfl)), rfl, trivial⟩ (by rw [List.map_append]; rfl)⟩
     | exact ⟨(j + 1, out), ⟨by omega, by rw [h2, show j = k by omega, er_eq hk], by omega⟩, by simp only; omega, le_to ⟨rfl, rfl, rfl, rfl, rfl, (by first | rfl | (rw [List.length_append]; rfl)), rfl, trivial⟩ rfl⟩
   ·
    try simp only [bs] at hc2
    refine aw_exit ?_
    refine hK7 _ ?_
    refine aw_seq_k (fun K13 hK13 => ?_)
    refine aw_region ?_
    refine x_pure rfl (p_move rfl) ?_
    first | refine x_pure rfl (p_loads rfl Try.g24 Try.c24 rfl rfl) ?_ | refine x_pure rfl (p_loadsr rfl Try.g24 Try.c24 rfl rfl rfl) ?_
    refine x_pure rfl (p_move rfl) ?_
    refine x_step hf rfl (r_call rfl rfl Try.ent49 rfl (refStay10_den _ _)) ?_
    refine x_pure rfl (p_assign rfl) ?_
    refine x_store hf rfl rfl Try.c48 rfl rfl (by simp [seC, stC, spC, AV.cells, AV.one, Value.oneCell', splice, AV.kill, AV.clean, cleanL, AV.only]) (by simp [seC, stC, spC, AV.cells, AV.leaf, Value.oneCell', splice, AV.kill, AV.clean, cleanL, AV.only]) rfl ?_
    refine x_pure rfl (p_assign rfl) ?_
    first | refine aops_end ?_ | refine aops_nil ?_
    refine hK13 _ ?_
    refine aw_ret ?_
    refine ⟨_, rfl, ?_⟩
    refine (congrArg (fun z => AV.tup [z, .agg (stC (stayOf (fndR l n u) t)), .s (.int .i64 0)]) (conv_whole (g := 13) rfl (by rw [List.length_map]))).trans ?_
    rw [clsR, stR, fndR, if_pos c1, if_pos c1, if_pos c1, c1, c5, h2, List.take_of_length_le (by omega), er_end]
end Go.Proofs.Ytcjchfocohagdaa
