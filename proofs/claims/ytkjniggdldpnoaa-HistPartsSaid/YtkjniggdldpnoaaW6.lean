import Derived.Test.YtkjniggdldpnoaaW5
set_option linter.unusedVariables false
set_option linter.unusedSimpArgs false
namespace Go.Proofs.Ytkjniggdldpnoaa
open Go Go.Abs

set_option maxRecDepth 20000 in
set_option maxHeartbeats 1000000 in
theorem refNorm_den (l : List Sp) (hl : l.length ≤ 100000000000)  : Den Try.prog 25 [.sl 2 (l.map spC)]  (· = .sl 2 (normL l |>.map spC)) := by
 have hel := ends_len l
 refine den_of_aw Try.func25 rfl (Nat.le_of_ble_eq_true rfl) (fun w0 A hf => ?_)
 refine aw_seq_k (fun K1 hK1 => ?_)
 refine aw_region ?_
 refine x_pure rfl (p_assign_bad) ?_
 first | refine aops_end ?_ | refine aops_nil ?_
 refine hK1 _ ?_
 refine aw_seq_k (fun K2 hK2 => ?_)
 refine aw_region ?_
 refine x_pure rfl (p_move rfl) ?_
 refine x_step hf rfl (r_call rfl rfl Try.ent64 rfl (ends_den _ (by omega))) ?_
 refine x_pure rfl (p_assign rfl) ?_
 first | refine aops_end ?_ | refine aops_nil ?_
 refine hK2 _ ?_
 refine aw_seq_k (fun K3 hK3 => ?_)
 refine aw_region ?_
 refine x_nil hf 2 rfl rfl rfl ?_
 first | refine aops_end ?_ | refine aops_nil ?_
 refine hK3 _ ?_
 refine aw_seq_k (fun K4 hK4 => ?_)
 refine aw_seq_k (fun K5 hK5 => ?_)
 refine aw_region ?_
 refine x_pure rfl (p_assign rfl) ?_
 first | refine aops_end ?_ | refine aops_nil ?_
 refine hK5 _ ?_
 refine aw_block ?_
 refine aw_loop (ι := Nat × List Sp) (fun (⟨k, out⟩ : Nat × List Sp) => ⟨34, [(0, .sl 2 (l.map spC)), (3, .sl 1 ((endsL l).map intC)), (4, .own 4 2 0 out.length), (5, .s (.int .i64 (k : Nat)))], [(4, .buf 2 (out.map spC))]⟩) (fun (⟨k, out⟩ : Nat × List Sp) => piecesL (hasB l) [] (endsL l) = piecesL (hasB l) out (((endsL l)).drop k) ∧ out.length ≤ k ∧ k ≤ (endsL l).length) (fun (⟨k, out⟩ : Nat × List Sp) => (endsL l).length - k) (0, []) ?_ ?_ ?_
 · exact ⟨rfl, Nat.le_refl _, Nat.zero_le _⟩
 · exact le_of ⟨rfl, rfl, rfl, rfl, trivial⟩
 ·
  rintro ⟨k, out⟩ hC
  obtain ⟨hI, h1, h2⟩ := hC
  have hgl := fun s => glue_len out s
  refine aw_seq_k (fun K6 hK6 => ?_)
  refine aw_seq_k (fun K7 hK7 => ?_)
  refine aw_region ?_
  refine x_pure rfl (p_move rfl) ?_
  first | refine x_pure rfl (p_add rfl rfl (by omega) (by omega)) ?_ | refine x_pure rfl (p_bin rfl rfl rfl) ?_
  refine x_pure rfl (p_move rfl) ?_
  first | refine x_pure rfl (p_len_sl rfl Try.e96) ?_ | refine x_pure rfl (p_len_own rfl Try.e96) ?_ | refine x_pure rfl (p_len_nil rfl Try.e96) ?_
  refine x_pure rfl (p_bin rfl rfl rfl) ?_
  first | refine aops_end ?_ | refine aops_nil ?_
  refine hK7 _ ?_
  refine aw_cond_s rfl (fun hc1 => ?_) (fun hc1 => ?_)
  ·
   try simp only [bs] at hc1
   refine aw_skip ?_
   refine hK6 _ ?_
   refine aw_seq_k (fun K8 hK8 => ?_)
   refine aw_block ?_
   refine aw_seq_k (fun K9 hK9 => ?_)
   refine aw_region ?_
   refine x_pure rfl (p_move rfl) ?_
   refine x_pure rfl (p_move rfl) ?_
   refine x_pure rfl (p_move rfl) ?_
   first | refine x_pure rfl (p_idx_sl rfl rfl Try.e96 Try.c3 (by first | assumption | (refine ⟨by omega, ?_⟩; first | assumption | exact strs_at (by omega) | exact strs_at (by simp only [List.length_cons] at *; omega) | exact ints_at (by omega) | exact map_at (by omega) | exact list_at (by omega)) | exact ⟨by decide, rfl⟩)) ?_ | refine x_pure rfl (p_idx_own rfl rfl Try.e96 Try.c3 (by omega)) ?_
   first | refine x_pure rfl (p_load1 rfl Try.g3 rfl) ?_ | refine x_pure rfl (p_load1r rfl Try.g3 rfl rfl) ?_ | refine x_pure rfl (p_load1r rfl Try.g3 rfl (strs_ref (by simp only [List.length_cons] at *; omega))) ?_ | refine x_pure rfl (p_load1r rfl Try.g3 rfl (strs_ref (by omega))) ?_
   refine x_step hf rfl (r_call rfl rfl Try.ent65 rfl (refHas_den _ _ (by omega))) ?_
   first | refine aops_end ?_ | refine aops_nil ?_
   refine hK9 _ ?_
   refine aw_cond_s rfl (fun hc2 => ?_) (fun hc2 => ?_)
   ·
    try simp only [bs] at hc2
    refine aw_draw_tail hf (L := #[true, true, true, true, true, true, true, true, true, true, true, false, false]) 11 2 Try.mixed (by kernel_rfl) rfl (by kernel_rfl) rfl ?_
    refine d_pure [(4, _)] rfl rfl ⟨⟨rfl, rfl⟩, trivial⟩ rfl (p_move rfl) ?_
    refine d_pure [(3, _)] rfl rfl ⟨⟨rfl, rfl⟩, trivial⟩ rfl (p_move rfl) ?_
    refine d_pure [(5, _)] rfl rfl ⟨⟨rfl, rfl⟩, trivial⟩ rfl (p_move rfl) ?_
    first | refine d_pure [(22, _), (23, _)] rfl rfl ⟨⟨rfl, rfl⟩, ⟨rfl, rfl⟩, trivial⟩ rfl (p_idx_sl rfl rfl Try.e96 Try.c3 (by first | assumption | (refine ⟨by omega, ?_⟩; first | assumption | exact strs_at (by omega) | exact strs_at (by simp only [List.length_cons] at *; omega) | exact ints_at (by omega) | exact map_at (by omega) | exact list_at (by omega)) | exact ⟨by decide, rfl⟩)) ?_ | refine d_pure [(22, _), (23, _)] rfl rfl ⟨⟨rfl, rfl⟩, ⟨rfl, rfl⟩, trivial⟩ rfl (p_idx_own rfl rfl Try.e96 Try.c3 (by omega)) ?_
    first | refine d_pure [(24, _)] rfl rfl ⟨⟨rfl, rfl⟩, trivial⟩ rfl (p_load1 rfl Try.g3 rfl) ?_ | refine d_pure [(24, _)] rfl rfl ⟨⟨rfl, rfl⟩, trivial⟩ rfl (p_load1r rfl Try.g3 rfl rfl) ?_ | refine d_pure [(24, _)] rfl rfl ⟨⟨rfl, rfl⟩, trivial⟩ rfl (p_load1r rfl Try.g3 rfl (strs_ref (by simp only [List.length_cons] at *; omega))) ?_ | refine d_pure [(24, _)] rfl rfl ⟨⟨rfl, rfl⟩, trivial⟩ rfl (p_load1r rfl Try.g3 rfl (strs_ref (by omega))) ?_
    refine d_pure [(3, _)] rfl rfl ⟨⟨rfl, rfl⟩, trivial⟩ rfl (p_move rfl) ?_
    refine d_pure [(5, _)] rfl rfl ⟨⟨rfl, rfl⟩, trivial⟩ rfl (p_move rfl) ?_
    first | refine d_pure [(27, _)] rfl rfl ⟨⟨rfl, rfl⟩, trivial⟩ rfl (p_add rfl rfl (by omega) (by omega)) ?_ | refine d_pure [(27, _)] rfl rfl ⟨⟨rfl, rfl⟩, trivial⟩ rfl (p_bin rfl rfl rfl) ?_
    refine d_pure [(26, _), (28, _)] rfl rfl ⟨⟨rfl, rfl⟩, ⟨rfl, rfl⟩, trivial⟩ rfl (p_idx_sl rfl rfl Try.e96 Try.c3 (map_atZ (k := k + 1) (by omega) (by omega))) ?_
    first | refine d_pure [(29, _)] rfl rfl ⟨⟨rfl, rfl⟩, trivial⟩ rfl (p_load1 rfl Try.g3 rfl) ?_ | refine d_pure [(29, _)] rfl rfl ⟨⟨rfl, rfl⟩, trivial⟩ rfl (p_load1r rfl Try.g3 rfl rfl) ?_ | refine d_pure [(29, _)] rfl rfl ⟨⟨rfl, rfl⟩, trivial⟩ rfl (p_load1r rfl Try.g3 rfl (strs_ref (by simp only [List.length_cons] at *; omega))) ?_ | refine d_pure [(29, _)] rfl rfl ⟨⟨rfl, rfl⟩, trivial⟩ rfl (p_load1r rfl Try.g3 rfl (strs_ref (by omega))) ?_
    refine d_pure [(25, _), (30, _)] rfl rfl ⟨⟨rfl, rfl⟩, ⟨rfl, rfl⟩, trivial⟩ rfl (p_build rfl Try.z42 Try.pl42 (by simp [spC, intC, AV.cells, AV.one, Value.oneCell', splice, AV.kill, AV.clean, cleanL, AV.only]) rfl) ?_
    refine lex_tail (sl' := [(0, _), (3, _), (4, _), (5, _), (21, _), (31, _)]) rfl ⟨rfl, rfl, rfl, rfl, rfl, rfl, trivial⟩ rfl ?_
    refine aany_step 11 [] (by kernel_rfl) ⟨?_, trivial⟩
    ·
     refine ⟨_, rfl, rfl, ?_⟩
     refine aop_of_aops (ops := #[]) rfl ?_
     refine y_callR hf 4 rfl rfl rfl rfl rfl rfl Try.ent66 (glue_den out ((endsL l)[k], (endsL l)[k + 1]) _ rfl (by omega)) ?_
     rintro _ rfl
     refine aops_le (le_of (sl' := [(0, _), (3, _), (4, _), (5, _), (32, _)]) ⟨rfl, rfl, rfl, rfl, rfl, trivial⟩) ?_
     refine aops_any ?_
     refine aany_step 12 [] (by kernel_rfl) ⟨?_, trivial⟩
     ·
      refine ⟨_, rfl, rfl, ?_⟩
      refine aop_of_aops (ops := #[]) rfl ?_
      refine x_pure rfl (p_assign rfl) ?_
      refine aops_any ?_
      refine aany_end (by kernel_rfl) ?_
      refine hK8 _ ?_
      refine aw_region ?_
      refine x_pure rfl (p_move rfl) ?_
      first | refine x_pure rfl (p_add rfl rfl (by omega) (by omega)) ?_ | refine x_pure rfl (p_bin rfl rfl rfl) ?_
      refine x_pure rfl (p_assign rfl) ?_
      first | refine aops_end ?_ | refine aops_nil ?_
      first
      | exact ⟨(k + 1, glueL out ((endsL l)[k], (endsL l)[k + 1])), ⟨by rw [hI, piecesL_drop _ _ _ _ (by omega), if_pos (by simp_all)], by have := hgl ((endsL l)[k], (endsL l)[k + 1]); omega, by omega⟩, by simp only; omega, le_to ⟨rfl, rfl, (by first | rfl | (show some (AV.own 4 2 0 ((glueL _ _).map spC).length) = _; rw [List.length_map])), rfl, trivial⟩ rfl⟩
      | exact ⟨(k + 1, out), ⟨by rw [hI, piecesL_drop _ _ _ _ (by omega), if_neg (by simp_all)], by omega, by omega⟩, by simp only; omega, le_to ⟨rfl, rfl, (by first | rfl | (show some (AV.own 4 2 0 ((glueL _ _).map spC).length) = _; rw [List.length_map])), rfl, trivial⟩ rfl⟩
   ·
    try simp only [bs] at hc2
    refine aw_skip ?_
    refine hK8 _ ?_
    refine aw_region ?_
    refine x_pure rfl (p_move rfl) ?_
    first | refine x_pure rfl (p_add rfl rfl (by omega) (by omega)) ?_ | refine x_pure rfl (p_bin rfl rfl rfl) ?_
    refine x_pure rfl (p_assign rfl) ?_
    first | refine aops_end ?_ | refine aops_nil ?_
    first
    | exact ⟨(k + 1, glueL out ((endsL l)[k], (endsL l)[k + 1])), ⟨by rw [hI, piecesL_drop _ _ _ _ (by omega), if_pos (by simp_all)], by have := hgl ((endsL l)[k], (endsL l)[k + 1]); omega, by omega⟩, by simp only; omega, le_to ⟨rfl, rfl, (by first | rfl | (show some (AV.own 4 2 0 ((glueL _ _).map spC).length) = _; rw [List.length_map])), rfl, trivial⟩ rfl⟩
    | exact ⟨(k + 1, out), ⟨by rw [hI, piecesL_drop _ _ _ _ (by omega), if_neg (by simp_all)], by omega, by omega⟩, by simp only; omega, le_to ⟨rfl, rfl, (by first | rfl | (show some (AV.own 4 2 0 ((glueL _ _).map spC).length) = _; rw [List.length_map])), rfl, trivial⟩ rfl⟩
  ·
   try simp only [bs] at hc1
   refine aw_exit ?_
   refine hK4 _ ?_
   refine aw_seq_k (fun K10 hK10 => ?_)
   refine aw_region ?_
   refine x_pure rfl (p_move rfl) ?_
   refine x_pure rfl (p_assign rfl) ?_
   first | refine aops_end ?_ | refine aops_nil ?_
   refine hK10 _ ?_
   refine aw_ret ?_
   refine ⟨_, rfl, ?_⟩
   refine (conv_whole (g := 4) rfl (by rw [List.length_map])).trans ?_
   rw [show normL l = piecesL (hasB l) [] (endsL l) from rfl, hI, piecesL_end _ _ _ _ (by omega)]

set_option maxRecDepth 20000 in
set_option maxHeartbeats 1000000 in
theorem refMeet_den (a b : List Sp) (ha : a.length ≤ 10000000000) (hb0 : b.length ≤ 10000000000)  : Den Try.prog 28 [.sl 2 (a.map spC), .sl 2 (b.map spC)]  (· = .sl 2 (meetL a b |>.map spC)) := by
 have hel := ends_len (a ++ b)
 rw [List.length_append] at hel
 refine den_of_aw Try.func28 rfl (Nat.le_of_ble_eq_true rfl) (fun w0 A hf => ?_)
 refine aw_seq_k (fun K1 hK1 => ?_)
 refine aw_region ?_
 refine x_pure rfl (p_assign_bad) ?_
 first | refine aops_end ?_ | refine aops_nil ?_
 refine hK1 _ ?_
 refine aw_seq_k (fun K2 hK2 => ?_)
 refine aw_region ?_
 refine y_buildSlice hf rfl rfl rfl Try.ap31 rfl rfl rfl rfl (by simp [spC, intC, AV.cells, AV.leaf, Value.oneCell', splice, AV.kill, AV.clean, cleanL, AV.only]) ?_
 refine x_pure rfl (p_move rfl) ?_
 refine x_append hf rfl Try.ap31 rfl rfl rfl (.inl rfl) (by first | rfl | simp only [List.length_append, List.length_map, List.length_nil, Nat.zero_add]) rfl (by first | rfl | simp [asrc, look]) (by first | (simp only [maxLen, List.length_map, List.length_append, List.length_cons, List.length_nil]; omega) | (simp [maxLen] <;> omega)) (by first | (simp only [List.length_map, List.length_append, List.length_cons, List.length_nil]; omega) | (simp <;> omega)) ?_
 refine aops_le (le_of (sl' := [(0, _), (1, _), (10, _)]) ⟨rfl, rfl, rfl, trivial⟩) ?_
 refine x_pure rfl (p_move rfl) ?_
 refine x_append hf rfl Try.ap31 rfl rfl rfl (.inl rfl) (by first | rfl | simp only [List.length_append, List.length_map, List.length_nil, Nat.zero_add]) rfl (by first | rfl | simp [asrc, look]) (by first | (simp only [maxLen, List.length_map, List.length_append, List.length_cons, List.length_nil]; omega) | (simp [maxLen] <;> omega)) (by first | (simp only [List.length_map, List.length_append, List.length_cons, List.length_nil]; omega) | (simp <;> omega)) ?_
 refine aops_le (le_of (sl' := [(0, _), (1, _), (12, _)]) ⟨rfl, rfl, rfl, trivial⟩) ?_
 have hab2 : (a ++ b).length = a.length + b.length := List.length_append
 refine aops_le (le_freeze (sl' := [(12, .sl 2 ((a ++ b).map spC)), (0, _), (1, _)]) ⟨⟨_, rfl, (only_whole (g := 8) rfl (by simp only [List.length_append, List.length_map, List.length_nil])).trans (by rw [List.map_append]; rfl)⟩, ⟨_, rfl, rfl⟩, ⟨_, rfl, rfl⟩, trivial⟩) ?_
 refine x_step hf rfl (r_call rfl rfl Try.ent64 rfl (ends_den _ (by omega))) ?_
 refine x_pure rfl (p_assign rfl) ?_
 first | refine aops_end ?_ | refine aops_nil ?_
 refine hK2 _ ?_
 refine aw_seq_k (fun K3 hK3 => ?_)
 refine aw_region ?_
 refine x_nil hf 2 rfl rfl rfl ?_
 first | refine aops_end ?_ | refine aops_nil ?_
 refine hK3 _ ?_
 refine aw_seq_k (fun K4 hK4 => ?_)
 refine aw_seq_k (fun K5 hK5 => ?_)
 refine aw_region ?_
 refine x_pure rfl (p_assign rfl) ?_
 first | refine aops_end ?_ | refine aops_nil ?_
 refine hK5 _ ?_
 refine aw_block ?_
 refine aw_loop (ι := Nat × List Sp) (fun (⟨k, out⟩ : Nat × List Sp) => ⟨48, [(0, .sl 2 (a.map spC)), (1, .sl 2 (b.map spC)), (5, .sl 1 ((endsL (a ++ b)).map intC)), (6, .own 6 2 0 out.length), (7, .s (.int .i64 (k : Nat)))], [(6, .buf 2 (out.map spC))]⟩) (fun (⟨k, out⟩ : Nat × List Sp) => piecesL (fun t => hasB a t && hasB b t) [] (endsL (a ++ b)) = piecesL (fun t => hasB a t && hasB b t) out (((endsL (a ++ b))).drop k) ∧ out.length ≤ k ∧ k ≤ (endsL (a ++ b)).length) (fun (⟨k, out⟩ : Nat × List Sp) => (endsL (a ++ b)).length - k) (0, []) ?_ ?_ ?_
 · exact ⟨rfl, Nat.le_refl _, Nat.zero_le _⟩
 · exact le_of ⟨rfl, rfl, rfl, rfl, rfl, trivial⟩
 ·
  rintro ⟨k, out⟩ hC
  obtain ⟨hI, h1, h2⟩ := hC
  have hgl := fun s => glue_len out s
  refine aw_seq_k (fun K6 hK6 => ?_)
  refine aw_seq_k (fun K7 hK7 => ?_)
  refine aw_region ?_
  refine x_pure rfl (p_move rfl) ?_
  first | refine x_pure rfl (p_add rfl rfl (by omega) (by omega)) ?_ | refine x_pure rfl (p_bin rfl rfl rfl) ?_
  refine x_pure rfl (p_move rfl) ?_
  first | refine x_pure rfl (p_len_sl rfl Try.e96) ?_ | refine x_pure rfl (p_len_own rfl Try.e96) ?_ | refine x_pure rfl (p_len_nil rfl Try.e96) ?_
  refine x_pure rfl (p_bin rfl rfl rfl) ?_
  first | refine aops_end ?_ | refine aops_nil ?_
  refine hK7 _ ?_
  refine aw_cond_s rfl (fun hc1 => ?_) (fun hc1 => ?_)
  ·
   try simp only [bs] at hc1
   refine aw_skip ?_
   refine hK6 _ ?_
   refine aw_seq_k (fun K8 hK8 => ?_)
   refine aw_block ?_
   refine aw_seq_k (fun K9 hK9 => ?_)
   refine aw_region ?_
   refine x_pure rfl (p_move rfl) ?_
   refine x_pure rfl (p_move rfl) ?_
   refine x_pure rfl (p_move rfl) ?_
   first | refine x_pure rfl (p_idx_sl rfl rfl Try.e96 Try.c3 (by first | assumption | (refine ⟨by omega, ?_⟩; first | assumption | exact strs_at (by omega) | exact strs_at (by simp only [List.length_cons] at *; omega) | exact ints_at (by omega) | exact map_at (by omega) | exact list_at (by omega)) | exact ⟨by decide, rfl⟩)) ?_ | refine x_pure rfl (p_idx_own rfl rfl Try.e96 Try.c3 (by omega)) ?_
   first | refine x_pure rfl (p_load1 rfl Try.g3 rfl) ?_ | refine x_pure rfl (p_load1r rfl Try.g3 rfl rfl) ?_ | refine x_pure rfl (p_load1r rfl Try.g3 rfl (strs_ref (by simp only [List.length_cons] at *; omega))) ?_ | refine x_pure rfl (p_load1r rfl Try.g3 rfl (strs_ref (by omega))) ?_
   refine x_step hf rfl (r_call rfl rfl Try.ent65 rfl (refHas_den _ _ (by omega))) ?_
   refine x_pure rfl (p_move rfl) ?_
   refine y_guard_s rfl rfl rfl (fun hg2 => ?_) (fun hg2 => ?_)
   ·
    try simp only [bs] at hg2
    refine x_pure rfl (p_move rfl) ?_
    refine x_guard_t rfl rfl rfl ?_
    refine x_pure rfl (p_move rfl) ?_
    refine x_guard_t rfl rfl rfl ?_
    refine x_pure rfl (p_move rfl) ?_
    refine x_guard_t rfl rfl rfl ?_
    first | refine x_pure rfl (p_idx_sl rfl rfl Try.e96 Try.c3 (by first | assumption | (refine ⟨by omega, ?_⟩; first | assumption | exact strs_at (by omega) | exact strs_at (by simp only [List.length_cons] at *; omega) | exact ints_at (by omega) | exact map_at (by omega) | exact list_at (by omega)) | exact ⟨by decide, rfl⟩)) ?_ | refine x_pure rfl (p_idx_own rfl rfl Try.e96 Try.c3 (by omega)) ?_
    refine x_guard_t rfl rfl rfl ?_
    first | refine x_pure rfl (p_load1 rfl Try.g3 rfl) ?_ | refine x_pure rfl (p_load1r rfl Try.g3 rfl rfl) ?_ | refine x_pure rfl (p_load1r rfl Try.g3 rfl (strs_ref (by simp only [List.length_cons] at *; omega))) ?_ | refine x_pure rfl (p_load1r rfl Try.g3 rfl (strs_ref (by omega))) ?_
    refine x_guard_t rfl rfl rfl ?_
    refine x_step hf rfl (r_call rfl rfl Try.ent65 rfl (refHas_den _ _ (by omega))) ?_
    refine x_pure rfl (p_pick_t rfl rfl) ?_
    first | refine aops_end ?_ | refine aops_nil ?_
    refine hK9 _ ?_
    refine aw_cond_s rfl (fun hc3 => ?_) (fun hc3 => ?_)
    ·
     try simp only [bs] at hc3
     refine aw_draw_tail hf (L := #[true, true, true, true, true, true, true, true, true, true, true, false, false]) 11 2 Try.mixed (by kernel_rfl) rfl (by kernel_rfl) rfl ?_
     refine d_pure [(6, _)] rfl rfl ⟨⟨rfl, rfl⟩, trivial⟩ rfl (p_move rfl) ?_
     refine d_pure [(5, _)] rfl rfl ⟨⟨rfl, rfl⟩, trivial⟩ rfl (p_move rfl) ?_
     refine d_pure [(7, _)] rfl rfl ⟨⟨rfl, rfl⟩, trivial⟩ rfl (p_move rfl) ?_
     first | refine d_pure [(36, _), (37, _)] rfl rfl ⟨⟨rfl, rfl⟩, ⟨rfl, rfl⟩, trivial⟩ rfl (p_idx_sl rfl rfl Try.e96 Try.c3 (by first | assumption | (refine ⟨by omega, ?_⟩; first | assumption | exact strs_at (by omega) | exact strs_at (by simp only [List.length_cons] at *; omega) | exact ints_at (by omega) | exact map_at (by omega) | exact list_at (by omega)) | exact ⟨by decide, rfl⟩)) ?_ | refine d_pure [(36, _), (37, _)] rfl rfl ⟨⟨rfl, rfl⟩, ⟨rfl, rfl⟩, trivial⟩ rfl (p_idx_own rfl rfl Try.e96 Try.c3 (by omega)) ?_
     first | refine d_pure [(38, _)] rfl rfl ⟨⟨rfl, rfl⟩, trivial⟩ rfl (p_load1 rfl Try.g3 rfl) ?_ | refine d_pure [(38, _)] rfl rfl ⟨⟨rfl, rfl⟩, trivial⟩ rfl (p_load1r rfl Try.g3 rfl rfl) ?_ | refine d_pure [(38, _)] rfl rfl ⟨⟨rfl, rfl⟩, trivial⟩ rfl (p_load1r rfl Try.g3 rfl (strs_ref (by simp only [List.length_cons] at *; omega))) ?_ | refine d_pure [(38, _)] rfl rfl ⟨⟨rfl, rfl⟩, trivial⟩ rfl (p_load1r rfl Try.g3 rfl (strs_ref (by omega))) ?_
     refine d_pure [(5, _)] rfl rfl ⟨⟨rfl, rfl⟩, trivial⟩ rfl (p_move rfl) ?_
     refine d_pure [(7, _)] rfl rfl ⟨⟨rfl, rfl⟩, trivial⟩ rfl (p_move rfl) ?_
     first | refine d_pure [(41, _)] rfl rfl ⟨⟨rfl, rfl⟩, trivial⟩ rfl (p_add rfl rfl (by omega) (by omega)) ?_ | refine d_pure [(41, _)] rfl rfl ⟨⟨rfl, rfl⟩, trivial⟩ rfl (p_bin rfl rfl rfl) ?_
     refine d_pure [(40, _), (42, _)] rfl rfl ⟨⟨rfl, rfl⟩, ⟨rfl, rfl⟩, trivial⟩ rfl (p_idx_sl rfl rfl Try.e96 Try.c3 (map_atZ (k := k + 1) (by omega) (by omega))) ?_
     first | refine d_pure [(43, _)] rfl rfl ⟨⟨rfl, rfl⟩, trivial⟩ rfl (p_load1 rfl Try.g3 rfl) ?_ | refine d_pure [(43, _)] rfl rfl ⟨⟨rfl, rfl⟩, trivial⟩ rfl (p_load1r rfl Try.g3 rfl rfl) ?_ | refine d_pure [(43, _)] rfl rfl ⟨⟨rfl, rfl⟩, trivial⟩ rfl (p_load1r rfl Try.g3 rfl (strs_ref (by simp only [List.length_cons] at *; omega))) ?_ | refine d_pure [(43, _)] rfl rfl ⟨⟨rfl, rfl⟩, trivial⟩ rfl (p_load1r rfl Try.g3 rfl (strs_ref (by omega))) ?_
     refine d_pure [(39, _), (44, _)] rfl rfl ⟨⟨rfl, rfl⟩, ⟨rfl, rfl⟩, trivial⟩ rfl (p_build rfl Try.z42 Try.pl42 (by simp [spC, intC, AV.cells, AV.one, Value.oneCell', splice, AV.kill, AV.clean, cleanL, AV.only]) rfl) ?_
     refine lex_tail (sl' := [(0, _), (1, _), (5, _), (6, _), (7, _), (35, _), (45, _)]) rfl ⟨rfl, rfl, rfl, rfl, rfl, rfl, rfl, trivial⟩ rfl ?_
     refine aany_step 11 [] (by kernel_rfl) ⟨?_, trivial⟩
     ·
      refine ⟨_, rfl, rfl, ?_⟩
      refine aop_of_aops (ops := #[]) rfl ?_
      refine y_callR hf 6 rfl rfl rfl rfl rfl rfl Try.ent66 (glue_den out ((endsL (a ++ b))[k], (endsL (a ++ b))[k + 1]) _ rfl (by omega)) ?_
      rintro _ rfl
      refine aops_le (le_of (sl' := [(0, _), (1, _), (5, _), (6, _), (7, _), (46, _)]) ⟨rfl, rfl, rfl, rfl, rfl, rfl, trivial⟩) ?_
      refine aops_any ?_
      refine aany_step 12 [] (by kernel_rfl) ⟨?_, trivial⟩
      ·
       refine ⟨_, rfl, rfl, ?_⟩
       refine aop_of_aops (ops := #[]) rfl ?_
       refine x_pure rfl (p_assign rfl) ?_
       refine aops_any ?_
       refine aany_end (by kernel_rfl) ?_
       refine hK8 _ ?_
       refine aw_region ?_
       refine x_pure rfl (p_move rfl) ?_
       first | refine x_pure rfl (p_add rfl rfl (by omega) (by omega)) ?_ | refine x_pure rfl (p_bin rfl rfl rfl) ?_
       refine x_pure rfl (p_assign rfl) ?_
       first | refine aops_end ?_ | refine aops_nil ?_
       first
       | exact ⟨(k + 1, glueL out ((endsL (a ++ b))[k], (endsL (a ++ b))[k + 1])), ⟨by rw [hI, piecesL_drop _ _ _ _ (by omega), if_pos (by simp_all)], by have := hgl ((endsL (a ++ b))[k], (endsL (a ++ b))[k + 1]); omega, by omega⟩, by simp only; omega, le_to ⟨rfl, rfl, rfl, (by first | rfl | (show some (AV.own 6 2 0 ((glueL _ _).map spC).length) = _; rw [List.length_map])), rfl, trivial⟩ rfl⟩
       | exact ⟨(k + 1, out), ⟨by rw [hI, piecesL_drop _ _ _ _ (by omega), if_neg (by simp_all)], by omega, by omega⟩, by simp only; omega, le_to ⟨rfl, rfl, rfl, (by first | rfl | (show some (AV.own 6 2 0 ((glueL _ _).map spC).length) = _; rw [List.length_map])), rfl, trivial⟩ rfl⟩
    ·
     try simp only [bs] at hc3
     refine aw_skip ?_
     refine hK8 _ ?_
     refine aw_region ?_
     refine x_pure rfl (p_move rfl) ?_
     first | refine x_pure rfl (p_add rfl rfl (by omega) (by omega)) ?_ | refine x_pure rfl (p_bin rfl rfl rfl) ?_
     refine x_pure rfl (p_assign rfl) ?_
     first | refine aops_end ?_ | refine aops_nil ?_
     first
     | exact ⟨(k + 1, glueL out ((endsL (a ++ b))[k], (endsL (a ++ b))[k + 1])), ⟨by rw [hI, piecesL_drop _ _ _ _ (by omega), if_pos (by simp_all)], by have := hgl ((endsL (a ++ b))[k], (endsL (a ++ b))[k + 1]); omega, by omega⟩, by simp only; omega, le_to ⟨rfl, rfl, rfl, (by first | rfl | (show some (AV.own 6 2 0 ((glueL _ _).map spC).length) = _; rw [List.length_map])), rfl, trivial⟩ rfl⟩
     | exact ⟨(k + 1, out), ⟨by rw [hI, piecesL_drop _ _ _ _ (by omega), if_neg (by simp_all)], by omega, by omega⟩, by simp only; omega, le_to ⟨rfl, rfl, rfl, (by first | rfl | (show some (AV.own 6 2 0 ((glueL _ _).map spC).length) = _; rw [List.length_map])), rfl, trivial⟩ rfl⟩
   ·
    try simp only [bs] at hg2
    refine x_guard_f rfl rfl rfl ?_
    refine x_guard_f rfl rfl rfl ?_
    refine x_guard_f rfl rfl rfl ?_
    refine x_guard_f rfl rfl rfl ?_
    refine x_guard_f rfl rfl rfl ?_
    refine x_pure rfl (p_pick_f rfl rfl) ?_
    first | refine aops_end ?_ | refine aops_nil ?_
    refine hK9 _ ?_
    refine aw_cond_f rfl ?_
    refine aw_skip ?_
    refine hK8 _ ?_
    refine aw_region ?_
    refine x_pure rfl (p_move rfl) ?_
    first | refine x_pure rfl (p_add rfl rfl (by omega) (by omega)) ?_ | refine x_pure rfl (p_bin rfl rfl rfl) ?_
    refine x_pure rfl (p_assign rfl) ?_
    first | refine aops_end ?_ | refine aops_nil ?_
    first
    | exact ⟨(k + 1, glueL out ((endsL (a ++ b))[k], (endsL (a ++ b))[k + 1])), ⟨by rw [hI, piecesL_drop _ _ _ _ (by omega), if_pos (by simp_all)], by have := hgl ((endsL (a ++ b))[k], (endsL (a ++ b))[k + 1]); omega, by omega⟩, by simp only; omega, le_to ⟨rfl, rfl, rfl, (by first | rfl | (show some (AV.own 6 2 0 ((glueL _ _).map spC).length) = _; rw [List.length_map])), rfl, trivial⟩ rfl⟩
    | exact ⟨(k + 1, out), ⟨by rw [hI, piecesL_drop _ _ _ _ (by omega), if_neg (by simp_all)], by omega, by omega⟩, by simp only; omega, le_to ⟨rfl, rfl, rfl, (by first | rfl | (show some (AV.own 6 2 0 ((glueL _ _).map spC).length) = _; rw [List.length_map])), rfl, trivial⟩ rfl⟩
  ·
   try simp only [bs] at hc1
   refine aw_exit ?_
   refine hK4 _ ?_
   refine aw_seq_k (fun K10 hK10 => ?_)
   refine aw_region ?_
   refine x_pure rfl (p_move rfl) ?_
   refine x_pure rfl (p_assign rfl) ?_
   first | refine aops_end ?_ | refine aops_nil ?_
   refine hK10 _ ?_
   refine aw_ret ?_
   refine ⟨_, rfl, ?_⟩
   refine (conv_whole (g := 6) rfl (by rw [List.length_map])).trans ?_
   rw [show meetL a b = piecesL (fun t => hasB a t && hasB b t) [] (endsL (a ++ b)) from rfl, hI, piecesL_end _ _ _ _ (by omega)]

set_option maxRecDepth 20000 in
set_option maxHeartbeats 1000000 in
theorem refLess_den (a b : List Sp) (ha : a.length ≤ 10000000000) (hb0 : b.length ≤ 10000000000)  : Den Try.prog 29 [.sl 2 (a.map spC), .sl 2 (b.map spC)]  (· = .sl 2 (lessL a b |>.map spC)) := by
 have hel := ends_len (a ++ b)
 rw [List.length_append] at hel
 refine den_of_aw Try.func29 rfl (Nat.le_of_ble_eq_true rfl) (fun w0 A hf => ?_)
 refine aw_seq_k (fun K1 hK1 => ?_)
 refine aw_region ?_
 refine x_pure rfl (p_assign_bad) ?_
 first | refine aops_end ?_ | refine aops_nil ?_
 refine hK1 _ ?_
 refine aw_seq_k (fun K2 hK2 => ?_)
 refine aw_region ?_
 refine y_buildSlice hf rfl rfl rfl Try.ap31 rfl rfl rfl rfl (by simp [spC, intC, AV.cells, AV.leaf, Value.oneCell', splice, AV.kill, AV.clean, cleanL, AV.only]) ?_
 refine x_pure rfl (p_move rfl) ?_
 refine x_append hf rfl Try.ap31 rfl rfl rfl (.inl rfl) (by first | rfl | simp only [List.length_append, List.length_map, List.length_nil, Nat.zero_add]) rfl (by first | rfl | simp [asrc, look]) (by first | (simp only [maxLen, List.length_map, List.length_append, List.length_cons, List.length_nil]; omega) | (simp [maxLen] <;> omega)) (by first | (simp only [List.length_map, List.length_append, List.length_cons, List.length_nil]; omega) | (simp <;> omega)) ?_
 refine aops_le (le_of (sl' := [(0, _), (1, _), (10, _)]) ⟨rfl, rfl, rfl, trivial⟩) ?_
 refine x_pure rfl (p_move rfl) ?_
 refine x_append hf rfl Try.ap31 rfl rfl rfl (.inl rfl) (by first | rfl | simp only [List.length_append, List.length_map, List.length_nil, Nat.zero_add]) rfl (by first | rfl | simp [asrc, look]) (by first | (simp only [maxLen, List.length_map, List.length_append, List.length_cons, List.length_nil]; omega) | (simp [maxLen] <;> omega)) (by first | (simp only [List.length_map, List.length_append, List.length_cons, List.length_nil]; omega) | (simp <;> omega)) ?_
 refine aops_le (le_of (sl' := [(0, _), (1, _), (12, _)]) ⟨rfl, rfl, rfl, trivial⟩) ?_
 have hab2 : (a ++ b).length = a.length + b.length := List.length_append
 refine aops_le (le_freeze (sl' := [(12, .sl 2 ((a ++ b).map spC)), (0, _), (1, _)]) ⟨⟨_, rfl, (only_whole (g := 8) rfl (by simp only [List.length_append, List.length_map, List.length_nil])).trans (by rw [List.map_append]; rfl)⟩, ⟨_, rfl, rfl⟩, ⟨_, rfl, rfl⟩, trivial⟩) ?_
 refine x_step hf rfl (r_call rfl rfl Try.ent64 rfl (ends_den _ (by omega))) ?_
 refine x_pure rfl (p_assign rfl) ?_
 first | refine aops_end ?_ | refine aops_nil ?_
 refine hK2 _ ?_
 refine aw_seq_k (fun K3 hK3 => ?_)
 refine aw_region ?_
 refine x_nil hf 2 rfl rfl rfl ?_
 first | refine aops_end ?_ | refine aops_nil ?_
 refine hK3 _ ?_
 refine aw_seq_k (fun K4 hK4 => ?_)
 refine aw_seq_k (fun K5 hK5 => ?_)
 refine aw_region ?_
 refine x_pure rfl (p_assign rfl) ?_
 first | refine aops_end ?_ | refine aops_nil ?_
 refine hK5 _ ?_
 refine aw_block ?_
 refine aw_loop (ι := Nat × List Sp) (fun (⟨k, out⟩ : Nat × List Sp) => ⟨49, [(0, .sl 2 (a.map spC)), (1, .sl 2 (b.map spC)), (5, .sl 1 ((endsL (a ++ b)).map intC)), (6, .own 6 2 0 out.length), (7, .s (.int .i64 (k : Nat)))], [(6, .buf 2 (out.map spC))]⟩) (fun (⟨k, out⟩ : Nat × List Sp) => piecesL (fun t => hasB a t && !hasB b t) [] (endsL (a ++ b)) = piecesL (fun t => hasB a t && !hasB b t) out (((endsL (a ++ b))).drop k) ∧ out.length ≤ k ∧ k ≤ (endsL (a ++ b)).length) (fun (⟨k, out⟩ : Nat × List Sp) => (endsL (a ++ b)).length - k) (0, []) ?_ ?_ ?_
 · exact ⟨rfl, Nat.le_refl _, Nat.zero_le _⟩
 · exact le_of ⟨rfl, rfl, rfl, rfl, rfl, trivial⟩
 ·
  rintro ⟨k, out⟩ hC
  obtain ⟨hI, h1, h2⟩ := hC
  have hgl := fun s => glue_len out s
  refine aw_seq_k (fun K6 hK6 => ?_)
  refine aw_seq_k (fun K7 hK7 => ?_)
  refine aw_region ?_
  refine x_pure rfl (p_move rfl) ?_
  first | refine x_pure rfl (p_add rfl rfl (by omega) (by omega)) ?_ | refine x_pure rfl (p_bin rfl rfl rfl) ?_
  refine x_pure rfl (p_move rfl) ?_
  first | refine x_pure rfl (p_len_sl rfl Try.e96) ?_ | refine x_pure rfl (p_len_own rfl Try.e96) ?_ | refine x_pure rfl (p_len_nil rfl Try.e96) ?_
  refine x_pure rfl (p_bin rfl rfl rfl) ?_
  first | refine aops_end ?_ | refine aops_nil ?_
  refine hK7 _ ?_
  refine aw_cond_s rfl (fun hc1 => ?_) (fun hc1 => ?_)
  ·
   try simp only [bs] at hc1
   refine aw_skip ?_
   refine hK6 _ ?_
   refine aw_seq_k (fun K8 hK8 => ?_)
   refine aw_block ?_
   refine aw_seq_k (fun K9 hK9 => ?_)
   refine aw_region ?_
   refine x_pure rfl (p_move rfl) ?_
   refine x_pure rfl (p_move rfl) ?_
   refine x_pure rfl (p_move rfl) ?_
   first | refine x_pure rfl (p_idx_sl rfl rfl Try.e96 Try.c3 (by first | assumption | (refine ⟨by omega, ?_⟩; first | assumption | exact strs_at (by omega) | exact strs_at (by simp only [List.length_cons] at *; omega) | exact ints_at (by omega) | exact map_at (by omega) | exact list_at (by omega)) | exact ⟨by decide, rfl⟩)) ?_ | refine x_pure rfl (p_idx_own rfl rfl Try.e96 Try.c3 (by omega)) ?_
   first | refine x_pure rfl (p_load1 rfl Try.g3 rfl) ?_ | refine x_pure rfl (p_load1r rfl Try.g3 rfl rfl) ?_ | refine x_pure rfl (p_load1r rfl Try.g3 rfl (strs_ref (by simp only [List.length_cons] at *; omega))) ?_ | refine x_pure rfl (p_load1r rfl Try.g3 rfl (strs_ref (by omega))) ?_
   refine x_step hf rfl (r_call rfl rfl Try.ent65 rfl (refHas_den _ _ (by omega))) ?_
   refine x_pure rfl (p_move rfl) ?_
   refine y_guard_s rfl rfl rfl (fun hg2 => ?_) (fun hg2 => ?_)
   ·
    try simp only [bs] at hg2
    refine x_pure rfl (p_move rfl) ?_
    refine x_guard_t rfl rfl rfl ?_
    refine x_pure rfl (p_move rfl) ?_
    refine x_guard_t rfl rfl rfl ?_
    refine x_pure rfl (p_move rfl) ?_
    refine x_guard_t rfl rfl rfl ?_
    first | refine x_pure rfl (p_idx_sl rfl rfl Try.e96 Try.c3 (by first | assumption | (refine ⟨by omega, ?_⟩; first | assumption | exact strs_at (by omega) | exact strs_at (by simp only [List.length_cons] at *; omega) | exact ints_at (by omega) | exact map_at (by omega) | exact list_at (by omega)) | exact ⟨by decide, rfl⟩)) ?_ | refine x_pure rfl (p_idx_own rfl rfl Try.e96 Try.c3 (by omega)) ?_
    refine x_guard_t rfl rfl rfl ?_
    first | refine x_pure rfl (p_load1 rfl Try.g3 rfl) ?_ | refine x_pure rfl (p_load1r rfl Try.g3 rfl rfl) ?_ | refine x_pure rfl (p_load1r rfl Try.g3 rfl (strs_ref (by simp only [List.length_cons] at *; omega))) ?_ | refine x_pure rfl (p_load1r rfl Try.g3 rfl (strs_ref (by omega))) ?_
    refine x_guard_t rfl rfl rfl ?_
    refine x_step hf rfl (r_call rfl rfl Try.ent65 rfl (refHas_den _ _ (by omega))) ?_
    refine x_guard_t rfl rfl rfl ?_
    refine x_pure rfl (p_not rfl) ?_
    refine x_pure rfl (p_pick_t rfl rfl) ?_
    first | refine aops_end ?_ | refine aops_nil ?_
    refine hK9 _ ?_
    refine aw_cond_s rfl (fun hc3 => ?_) (fun hc3 => ?_)
    ·
     try simp only [bs] at hc3
     refine aw_draw_tail hf (L := #[true, true, true, true, true, true, true, true, true, true, true, false, false]) 11 2 Try.mixed (by kernel_rfl) rfl (by kernel_rfl) rfl ?_
     refine d_pure [(6, _)] rfl rfl ⟨⟨rfl, rfl⟩, trivial⟩ rfl (p_move rfl) ?_
     refine d_pure [(5, _)] rfl rfl ⟨⟨rfl, rfl⟩, trivial⟩ rfl (p_move rfl) ?_
     refine d_pure [(7, _)] rfl rfl ⟨⟨rfl, rfl⟩, trivial⟩ rfl (p_move rfl) ?_
     first | refine d_pure [(37, _), (38, _)] rfl rfl ⟨⟨rfl, rfl⟩, ⟨rfl, rfl⟩, trivial⟩ rfl (p_idx_sl rfl rfl Try.e96 Try.c3 (by first | assumption | (refine ⟨by omega, ?_⟩; first | assumption | exact strs_at (by omega) | exact strs_at (by simp only [List.length_cons] at *; omega) | exact ints_at (by omega) | exact map_at (by omega) | exact list_at (by omega)) | exact ⟨by decide, rfl⟩)) ?_ | refine d_pure [(37, _), (38, _)] rfl rfl ⟨⟨rfl, rfl⟩, ⟨rfl, rfl⟩, trivial⟩ rfl (p_idx_own rfl rfl Try.e96 Try.c3 (by omega)) ?_
     first | refine d_pure [(39, _)] rfl rfl ⟨⟨rfl, rfl⟩, trivial⟩ rfl (p_load1 rfl Try.g3 rfl) ?_ | refine d_pure [(39, _)] rfl rfl ⟨⟨rfl, rfl⟩, trivial⟩ rfl (p_load1r rfl Try.g3 rfl rfl) ?_ | refine d_pure [(39, _)] rfl rfl ⟨⟨rfl, rfl⟩, trivial⟩ rfl (p_load1r rfl Try.g3 rfl (strs_ref (by simp only [List.length_cons] at *; omega))) ?_ | refine d_pure [(39, _)] rfl rfl ⟨⟨rfl, rfl⟩, trivial⟩ rfl (p_load1r rfl Try.g3 rfl (strs_ref (by omega))) ?_
     refine d_pure [(5, _)] rfl rfl ⟨⟨rfl, rfl⟩, trivial⟩ rfl (p_move rfl) ?_
     refine d_pure [(7, _)] rfl rfl ⟨⟨rfl, rfl⟩, trivial⟩ rfl (p_move rfl) ?_
     first | refine d_pure [(42, _)] rfl rfl ⟨⟨rfl, rfl⟩, trivial⟩ rfl (p_add rfl rfl (by omega) (by omega)) ?_ | refine d_pure [(42, _)] rfl rfl ⟨⟨rfl, rfl⟩, trivial⟩ rfl (p_bin rfl rfl rfl) ?_
     refine d_pure [(41, _), (43, _)] rfl rfl ⟨⟨rfl, rfl⟩, ⟨rfl, rfl⟩, trivial⟩ rfl (p_idx_sl rfl rfl Try.e96 Try.c3 (map_atZ (k := k + 1) (by omega) (by omega))) ?_
     first | refine d_pure [(44, _)] rfl rfl ⟨⟨rfl, rfl⟩, trivial⟩ rfl (p_load1 rfl Try.g3 rfl) ?_ | refine d_pure [(44, _)] rfl rfl ⟨⟨rfl, rfl⟩, trivial⟩ rfl (p_load1r rfl Try.g3 rfl rfl) ?_ | refine d_pure [(44, _)] rfl rfl ⟨⟨rfl, rfl⟩, trivial⟩ rfl (p_load1r rfl Try.g3 rfl (strs_ref (by simp only [List.length_cons] at *; omega))) ?_ | refine d_pure [(44, _)] rfl rfl ⟨⟨rfl, rfl⟩, trivial⟩ rfl (p_load1r rfl Try.g3 rfl (strs_ref (by omega))) ?_
     refine d_pure [(40, _), (45, _)] rfl rfl ⟨⟨rfl, rfl⟩, ⟨rfl, rfl⟩, trivial⟩ rfl (p_build rfl Try.z42 Try.pl42 (by simp [spC, intC, AV.cells, AV.one, Value.oneCell', splice, AV.kill, AV.clean, cleanL, AV.only]) rfl) ?_
     refine lex_tail (sl' := [(0, _), (1, _), (5, _), (6, _), (7, _), (36, _), (46, _)]) rfl ⟨rfl, rfl, rfl, rfl, rfl, rfl, rfl, trivial⟩ rfl ?_
     refine aany_step 11 [] (by kernel_rfl) ⟨?_, trivial⟩
     ·
      refine ⟨_, rfl, rfl, ?_⟩
      refine aop_of_aops (ops := #[]) rfl ?_
      refine y_callR hf 6 rfl rfl rfl rfl rfl rfl Try.ent66 (glue_den out ((endsL (a ++ b))[k], (endsL (a ++ b))[k + 1]) _ rfl (by omega)) ?_
      rintro _ rfl
      refine aops_le (le_of (sl' := [(0, _), (1, _), (5, _), (6, _), (7, _), (47, _)]) ⟨rfl, rfl, rfl, rfl, rfl, rfl, trivial⟩) ?_
      refine aops_any ?_
      refine aany_step 12 [] (by kernel_rfl) ⟨?_, trivial⟩
      ·
       refine ⟨_, rfl, rfl, ?_⟩
       refine aop_of_aops (ops := #[]) rfl ?_
       refine x_pure rfl (p_assign rfl) ?_
       refine aops_any ?_
       refine aany_end (by kernel_rfl) ?_
       refine hK8 _ ?_
       refine aw_region ?_
       refine x_pure rfl (p_move rfl) ?_
       first | refine x_pure rfl (p_add rfl rfl (by omega) (by omega)) ?_ | refine x_pure rfl (p_bin rfl rfl rfl) ?_
       refine x_pure rfl (p_assign rfl) ?_
       first | refine aops_end ?_ | refine aops_nil ?_
       first
       | exact ⟨(k + 1, glueL out ((endsL (a ++ b))[k], (endsL (a ++ b))[k + 1])), ⟨by rw [hI, piecesL_drop _ _ _ _ (by omega), if_pos (by simp_all)], by have := hgl ((endsL (a ++ b))[k], (endsL (a ++ b))[k + 1]); omega, by omega⟩, by simp only; omega, le_to ⟨rfl, rfl, rfl, (by first | rfl | (show some (AV.own 6 2 0 ((glueL _ _).map spC).length) = _; rw [List.length_map])), rfl, trivial⟩ rfl⟩
       | exact ⟨(k + 1, out), ⟨by rw [hI, piecesL_drop _ _ _ _ (by omega), if_neg (by simp_all)], by omega, by omega⟩, by simp only; omega, le_to ⟨rfl, rfl, rfl, (by first | rfl | (show some (AV.own 6 2 0 ((glueL _ _).map spC).length) = _; rw [List.length_map])), rfl, trivial⟩ rfl⟩
    ·
     try simp only [bs] at hc3
     refine aw_skip ?_
     refine hK8 _ ?_
     refine aw_region ?_
     refine x_pure rfl (p_move rfl) ?_
     first | refine x_pure rfl (p_add rfl rfl (by omega) (by omega)) ?_ | refine x_pure rfl (p_bin rfl rfl rfl) ?_
     refine x_pure rfl (p_assign rfl) ?_
     first | refine aops_end ?_ | refine aops_nil ?_
     first
     | exact ⟨(k + 1, glueL out ((endsL (a ++ b))[k], (endsL (a ++ b))[k + 1])), ⟨by rw [hI, piecesL_drop _ _ _ _ (by omega), if_pos (by simp_all)], by have := hgl ((endsL (a ++ b))[k], (endsL (a ++ b))[k + 1]); omega, by omega⟩, by simp only; omega, le_to ⟨rfl, rfl, rfl, (by first | rfl | (show some (AV.own 6 2 0 ((glueL _ _).map spC).length) = _; rw [List.length_map])), rfl, trivial⟩ rfl⟩
     | exact ⟨(k + 1, out), ⟨by rw [hI, piecesL_drop _ _ _ _ (by omega), if_neg (by simp_all)], by omega, by omega⟩, by simp only; omega, le_to ⟨rfl, rfl, rfl, (by first | rfl | (show some (AV.own 6 2 0 ((glueL _ _).map spC).length) = _; rw [List.length_map])), rfl, trivial⟩ rfl⟩
   ·
    try simp only [bs] at hg2
    refine x_guard_f rfl rfl rfl ?_
    refine x_guard_f rfl rfl rfl ?_
    refine x_guard_f rfl rfl rfl ?_
    refine x_guard_f rfl rfl rfl ?_
    refine x_guard_f rfl rfl rfl ?_
    refine x_guard_f rfl rfl rfl ?_
    refine x_pure rfl (p_pick_f rfl rfl) ?_
    first | refine aops_end ?_ | refine aops_nil ?_
    refine hK9 _ ?_
    refine aw_cond_f rfl ?_
    refine aw_skip ?_
    refine hK8 _ ?_
    refine aw_region ?_
    refine x_pure rfl (p_move rfl) ?_
    first | refine x_pure rfl (p_add rfl rfl (by omega) (by omega)) ?_ | refine x_pure rfl (p_bin rfl rfl rfl) ?_
    refine x_pure rfl (p_assign rfl) ?_
    first | refine aops_end ?_ | refine aops_nil ?_
    first
    | exact ⟨(k + 1, glueL out ((endsL (a ++ b))[k], (endsL (a ++ b))[k + 1])), ⟨by rw [hI, piecesL_drop _ _ _ _ (by omega), if_pos (by simp_all)], by have := hgl ((endsL (a ++ b))[k], (endsL (a ++ b))[k + 1]); omega, by omega⟩, by simp only; omega, le_to ⟨rfl, rfl, rfl, (by first | rfl | (show some (AV.own 6 2 0 ((glueL _ _).map spC).length) = _; rw [List.length_map])), rfl, trivial⟩ rfl⟩
    | exact ⟨(k + 1, out), ⟨by rw [hI, piecesL_drop _ _ _ _ (by omega), if_neg (by simp_all)], by omega, by omega⟩, by simp only; omega, le_to ⟨rfl, rfl, rfl, (by first | rfl | (show some (AV.own 6 2 0 ((glueL _ _).map spC).length) = _; rw [List.length_map])), rfl, trivial⟩ rfl⟩
  ·
   try simp only [bs] at hc1
   refine aw_exit ?_
   refine hK4 _ ?_
   refine aw_seq_k (fun K10 hK10 => ?_)
   refine aw_region ?_
   refine x_pure rfl (p_move rfl) ?_
   refine x_pure rfl (p_assign rfl) ?_
   first | refine aops_end ?_ | refine aops_nil ?_
   refine hK10 _ ?_
   refine aw_ret ?_
   refine ⟨_, rfl, ?_⟩
   refine (conv_whole (g := 6) rfl (by rw [List.length_map])).trans ?_
   rw [show lessL a b = piecesL (fun t => hasB a t && !hasB b t) [] (endsL (a ++ b)) from rfl, hI, piecesL_end _ _ _ _ (by omega)]

set_option maxRecDepth 20000 in
set_option maxHeartbeats 400000 in
theorem same7_den (a b : List Sp) (ha : a.length ≤ 9223372036854775807) (hb : b.length ≤ 9223372036854775807)  : Den Try.prog 26 [.sl 2 (a.map spC), .sl 2 (b.map spC)]  (· = .s (.bool (decide (a = b)))) := by
 refine den_of_aw Try.func26 rfl (Nat.le_of_ble_eq_true rfl) (fun w0 A hf => ?_)
 refine aw_seq_k (fun K1 hK1 => ?_)
 refine aw_region ?_
 refine x_pure rfl (p_assign_bad) ?_
 first | refine aops_end ?_ | refine aops_nil ?_
 refine hK1 _ ?_
 refine aw_seq_k (fun K2 hK2 => ?_)
 refine aw_region ?_
 refine x_pure rfl (p_move rfl) ?_
 refine x_pure rfl (p_move rfl) ?_
 refine x_step hf rfl (r_call rfl rfl Try.ent67 rfl (equal_den a b ha hb)) ?_
 refine x_pure rfl (p_assign rfl) ?_
 first | refine aops_end ?_ | refine aops_nil ?_
 refine hK2 _ ?_
 refine aw_ret ?_
 refine ⟨_, rfl, ?_⟩
 rfl

set_option maxRecDepth 20000 in
set_option maxHeartbeats 400000 in
theorem same_den (a b : List Sp) (ha : a.length ≤ 9223372036854775807) (hb : b.length ≤ 9223372036854775807)  : Den Try.prog 22 [.sl 2 (a.map spC), .sl 2 (b.map spC)]  (· = .s (.bool (decide (a = b)))) := by
 refine den_of_aw Try.func22 rfl (Nat.le_of_ble_eq_true rfl) (fun w0 A hf => ?_)
 refine aw_seq_k (fun K1 hK1 => ?_)
 refine aw_region ?_
 refine x_pure rfl (p_assign_bad) ?_
 first | refine aops_end ?_ | refine aops_nil ?_
 refine hK1 _ ?_
 refine aw_seq_k (fun K2 hK2 => ?_)
 refine aw_seq_k (fun K3 hK3 => ?_)
 refine aw_region ?_
 refine x_pure rfl (p_move rfl) ?_
 first | refine x_pure rfl (p_len_sl rfl Try.e31) ?_ | refine x_pure rfl (p_len_own rfl Try.e31) ?_ | refine x_pure rfl (p_len_nil rfl Try.e31) ?_
 refine x_pure rfl (p_move rfl) ?_
 first | refine x_pure rfl (p_len_sl rfl Try.e31) ?_ | refine x_pure rfl (p_len_own rfl Try.e31) ?_ | refine x_pure rfl (p_len_nil rfl Try.e31) ?_
 refine x_pure rfl (p_bin rfl rfl rfl) ?_
 first | refine aops_end ?_ | refine aops_nil ?_
 refine hK3 _ ?_
 refine aw_cond_s rfl (fun hc1 => ?_) (fun hc1 => ?_)
 ·
  try simp only [bs] at hc1
  refine aw_seq_k (fun K4 hK4 => ?_)
  refine aw_region ?_
  refine x_pure rfl (p_assign rfl) ?_
  first | refine aops_end ?_ | refine aops_nil ?_
  refine hK4 _ ?_
  refine aw_ret ?_
  refine ⟨_, rfl, ?_⟩
  refine ret_bool ?_
  rw [eqrow_len (by omega)]
 ·
  try simp only [bs] at hc1
  refine aw_skip ?_
  refine hK2 _ ?_
  refine aw_seq_k (fun K5 hK5 => ?_)
  refine aw_seq_k (fun K6 hK6 => ?_)
  refine aw_region ?_
  refine x_pure rfl (p_assign rfl) ?_
  first | refine aops_end ?_ | refine aops_nil ?_
  refine hK6 _ ?_
  refine aw_block ?_
  refine aw_loop (ι := Nat) (fun k => ⟨26, [(0, .sl 2 (a.map spC)), (1, .sl 2 (b.map spC)), (5, .s (.int .i64 (k : Nat)))], []⟩) (fun k => k ≤ a.length ∧ a.take k = b.take k) (fun k => a.length - k) 0 ?_ ?_ ?_
  · exact ⟨Nat.zero_le _, rfl⟩
  · exact le_of ⟨rfl, rfl, rfl, trivial⟩
  ·
   rintro k hC
   obtain ⟨h1, h2⟩ := hC
   refine aw_seq_k (fun K7 hK7 => ?_)
   refine aw_seq_k (fun K8 hK8 => ?_)
   refine aw_region ?_
   refine x_pure rfl (p_move rfl) ?_
   refine x_pure rfl (p_move rfl) ?_
   first | refine x_pure rfl (p_len_sl rfl Try.e31) ?_ | refine x_pure rfl (p_len_own rfl Try.e31) ?_ | refine x_pure rfl (p_len_nil rfl Try.e31) ?_
   refine x_pure rfl (p_bin rfl rfl rfl) ?_
   first | refine aops_end ?_ | refine aops_nil ?_
   refine hK8 _ ?_
   refine aw_cond_s rfl (fun hc2 => ?_) (fun hc2 => ?_)
   ·
    try simp only [bs] at hc2
    refine aw_skip ?_
    refine hK7 _ ?_
    refine aw_seq_k (fun K9 hK9 => ?_)
    refine aw_block ?_
    refine aw_seq_k (fun K10 hK10 => ?_)
    refine aw_draw hf Try.mixed (by kernel_rfl) rfl ?_
    refine d_pure [(0, _)] rfl rfl ⟨⟨rfl, rfl⟩, trivial⟩ rfl (p_move rfl) ?_
    refine d_pure [(5, _)] rfl rfl ⟨⟨rfl, rfl⟩, trivial⟩ rfl (p_move rfl) ?_
    first | refine d_pure [(17, _), (18, _)] rfl rfl ⟨⟨rfl, rfl⟩, ⟨rfl, rfl⟩, trivial⟩ rfl (p_idx_sl rfl rfl Try.e31 Try.c42 (by first | assumption | (refine ⟨by omega, ?_⟩; first | assumption | exact strs_at (by omega) | exact strs_at (by simp only [List.length_cons] at *; omega) | exact ints_at (by omega) | exact map_at (by omega) | exact list_at (by omega)) | exact ⟨by decide, rfl⟩)) ?_ | refine d_pure [(17, _), (18, _)] rfl rfl ⟨⟨rfl, rfl⟩, ⟨rfl, rfl⟩, trivial⟩ rfl (p_idx_own rfl rfl Try.e31 Try.c42 (by omega)) ?_
    first | refine d_pure [(19, _)] rfl rfl ⟨⟨rfl, rfl⟩, trivial⟩ rfl (p_loads rfl Try.g42 Try.c42 rfl rfl) ?_ | refine d_pure [(19, _)] rfl rfl ⟨⟨rfl, rfl⟩, trivial⟩ rfl (p_loadsr rfl Try.g42 Try.c42 rfl rfl rfl) ?_
    refine d_pure [(1, _)] rfl rfl ⟨⟨rfl, rfl⟩, trivial⟩ rfl (p_move rfl) ?_
    refine d_pure [(5, _)] rfl rfl ⟨⟨rfl, rfl⟩, trivial⟩ rfl (p_move rfl) ?_
    first | refine d_pure [(21, _), (22, _)] rfl rfl ⟨⟨rfl, rfl⟩, ⟨rfl, rfl⟩, trivial⟩ rfl (p_idx_sl rfl rfl Try.e31 Try.c42 (by first | assumption | (refine ⟨by omega, ?_⟩; first | assumption | exact strs_at (by omega) | exact strs_at (by simp only [List.length_cons] at *; omega) | exact ints_at (by omega) | exact map_at (by omega) | exact list_at (by omega)) | exact ⟨by decide, rfl⟩)) ?_ | refine d_pure [(21, _), (22, _)] rfl rfl ⟨⟨rfl, rfl⟩, ⟨rfl, rfl⟩, trivial⟩ rfl (p_idx_own rfl rfl Try.e31 Try.c42 (by omega)) ?_
    first | refine d_pure [(23, _)] rfl rfl ⟨⟨rfl, rfl⟩, trivial⟩ rfl (p_loads rfl Try.g42 Try.c42 rfl rfl) ?_ | refine d_pure [(23, _)] rfl rfl ⟨⟨rfl, rfl⟩, trivial⟩ rfl (p_loadsr rfl Try.g42 Try.c42 rfl rfl rfl) ?_
    refine d_pure [(20, _), (24, _)] rfl rfl ⟨⟨rfl, rfl⟩, ⟨rfl, rfl⟩, trivial⟩ rfl (p_neagg rfl rfl Try.q42 rfl) ?_
    rw [spC_eq]
    refine lex_end (sl' := [(0, _), (1, _), (5, _), (25, _)]) rfl ⟨rfl, rfl, rfl, rfl, trivial⟩ rfl ?_
    refine hK10 _ ?_
    refine aw_cond_s rfl (fun hc3 => ?_) (fun hc3 => ?_)
    ·
     try simp only [bs] at hc3
     refine aw_seq_k (fun K11 hK11 => ?_)
     refine aw_region ?_
     refine x_pure rfl (p_assign rfl) ?_
     first | refine aops_end ?_ | refine aops_nil ?_
     refine hK11 _ ?_
     refine aw_ret ?_
     refine ⟨_, rfl, ?_⟩
     refine ret_bool ?_
     rw [eqrow_diff (by omega) (by omega) (by assumption)]
    ·
     try simp only [bs] at hc3
     refine aw_skip ?_
     refine hK9 _ ?_
     refine aw_region ?_
     refine x_pure rfl (p_move rfl) ?_
     first | refine x_pure rfl (p_add rfl rfl (by omega) (by omega)) ?_ | refine x_pure rfl (p_bin rfl rfl rfl) ?_
     refine x_pure rfl (p_assign rfl) ?_
     first | refine aops_end ?_ | refine aops_nil ?_
     exact ⟨k+1, ⟨by omega, eqrow_next (by omega) (by omega) h2 (by assumption)⟩, by omega, le_of ⟨rfl, rfl, rfl, trivial⟩⟩
   ·
    try simp only [bs] at hc2
    refine aw_exit ?_
    refine hK5 _ ?_
    refine aw_seq_k (fun K12 hK12 => ?_)
    refine aw_region ?_
    refine x_pure rfl (p_assign rfl) ?_
    first | refine aops_end ?_ | refine aops_nil ?_
    refine hK12 _ ?_
    refine aw_ret ?_
    refine ⟨_, rfl, ?_⟩
    refine ret_bool ?_
    rw [eqrow_end (by omega) (by omega) h2]

set_option maxRecDepth 20000 in
set_option maxHeartbeats 400000 in
theorem news_den (l : List Sp) (hl : l.length * 16 ≤ 140737488355328)  : Den Try.prog 21 [.sl 2 (l.map spC)]  (· = .sl 2 (l.map spC)) := by
 refine den_of_aw Try.func21 rfl (Nat.le_of_ble_eq_true rfl) (fun w0 A hf => ?_)
 refine aw_seq_k (fun K1 hK1 => ?_)
 refine aw_region ?_
 refine x_pure rfl (p_assign_bad) ?_
 first | refine aops_end ?_ | refine aops_nil ?_
 refine hK1 _ ?_
 refine aw_seq_k (fun K2 hK2 => ?_)
 refine aw_region ?_
 refine x_nil hf 2 rfl rfl rfl ?_
 first | refine aops_end ?_ | refine aops_nil ?_
 refine hK2 _ ?_
 refine aw_seq_k (fun K3 hK3 => ?_)
 refine aw_seq_k (fun K4 hK4 => ?_)
 refine aw_region ?_
 refine x_pure rfl (p_move rfl) ?_
 first | refine x_pure rfl (p_len_sl rfl Try.e31) ?_ | refine x_pure rfl (p_len_own rfl Try.e31) ?_ | refine x_pure rfl (p_len_nil rfl Try.e31) ?_
 refine x_pure rfl (p_move rfl) ?_
 first | refine aops_end ?_ | refine aops_nil ?_
 refine hK4 _ ?_
 refine aw_block ?_
 refine aw_loop (ι := Nat) (fun k => ⟨18, [(3, .own 3 2 0 (l.take k).length), (6, .sl 2 (l.map spC)), (7, .s (.int .i64 ((l.map spC).length : Nat))), (8, .s (.int .i64 (k : Nat)))], [(3, .buf 2 ((l.take k).map spC))]⟩) (fun k => k ≤ l.length) (fun k => l.length - k) 0 ?_ ?_ ?_
 · exact Nat.zero_le _
 · exact le_of ⟨rfl, rfl, rfl, rfl, trivial⟩
 ·
  rintro k hC
  refine aw_seq_k (fun K5 hK5 => ?_)
  refine aw_region ?_
  refine x_pure rfl (p_bin rfl rfl rfl) ?_
  first | refine aops_end ?_ | refine aops_nil ?_
  refine hK5 _ ?_
  refine aw_seq_k (fun K6 hK6 => ?_)
  refine aw_cond_s rfl (fun hc1 => ?_) (fun hc1 => ?_)
  ·
   try simp only [bs] at hc1
   refine aw_skip ?_
   refine hK6 _ ?_
   refine aw_seq_k (fun K7 hK7 => ?_)
   refine aw_block ?_
   refine aw_seq_k (fun K8 hK8 => ?_)
   refine aw_region ?_
   first | refine x_pure rfl (p_idx_sl rfl rfl Try.e31 Try.c42 (by first | assumption | (refine ⟨by omega, ?_⟩; first | assumption | exact strs_at (by omega) | exact strs_at (by simp only [List.length_cons] at *; omega) | exact ints_at (by omega) | exact map_at (by omega) | exact list_at (by omega)) | exact ⟨by decide, rfl⟩)) ?_ | refine x_pure rfl (p_idx_own rfl rfl Try.e31 Try.c42 (by omega)) ?_
   first | refine x_pure rfl (p_loads rfl Try.g42 Try.c42 rfl rfl) ?_ | refine x_pure rfl (p_loadsr rfl Try.g42 Try.c42 rfl rfl rfl) ?_
   refine x_allocst hf rfl Try.z42 rfl Try.c42 rfl rfl rfl rfl (by simp [spC, AV.cells, AV.leaf, Value.oneCell', splice, AV.kill, AV.clean, cleanL, AV.only]) ?_
   first | refine aops_end ?_ | refine aops_nil ?_
   refine hK8 _ ?_
   refine aw_region ?_
   refine x_pure rfl (p_move rfl) ?_
   first | refine x_pure rfl (p_loads rfl Try.g42 Try.c42 rfl rfl) ?_ | refine x_pure rfl (p_loadsr rfl Try.g42 Try.c42 rfl rfl rfl) ?_
   refine x_step hf rfl (r_buildSlice Try.ap33 rfl rfl rfl rfl (by simp [spC, AV.cells, AV.leaf, Value.oneCell', splice, AV.kill, AV.clean, cleanL, AV.only])) ?_
   have htl : (l.take k).length = k := by rw [List.length_take]; omega
   refine x_append hf rfl Try.ap33 rfl rfl rfl (.inl rfl) (by rw [List.length_map]) rfl (by first | rfl | simp [asrc, look]) (by first | (simp only [maxLen, List.length_map, List.length_append, List.length_cons, List.length_nil]; omega) | (simp [maxLen] <;> omega)) (by first | (simp only [List.length_map, List.length_append, List.length_cons, List.length_nil]; omega) | (simp <;> omega)) ?_
   refine aops_le (le_of (sl' := [(6, _), (7, _), (8, _), (15, _)]) ⟨rfl, rfl, rfl, rfl, trivial⟩) ?_
   refine x_pure rfl (p_assign rfl) ?_
   first | refine aops_end ?_ | refine aops_nil ?_
   refine hK7 _ ?_
   refine aw_region ?_
   first | refine x_pure rfl (p_add rfl rfl (by omega) (by omega)) ?_ | refine x_pure rfl (p_bin rfl rfl rfl) ?_
   refine x_pure rfl (p_move rfl) ?_
   first | refine aops_end ?_ | refine aops_nil ?_
   exact ⟨k + 1, by omega, by omega, le_to ⟨(by rw [take_len1 l k (by omega)]; rfl), rfl, rfl, rfl, trivial⟩ (by rw [take_map l spC k (by omega)]; rfl)⟩
  ·
   try simp only [bs] at hc1
   refine aw_exit ?_
   refine hK3 _ ?_
   refine aw_seq_k (fun K9 hK9 => ?_)
   refine aw_region ?_
   refine x_pure rfl (p_move rfl) ?_
   refine x_pure rfl (p_assign rfl) ?_
   first | refine aops_end ?_ | refine aops_nil ?_
   refine hK9 _ ?_
   refine aw_ret ?_
   refine ⟨_, rfl, ?_⟩
   refine (conv_whole (g := 3) rfl (by rw [List.length_map])).trans ?_
   rw [List.take_of_length_le (by omega)]

set_option maxRecDepth 20000 in
set_option maxHeartbeats 400000 in
theorem olds_den (l : List Sp) (hl : l.length * 16 ≤ 140737488355328)  : Den Try.prog 23 [.sl 2 (l.map spC)]  (· = .sl 2 (l.map spC)) := by
 refine den_of_aw Try.func23 rfl (Nat.le_of_ble_eq_true rfl) (fun w0 A hf => ?_)
 refine aw_seq_k (fun K1 hK1 => ?_)
 refine aw_region ?_
 refine x_pure rfl (p_assign_bad) ?_
 first | refine aops_end ?_ | refine aops_nil ?_
 refine hK1 _ ?_
 refine aw_seq_k (fun K2 hK2 => ?_)
 refine aw_region ?_
 refine x_nil hf 2 rfl rfl rfl ?_
 first | refine aops_end ?_ | refine aops_nil ?_
 refine hK2 _ ?_
 refine aw_seq_k (fun K3 hK3 => ?_)
 refine aw_seq_k (fun K4 hK4 => ?_)
 refine aw_region ?_
 refine x_pure rfl (p_move rfl) ?_
 first | refine x_pure rfl (p_len_sl rfl Try.e33) ?_ | refine x_pure rfl (p_len_own rfl Try.e33) ?_ | refine x_pure rfl (p_len_nil rfl Try.e33) ?_
 refine x_pure rfl (p_move rfl) ?_
 first | refine aops_end ?_ | refine aops_nil ?_
 refine hK4 _ ?_
 refine aw_block ?_
 refine aw_loop (ι := Nat) (fun k => ⟨18, [(3, .own 3 2 0 (l.take k).length), (6, .sl 2 (l.map spC)), (7, .s (.int .i64 ((l.map spC).length : Nat))), (8, .s (.int .i64 (k : Nat)))], [(3, .buf 2 ((l.take k).map spC))]⟩) (fun k => k ≤ l.length) (fun k => l.length - k) 0 ?_ ?_ ?_
 · exact Nat.zero_le _
 · exact le_of ⟨rfl, rfl, rfl, rfl, trivial⟩
 ·
  rintro k hC
  refine aw_seq_k (fun K5 hK5 => ?_)
  refine aw_region ?_
  refine x_pure rfl (p_bin rfl rfl rfl) ?_
  first | refine aops_end ?_ | refine aops_nil ?_
  refine hK5 _ ?_
  refine aw_seq_k (fun K6 hK6 => ?_)
  refine aw_cond_s rfl (fun hc1 => ?_) (fun hc1 => ?_)
  ·
   try simp only [bs] at hc1
   refine aw_skip ?_
   refine hK6 _ ?_
   refine aw_seq_k (fun K7 hK7 => ?_)
   refine aw_block ?_
   refine aw_seq_k (fun K8 hK8 => ?_)
   refine aw_region ?_
   first | refine x_pure rfl (p_idx_sl rfl rfl Try.e33 Try.c43 (by first | assumption | (refine ⟨by omega, ?_⟩; first | assumption | exact strs_at (by omega) | exact strs_at (by simp only [List.length_cons] at *; omega) | exact ints_at (by omega) | exact map_at (by omega) | exact list_at (by omega)) | exact ⟨by decide, rfl⟩)) ?_ | refine x_pure rfl (p_idx_own rfl rfl Try.e33 Try.c43 (by omega)) ?_
   first | refine x_pure rfl (p_loads rfl Try.g43 Try.c43 rfl rfl) ?_ | refine x_pure rfl (p_loadsr rfl Try.g43 Try.c43 rfl rfl rfl) ?_
   refine x_allocst hf rfl Try.z43 rfl Try.c43 rfl rfl rfl rfl (by simp [spC, AV.cells, AV.leaf, Value.oneCell', splice, AV.kill, AV.clean, cleanL, AV.only]) ?_
   first | refine aops_end ?_ | refine aops_nil ?_
   refine hK8 _ ?_
   refine aw_region ?_
   refine x_pure rfl (p_move rfl) ?_
   first | refine x_pure rfl (p_loads rfl Try.g43 Try.c43 rfl rfl) ?_ | refine x_pure rfl (p_loadsr rfl Try.g43 Try.c43 rfl rfl rfl) ?_
   refine x_step hf rfl (r_buildSlice Try.ap31 rfl rfl rfl rfl (by simp [spC, AV.cells, AV.leaf, Value.oneCell', splice, AV.kill, AV.clean, cleanL, AV.only])) ?_
   have htl : (l.take k).length = k := by rw [List.length_take]; omega
   refine x_append hf rfl Try.ap31 rfl rfl rfl (.inl rfl) (by rw [List.length_map]) rfl (by first | rfl | simp [asrc, look]) (by first | (simp only [maxLen, List.length_map, List.length_append, List.length_cons, List.length_nil]; omega) | (simp [maxLen] <;> omega)) (by first | (simp only [List.length_map, List.length_append, List.length_cons, List.length_nil]; omega) | (simp <;> omega)) ?_
   refine aops_le (le_of (sl' := [(6, _), (7, _), (8, _), (15, _)]) ⟨rfl, rfl, rfl, rfl, trivial⟩) ?_
   refine x_pure rfl (p_assign rfl) ?_
   first | refine aops_end ?_ | refine aops_nil ?_
   refine hK7 _ ?_
   refine aw_region ?_
   first | refine x_pure rfl (p_add rfl rfl (by omega) (by omega)) ?_ | refine x_pure rfl (p_bin rfl rfl rfl) ?_
   refine x_pure rfl (p_move rfl) ?_
   first | refine aops_end ?_ | refine aops_nil ?_
   exact ⟨k + 1, by omega, by omega, le_to ⟨(by rw [take_len1 l k (by omega)]; rfl), rfl, rfl, rfl, trivial⟩ (by rw [take_map l spC k (by omega)]; rfl)⟩
  ·
   try simp only [bs] at hc1
   refine aw_exit ?_
   refine hK3 _ ?_
   refine aw_seq_k (fun K9 hK9 => ?_)
   refine aw_region ?_
   refine x_pure rfl (p_move rfl) ?_
   refine x_pure rfl (p_assign rfl) ?_
   first | refine aops_end ?_ | refine aops_nil ?_
   refine hK9 _ ?_
   refine aw_ret ?_
   refine ⟨_, rfl, ?_⟩
   refine (conv_whole (g := 3) rfl (by rw [List.length_map])).trans ?_
   rw [List.take_of_length_le (by omega)]

theorem sameT_den (a b : List Sp) (h : a = b) (ha : a.length ≤ 9223372036854775807) : Den Try.prog 26 [.sl 2 (a.map spC), .sl 2 (b.map spC)] (· = .s (.bool true)) := by
  subst h
  exact (same7_den a a ha ha).mono fun r h => h.trans (by simp)
theorem refSameT_den (a b : List Sp) (h : a = b) (ha : a.length ≤ 9223372036854775807) : Den Try.prog 22 [.sl 2 (a.map spC), .sl 2 (b.map spC)] (· = .s (.bool true)) := by
  subst h
  exact (same_den a a ha ha).mono fun r h => h.trans (by simp)
theorem joinT_den (a b : List Sp) (h : (a.length + b.length) * 16 ≤ 140737488355328) : Den Try.prog 24 [.sl 1 [[.sl 2 (a.map spC)], [.sl 2 (b.map spC)]]] (· = .sl 2 (normL (List.flatten [a, b]) |>.map spC)) :=
  join_den [a, b] (by simp) (by simp; omega)
end Go.Proofs.Ytkjniggdldpnoaa
