import Derived.Test.YtkjniggdldpnoaaHW1
set_option linter.unusedVariables false
set_option linter.unusedSimpArgs false
namespace Go.Proofs.Ytkjniggdldpnoaa
open Go Go.Abs

set_option maxRecDepth 20000 in
set_option maxHeartbeats 400000 in
theorem newsS_den (l : List Stay) (hl : l.length * 32 ≤ 140737488351232)  : Den Try.prog 38 [.sl 4 (l.map stC)]  (· = .sl 4 (l.map stC)) := by
 refine den_of_aw Try.func38 rfl (Nat.le_of_ble_eq_true rfl) (fun w0 A hf => ?_)
 refine aw_seq_k (fun K1 hK1 => ?_)
 refine aw_region ?_
 refine x_pure rfl (p_assign_bad) ?_
 first | refine aops_end ?_ | refine aops_nil ?_
 refine hK1 _ ?_
 refine aw_seq_k (fun K2 hK2 => ?_)
 refine aw_region ?_
 refine x_nil hf 4 rfl rfl rfl ?_
 first | refine aops_end ?_ | refine aops_nil ?_
 refine hK2 _ ?_
 refine aw_seq_k (fun K3 hK3 => ?_)
 refine aw_seq_k (fun K4 hK4 => ?_)
 refine aw_region ?_
 refine x_pure rfl (p_move rfl) ?_
 first | refine x_pure rfl (p_len_sl rfl Try.e54) ?_ | refine x_pure rfl (p_len_own rfl Try.e54) ?_ | refine x_pure rfl (p_len_nil rfl Try.e54) ?_
 refine x_pure rfl (p_move rfl) ?_
 first | refine aops_end ?_ | refine aops_nil ?_
 refine hK4 _ ?_
 refine aw_block ?_
 refine aw_loop (ι := Nat) (fun k => ⟨19, [(3, .own 3 4 0 (l.take k).length), (6, .sl 4 (l.map stC)), (7, .s (.int .i64 ((l.map stC).length : Nat))), (8, .s (.int .i64 (k : Nat)))], [(3, .buf 4 ((l.take k).map stC))]⟩) (fun k => k ≤ l.length) (fun k => l.length - k) 0 ?_ ?_ ?_
 · exact Nat.zero_le _
 · exact le_of ⟨rfl, rfl, rfl, rfl, trivial⟩
 ·
  rintro k hC
  refine aw_seq_k (fun K5 hK5 => ?_)
  refine aw_region ?_
  refine x_pure rfl (p_bin rfl rfl rfl) ?_
  first | refine aops_end ?_ | refine aops_nil ?_
  refine hK5 _ ?_
  refine aw_seq_k (fun K6 hK6 => ?_)
  refine aw_cond_s rfl (fun hc1 => ?_) (fun hc1 => ?_)
  ·
   try simp only [bs] at hc1
   refine aw_skip ?_
   refine hK6 _ ?_
   refine aw_seq_k (fun K7 hK7 => ?_)
   refine aw_block ?_
   refine aw_seq_k (fun K8 hK8 => ?_)
   refine aw_region ?_
   first | refine x_pure rfl (p_idx_sl rfl rfl Try.e54 Try.c52 (by first | assumption | (refine ⟨by omega, ?_⟩; first | assumption | exact strs_at (by omega) | exact strs_at (by simp only [List.length_cons] at *; omega) | exact ints_at (by omega) | exact map_at (by omega) | exact list_at (by omega)) | exact ⟨by decide, rfl⟩)) ?_ | refine x_pure rfl (p_idx_own rfl rfl Try.e54 Try.c52 (by omega)) ?_
   first | refine x_pure rfl (p_loads rfl Try.g52 Try.c52 rfl rfl) ?_ | refine x_pure rfl (p_loadsr rfl Try.g52 Try.c52 rfl rfl rfl) ?_
   refine x_allocst hf rfl Try.z52 rfl Try.c52 rfl rfl rfl rfl (by simp [stC, AV.cells, AV.leaf, Value.oneCell', splice, AV.kill, AV.clean, cleanL, AV.only]) ?_
   first | refine aops_end ?_ | refine aops_nil ?_
   refine hK8 _ ?_
   refine aw_region ?_
   have htl : (l.take k).length = k := by rw [List.length_take]; omega
   refine x_pure rfl (p_move rfl) ?_
   first | refine x_pure rfl (p_loads rfl Try.g52 Try.c52 rfl rfl) ?_ | refine x_pure rfl (p_loadsr rfl Try.g52 Try.c52 rfl rfl rfl) ?_
   refine x_step hf rfl (r_call rfl rfl Try.ent35 rfl (newS_den l[k])) ?_
   refine x_step hf rfl (r_buildSlice Try.ap61 rfl rfl rfl rfl (by simp [stC, AV.cells, AV.leaf, Value.oneCell', splice, AV.kill, AV.clean, cleanL, AV.only])) ?_
   refine x_append hf rfl Try.ap61 rfl rfl rfl (.inl rfl) (by rw [List.length_map]) rfl (by first | rfl | simp [asrc, look]) (by first | (simp only [maxLen, List.length_map, List.length_append, List.length_cons, List.length_nil]; omega) | (simp [maxLen] <;> omega)) (by first | (simp only [List.length_map, List.length_append, List.length_cons, List.length_nil]; omega) | (simp <;> omega)) ?_
   refine aops_le (le_of (sl' := [(6, _), (7, _), (8, _), (16, _)]) ⟨rfl, rfl, rfl, rfl, trivial⟩) ?_
   refine x_pure rfl (p_assign rfl) ?_
   first | refine aops_end ?_ | refine aops_nil ?_
   refine hK7 _ ?_
   refine aw_region ?_
   first | refine x_pure rfl (p_add rfl rfl (by omega) (by omega)) ?_ | refine x_pure rfl (p_bin rfl rfl rfl) ?_
   refine x_pure rfl (p_move rfl) ?_
   first | refine aops_end ?_ | refine aops_nil ?_
   exact ⟨k + 1, by omega, by omega, le_to ⟨(by rw [take_len1 l k (by omega)]; rfl), rfl, rfl, rfl, trivial⟩ (by rw [take_map l stC k (by omega)]; rfl)⟩
  ·
   try simp only [bs] at hc1
   refine aw_exit ?_
   refine hK3 _ ?_
   refine aw_seq_k (fun K9 hK9 => ?_)
   refine aw_region ?_
   refine x_pure rfl (p_move rfl) ?_
   refine x_pure rfl (p_assign rfl) ?_
   first | refine aops_end ?_ | refine aops_nil ?_
   refine hK9 _ ?_
   refine aw_ret ?_
   refine ⟨_, rfl, ?_⟩
   refine (conv_whole (g := 3) rfl (by rw [List.length_map])).trans ?_
   rw [List.take_of_length_le (by omega)]

set_option maxRecDepth 20000 in
set_option maxHeartbeats 400000 in
theorem oldsS_den (l : List Stay) (hl : l.length * 32 ≤ 140737488351232)  : Den Try.prog 42 [.sl 4 (l.map stC)]  (· = .sl 4 (l.map stC)) := by
 refine den_of_aw Try.func42 rfl (Nat.le_of_ble_eq_true rfl) (fun w0 A hf => ?_)
 refine aw_seq_k (fun K1 hK1 => ?_)
 refine aw_region ?_
 refine x_pure rfl (p_assign_bad) ?_
 first | refine aops_end ?_ | refine aops_nil ?_
 refine hK1 _ ?_
 refine aw_seq_k (fun K2 hK2 => ?_)
 refine aw_region ?_
 refine x_nil hf 4 rfl rfl rfl ?_
 first | refine aops_end ?_ | refine aops_nil ?_
 refine hK2 _ ?_
 refine aw_seq_k (fun K3 hK3 => ?_)
 refine aw_seq_k (fun K4 hK4 => ?_)
 refine aw_region ?_
 refine x_pure rfl (p_move rfl) ?_
 first | refine x_pure rfl (p_len_sl rfl Try.e61) ?_ | refine x_pure rfl (p_len_own rfl Try.e61) ?_ | refine x_pure rfl (p_len_nil rfl Try.e61) ?_
 refine x_pure rfl (p_move rfl) ?_
 first | refine aops_end ?_ | refine aops_nil ?_
 refine hK4 _ ?_
 refine aw_block ?_
 refine aw_loop (ι := Nat) (fun k => ⟨19, [(3, .own 3 4 0 (l.take k).length), (6, .sl 4 (l.map stC)), (7, .s (.int .i64 ((l.map stC).length : Nat))), (8, .s (.int .i64 (k : Nat)))], [(3, .buf 4 ((l.take k).map stC))]⟩) (fun k => k ≤ l.length) (fun k => l.length - k) 0 ?_ ?_ ?_
 · exact Nat.zero_le _
 · exact le_of ⟨rfl, rfl, rfl, rfl, trivial⟩
 ·
  rintro k hC
  refine aw_seq_k (fun K5 hK5 => ?_)
  refine aw_region ?_
  refine x_pure rfl (p_bin rfl rfl rfl) ?_
  first | refine aops_end ?_ | refine aops_nil ?_
  refine hK5 _ ?_
  refine aw_seq_k (fun K6 hK6 => ?_)
  refine aw_cond_s rfl (fun hc1 => ?_) (fun hc1 => ?_)
  ·
   try simp only [bs] at hc1
   refine aw_skip ?_
   refine hK6 _ ?_
   refine aw_seq_k (fun K7 hK7 => ?_)
   refine aw_block ?_
   refine aw_seq_k (fun K8 hK8 => ?_)
   refine aw_region ?_
   first | refine x_pure rfl (p_idx_sl rfl rfl Try.e61 Try.c57 (by first | assumption | (refine ⟨by omega, ?_⟩; first | assumption | exact strs_at (by omega) | exact strs_at (by simp only [List.length_cons] at *; omega) | exact ints_at (by omega) | exact map_at (by omega) | exact list_at (by omega)) | exact ⟨by decide, rfl⟩)) ?_ | refine x_pure rfl (p_idx_own rfl rfl Try.e61 Try.c57 (by omega)) ?_
   first | refine x_pure rfl (p_loads rfl Try.g57 Try.c57 rfl rfl) ?_ | refine x_pure rfl (p_loadsr rfl Try.g57 Try.c57 rfl rfl rfl) ?_
   refine x_allocst hf rfl Try.z57 rfl Try.c57 rfl rfl rfl rfl (by simp [stC, AV.cells, AV.leaf, Value.oneCell', splice, AV.kill, AV.clean, cleanL, AV.only]) ?_
   first | refine aops_end ?_ | refine aops_nil ?_
   refine hK8 _ ?_
   refine aw_region ?_
   have htl : (l.take k).length = k := by rw [List.length_take]; omega
   refine x_pure rfl (p_move rfl) ?_
   first | refine x_pure rfl (p_loads rfl Try.g57 Try.c57 rfl rfl) ?_ | refine x_pure rfl (p_loadsr rfl Try.g57 Try.c57 rfl rfl rfl) ?_
   refine x_step hf rfl (r_call rfl rfl Try.ent76 rfl (oldS_den l[k])) ?_
   refine x_step hf rfl (r_buildSlice Try.ap54 rfl rfl rfl rfl (by simp [stC, AV.cells, AV.leaf, Value.oneCell', splice, AV.kill, AV.clean, cleanL, AV.only])) ?_
   refine x_append hf rfl Try.ap54 rfl rfl rfl (.inl rfl) (by rw [List.length_map]) rfl (by first | rfl | simp [asrc, look]) (by first | (simp only [maxLen, List.length_map, List.length_append, List.length_cons, List.length_nil]; omega) | (simp [maxLen] <;> omega)) (by first | (simp only [List.length_map, List.length_append, List.length_cons, List.length_nil]; omega) | (simp <;> omega)) ?_
   refine aops_le (le_of (sl' := [(6, _), (7, _), (8, _), (16, _)]) ⟨rfl, rfl, rfl, rfl, trivial⟩) ?_
   refine x_pure rfl (p_assign rfl) ?_
   first | refine aops_end ?_ | refine aops_nil ?_
   refine hK7 _ ?_
   refine aw_region ?_
   first | refine x_pure rfl (p_add rfl rfl (by omega) (by omega)) ?_ | refine x_pure rfl (p_bin rfl rfl rfl) ?_
   refine x_pure rfl (p_move rfl) ?_
   first | refine aops_end ?_ | refine aops_nil ?_
   exact ⟨k + 1, by omega, by omega, le_to ⟨(by rw [take_len1 l k (by omega)]; rfl), rfl, rfl, rfl, trivial⟩ (by rw [take_map l stC k (by omega)]; rfl)⟩
  ·
   try simp only [bs] at hc1
   refine aw_exit ?_
   refine hK3 _ ?_
   refine aw_seq_k (fun K9 hK9 => ?_)
   refine aw_region ?_
   refine x_pure rfl (p_move rfl) ?_
   refine x_pure rfl (p_assign rfl) ?_
   first | refine aops_end ?_ | refine aops_nil ?_
   refine hK9 _ ?_
   refine aw_ret ?_
   refine ⟨_, rfl, ?_⟩
   refine (conv_whole (g := 3) rfl (by rw [List.length_map])).trans ?_
   rw [List.take_of_length_le (by omega)]

set_option maxRecDepth 20000 in
set_option maxHeartbeats 2000000 in
theorem risingS_den (l : List Stay) (hl : l.length ≤ 9223372036854775807)  : Den Try.prog 37 [.sl 4 (l.map stC)]  (· = .s (.bool (risS l))) := by
 refine den_of_aw Try.func37 rfl (Nat.le_of_ble_eq_true rfl) (fun w0 A hf => ?_)
 refine aw_seq_k (fun K1 hK1 => ?_)
 refine aw_region ?_
 refine x_pure rfl (p_assign_bad) ?_
 first | refine aops_end ?_ | refine aops_nil ?_
 refine hK1 _ ?_
 refine aw_seq_k (fun K2 hK2 => ?_)
 refine aw_seq_k (fun K3 hK3 => ?_)
 refine aw_region ?_
 refine x_pure rfl (p_move rfl) ?_
 first | refine x_pure rfl (p_len_sl rfl Try.e61) ?_ | refine x_pure rfl (p_len_own rfl Try.e61) ?_ | refine x_pure rfl (p_len_nil rfl Try.e61) ?_
 refine x_pure rfl (p_move rfl) ?_
 first | refine aops_end ?_ | refine aops_nil ?_
 refine hK3 _ ?_
 refine aw_block ?_
 refine aw_loop (ι := Nat) (fun k => ⟨30, [(0, .sl 4 (l.map stC)), (5, .sl 4 (l.map stC)), (6, .s (.int .i64 ((l.map stC).length : Nat))), (7, .s (.int .i64 (k : Nat)))], []⟩) (fun k => k ≤ l.length ∧ risS l = risP okS nextS (prevAt l k) (l.drop k)) (fun k => l.length - k) 0 ?_ ?_ ?_
 · exact ⟨Nat.zero_le _, rfl⟩
 · exact le_of ⟨rfl, rfl, rfl, rfl, trivial⟩
 ·
  rintro k hC
  obtain ⟨h1, h2⟩ := hC
  refine aw_seq_k (fun K4 hK4 => ?_)
  refine aw_region ?_
  refine x_pure rfl (p_bin rfl rfl rfl) ?_
  first | refine aops_end ?_ | refine aops_nil ?_
  refine hK4 _ ?_
  refine aw_seq_k (fun K5 hK5 => ?_)
  refine aw_cond_s rfl (fun hc1 => ?_) (fun hc1 => ?_)
  ·
   try simp only [bs] at hc1
   refine aw_skip ?_
   refine hK5 _ ?_
   refine aw_seq_k (fun K6 hK6 => ?_)
   refine aw_block ?_
   refine aw_seq_k (fun K7 hK7 => ?_)
   refine aw_region ?_
   refine x_pure rfl (p_move rfl) ?_
   first | refine x_pure rfl (p_idx_sl rfl rfl Try.e61 Try.c57 (by first | assumption | (refine ⟨by omega, ?_⟩; first | assumption | exact strs_at (by omega) | exact strs_at (by simp only [List.length_cons] at *; omega) | exact ints_at (by omega) | exact map_at (by omega) | exact list_at (by omega)) | exact ⟨by decide, rfl⟩)) ?_ | refine x_pure rfl (p_idx_own rfl rfl Try.e61 Try.c57 (by omega)) ?_
   first | refine x_pure rfl (p_loads rfl Try.g57 Try.c57 rfl rfl) ?_ | refine x_pure rfl (p_loadsr rfl Try.g57 Try.c57 rfl rfl rfl) ?_
   refine x_alloc hf rfl rfl rfl Try.z57 ?_
   refine x_pure rfl (p_assign rfl) ?_
   refine x_store hf rfl rfl Try.c57 rfl rfl (by simp [stC, spC, AV.cells, AV.one, Value.oneCell', splice, AV.kill, AV.clean, cleanL, AV.only]) (by simp [stC, spC, AV.cells, AV.leaf, Value.oneCell', splice, AV.kill, AV.clean, cleanL, AV.only]) rfl ?_
   refine aops_le (le_keep (nee 4) (sl' := [(0, _), (3, _), (4, _), (5, _), (6, _), (7, _)]) (m' := []) ⟨⟨_, rfl, rfl⟩, ⟨_, rfl, rfl⟩, ⟨_, rfl, rfl⟩, ⟨_, rfl, rfl⟩, ⟨_, rfl, rfl⟩, ⟨_, rfl, rfl⟩, trivial⟩ rfl) ?_
   first | refine aops_end ?_ | refine aops_nil ?_
   refine hK7 _ ?_
   refine aw_seq_k (fun K8 hK8 => ?_)
   refine aw_draw hf Try.mixed (by kernel_rfl) rfl ?_
   first | refine d_pure [(4, _)] rfl rfl ⟨⟨rfl, rfl⟩, trivial⟩ rfl (p_fld_adr rfl Try.fd57_0 Try.c43 rfl) ?_ | refine d_pure [(4, _)] rfl rfl ⟨⟨rfl, rfl⟩, trivial⟩ rfl (p_fld_ref rfl Try.fd57_0 Try.c43 rfl) ?_
   first | refine d_pure [(12, _)] rfl rfl ⟨⟨rfl, rfl⟩, trivial⟩ rfl (p_loads rfl Try.g43 Try.c43 rfl rfl) ?_ | refine d_pure [(12, _)] rfl rfl ⟨⟨rfl, rfl⟩, trivial⟩ rfl (p_loadsr rfl Try.g43 Try.c43 rfl rfl rfl) ?_
   refine d_rstep [(13, _)] rfl rfl ⟨⟨rfl, rfl⟩, trivial⟩ rfl (r_call rfl rfl Try.ent61 rfl (none_den l[k].1)) ?_
   refine d_pure [(14, _)] rfl rfl ⟨⟨rfl, rfl⟩, trivial⟩ rfl (p_move rfl) ?_
   refine d_split 15 false rfl (fun hg2 => ?_) (fun hg2 => ?_)
   ·
    try simp only [bs] at hg2
    refine d_pure [(3, _)] rfl rfl ⟨⟨rfl, rfl⟩, trivial⟩ rfl (p_move rfl) ?_
    refine d_pure [(16, _)] rfl rfl ⟨⟨rfl, rfl⟩, trivial⟩ rfl (p_bin rfl rfl rfl) ?_
    refine d_pure [(17, _)] rfl rfl ⟨⟨rfl, rfl⟩, trivial⟩ rfl (p_move rfl) ?_
    refine d_split 18 true rfl (fun hg3 => ?_) (fun hg3 => ?_)
    ·
     try simp only [bs] at hg3
     refine d_pure [(0, _)] rfl rfl ⟨⟨rfl, rfl⟩, trivial⟩ rfl (p_move rfl) ?_
     refine d_pure [(3, _)] rfl rfl ⟨⟨rfl, rfl⟩, trivial⟩ rfl (p_move rfl) ?_
     first | refine d_pure [(20, _)] rfl rfl ⟨⟨rfl, rfl⟩, trivial⟩ rfl (p_sub rfl rfl (by omega) (by omega)) ?_ | refine d_pure [(20, _)] rfl rfl ⟨⟨rfl, rfl⟩, trivial⟩ rfl (p_bin rfl rfl rfl) ?_
     refine d_pure [(19, _), (21, _)] rfl rfl ⟨⟨rfl, rfl⟩, ⟨rfl, rfl⟩, trivial⟩ rfl (p_idx_sl rfl rfl Try.e61 Try.c57 (map_atZ (k := k - 1) (by omega) (by omega))) ?_
     first | refine d_pure [(22, _)] rfl rfl ⟨⟨rfl, rfl⟩, trivial⟩ rfl (p_loads rfl Try.g57 Try.c57 rfl rfl) ?_ | refine d_pure [(22, _)] rfl rfl ⟨⟨rfl, rfl⟩, trivial⟩ rfl (p_loadsr rfl Try.g57 Try.c57 rfl rfl rfl) ?_
     first | refine d_pure [(4, _)] rfl rfl ⟨⟨rfl, rfl⟩, trivial⟩ rfl (p_loads rfl Try.g57 Try.c57 rfl rfl) ?_ | refine d_pure [(4, _)] rfl rfl ⟨⟨rfl, rfl⟩, trivial⟩ rfl (p_loadsr rfl Try.g57 Try.c57 rfl rfl rfl) ?_
     refine d_rstep [(23, _), (24, _)] rfl rfl ⟨⟨rfl, rfl⟩, ⟨rfl, rfl⟩, trivial⟩ rfl (r_call rfl rfl Try.ent36 rfl (cmpS_den l[k - 1] l[k])) ?_
     refine d_pure [(25, _)] rfl rfl ⟨⟨rfl, rfl⟩, trivial⟩ rfl (p_bin rfl rfl rfl) ?_
     refine d_pure [(18, _), (26, _)] rfl rfl ⟨⟨rfl, rfl⟩, ⟨rfl, rfl⟩, trivial⟩ rfl (p_pick_t rfl rfl) ?_
     refine d_pure [(15, _), (27, _)] rfl rfl ⟨⟨rfl, rfl⟩, ⟨rfl, rfl⟩, trivial⟩ rfl (p_pick_f rfl rfl) ?_
     refine lex_end (sl' := [(0, _), (5, _), (6, _), (7, _), (28, _)]) rfl ⟨rfl, rfl, rfl, rfl, rfl, trivial⟩ rfl ?_
     refine hK8 _ ?_
     refine aw_cond_s rfl (fun hc4 => ?_) (fun hc4 => ?_)
     ·
      try simp only [bs] at hc4
      refine aw_seq_k (fun K9 hK9 => ?_)
      refine aw_region ?_
      refine x_pure rfl (p_assign rfl) ?_
      first | refine aops_end ?_ | refine aops_nil ?_
      refine hK9 _ ?_
      refine aw_ret ?_
      refine ⟨_, rfl, ?_⟩
      refine ret_bool ?_
      first | rw [ris_bad1 h2 (by omega) (show okS l[k] = false from by simp only [okS, decide_eq_false_iff_not]; omega)] | rw [ris_bad2 h2 (by omega) (by omega) (show nextS _ _ = false from by simp only [nextS, decide_eq_false_iff_not]; omega)]
     ·
      try simp only [bs] at hc4
      refine aw_skip ?_
      refine hK6 _ ?_
      refine aw_region ?_
      first | refine x_pure rfl (p_add rfl rfl (by omega) (by omega)) ?_ | refine x_pure rfl (p_bin rfl rfl rfl) ?_
      refine x_pure rfl (p_move rfl) ?_
      first | refine aops_end ?_ | refine aops_nil ?_
      exact ⟨k+1, ⟨by omega, ris_next h2 (by omega) (show okS l[k] = true from by simp only [okS, decide_eq_true_eq]; omega) (fun h0 => by simp only [nextS, decide_eq_true_eq]; omega)⟩, by omega, le_of ⟨rfl, rfl, rfl, rfl, trivial⟩⟩
    ·
     try simp only [bs] at hg3
     refine d_skip rfl rfl ?_
     refine d_skip rfl rfl ?_
     refine d_skip rfl rfl ?_
     refine d_skip rfl rfl ?_
     refine d_skip rfl rfl ?_
     refine d_skip rfl rfl ?_
     refine d_skip rfl rfl ?_
     refine d_skip rfl rfl ?_
     refine d_pure [(18, _), (26, _)] rfl rfl ⟨⟨rfl, rfl⟩, ⟨rfl, rfl⟩, trivial⟩ rfl (p_pick_f rfl rfl) ?_
     refine d_pure [(15, _), (27, _)] rfl rfl ⟨⟨rfl, rfl⟩, ⟨rfl, rfl⟩, trivial⟩ rfl (p_pick_f rfl rfl) ?_
     refine lex_end (sl' := [(0, _), (5, _), (6, _), (7, _), (28, _)]) rfl ⟨rfl, rfl, rfl, rfl, rfl, trivial⟩ rfl ?_
     refine hK8 _ ?_
     refine aw_cond_f rfl ?_
     refine aw_skip ?_
     refine hK6 _ ?_
     refine aw_region ?_
     first | refine x_pure rfl (p_add rfl rfl (by omega) (by omega)) ?_ | refine x_pure rfl (p_bin rfl rfl rfl) ?_
     refine x_pure rfl (p_move rfl) ?_
     first | refine aops_end ?_ | refine aops_nil ?_
     exact ⟨k+1, ⟨by omega, ris_next h2 (by omega) (show okS l[k] = true from by simp only [okS, decide_eq_true_eq]; omega) (fun h0 => by simp only [nextS, decide_eq_true_eq]; omega)⟩, by omega, le_of ⟨rfl, rfl, rfl, rfl, trivial⟩⟩
   ·
    try simp only [bs] at hg2
    refine d_skip rfl rfl ?_
    refine d_skip rfl rfl ?_
    refine d_skip rfl rfl ?_
    refine d_skip rfl rfl ?_
    refine d_skip rfl rfl ?_
    refine d_skip rfl rfl ?_
    refine d_skip rfl rfl ?_
    refine d_skip rfl rfl ?_
    refine d_skip rfl rfl ?_
    refine d_skip rfl rfl ?_
    refine d_skip rfl rfl ?_
    refine d_skip rfl rfl ?_
    refine d_pure [(15, _), (27, _)] rfl rfl ⟨⟨rfl, rfl⟩, ⟨rfl, rfl⟩, trivial⟩ rfl (p_pick_t rfl rfl) ?_
    refine lex_end (sl' := [(0, _), (5, _), (6, _), (7, _), (28, _)]) rfl ⟨rfl, rfl, rfl, rfl, rfl, trivial⟩ rfl ?_
    refine hK8 _ ?_
    refine aw_cond_t rfl ?_
    refine aw_seq_k (fun K10 hK10 => ?_)
    refine aw_region ?_
    refine x_pure rfl (p_assign rfl) ?_
    first | refine aops_end ?_ | refine aops_nil ?_
    refine hK10 _ ?_
    refine aw_ret ?_
    refine ⟨_, rfl, ?_⟩
    refine ret_bool ?_
    first | rw [ris_bad1 h2 (by omega) (show okS l[k] = false from by simp only [okS, decide_eq_false_iff_not]; omega)] | rw [ris_bad2 h2 (by omega) (by omega) (show nextS _ _ = false from by simp only [nextS, decide_eq_false_iff_not]; omega)]
  ·
   try simp only [bs] at hc1
   refine aw_exit ?_
   refine hK2 _ ?_
   refine aw_seq_k (fun K11 hK11 => ?_)
   refine aw_region ?_
   refine x_pure rfl (p_assign rfl) ?_
   first | refine aops_end ?_ | refine aops_nil ?_
   refine hK11 _ ?_
   refine aw_ret ?_
   refine ⟨_, rfl, ?_⟩
   refine ret_bool ?_
   rw [ris_last h2 (by omega)]

set_option maxRecDepth 20000 in
set_option maxHeartbeats 2000000 in
theorem refRisingS_den (l : List Stay) (hl : l.length ≤ 9223372036854775807)  : Den Try.prog 39 [.sl 4 (l.map stC)]  (· = .s (.bool (risS l))) := by
 refine den_of_aw Try.func39 rfl (Nat.le_of_ble_eq_true rfl) (fun w0 A hf => ?_)
 refine aw_seq_k (fun K1 hK1 => ?_)
 refine aw_region ?_
 refine x_pure rfl (p_assign_bad) ?_
 first | refine aops_end ?_ | refine aops_nil ?_
 refine hK1 _ ?_
 refine aw_seq_k (fun K2 hK2 => ?_)
 refine aw_seq_k (fun K3 hK3 => ?_)
 refine aw_region ?_
 refine x_pure rfl (p_assign rfl) ?_
 first | refine aops_end ?_ | refine aops_nil ?_
 refine hK3 _ ?_
 refine aw_block ?_
 refine aw_loop (ι := Nat) (fun k => ⟨38, [(0, .sl 4 (l.map stC)), (3, .s (.int .i64 (k : Nat)))], []⟩) (fun k => k ≤ l.length ∧ risS l = risP okS nextS (prevAt l k) (l.drop k)) (fun k => l.length - k) 0 ?_ ?_ ?_
 · exact ⟨Nat.zero_le _, rfl⟩
 · exact le_of ⟨rfl, rfl, trivial⟩
 ·
  rintro k hC
  obtain ⟨h1, h2⟩ := hC
  refine aw_seq_k (fun K4 hK4 => ?_)
  refine aw_seq_k (fun K5 hK5 => ?_)
  refine aw_region ?_
  refine x_pure rfl (p_move rfl) ?_
  refine x_pure rfl (p_move rfl) ?_
  first | refine x_pure rfl (p_len_sl rfl Try.e54) ?_ | refine x_pure rfl (p_len_own rfl Try.e54) ?_ | refine x_pure rfl (p_len_nil rfl Try.e54) ?_
  refine x_pure rfl (p_bin rfl rfl rfl) ?_
  first | refine aops_end ?_ | refine aops_nil ?_
  refine hK5 _ ?_
  refine aw_cond_s rfl (fun hc1 => ?_) (fun hc1 => ?_)
  ·
   try simp only [bs] at hc1
   refine aw_skip ?_
   refine hK4 _ ?_
   refine aw_seq_k (fun K6 hK6 => ?_)
   refine aw_block ?_
   refine aw_seq_k (fun K7 hK7 => ?_)
   refine aw_draw hf Try.mixed (by kernel_rfl) rfl ?_
   refine d_pure [(0, _)] rfl rfl ⟨⟨rfl, rfl⟩, trivial⟩ rfl (p_move rfl) ?_
   refine d_pure [(3, _)] rfl rfl ⟨⟨rfl, rfl⟩, trivial⟩ rfl (p_move rfl) ?_
   first | refine d_pure [(10, _), (11, _)] rfl rfl ⟨⟨rfl, rfl⟩, ⟨rfl, rfl⟩, trivial⟩ rfl (p_idx_sl rfl rfl Try.e54 Try.c52 (by first | assumption | (refine ⟨by omega, ?_⟩; first | assumption | exact strs_at (by omega) | exact strs_at (by simp only [List.length_cons] at *; omega) | exact ints_at (by omega) | exact map_at (by omega) | exact list_at (by omega)) | exact ⟨by decide, rfl⟩)) ?_ | refine d_pure [(10, _), (11, _)] rfl rfl ⟨⟨rfl, rfl⟩, ⟨rfl, rfl⟩, trivial⟩ rfl (p_idx_own rfl rfl Try.e54 Try.c52 (by omega)) ?_
   first | refine d_pure [(12, _)] rfl rfl ⟨⟨rfl, rfl⟩, trivial⟩ rfl (p_fld_adr rfl Try.fd52_1 Try.c3 rfl) ?_ | refine d_pure [(12, _)] rfl rfl ⟨⟨rfl, rfl⟩, trivial⟩ rfl (p_fld_ref rfl Try.fd52_1 Try.c3 rfl) ?_
   first | refine d_pure [(13, _)] rfl rfl ⟨⟨rfl, rfl⟩, trivial⟩ rfl (p_load1 rfl Try.g3 rfl) ?_ | refine d_pure [(13, _)] rfl rfl ⟨⟨rfl, rfl⟩, trivial⟩ rfl (p_load1r rfl Try.g3 rfl rfl) ?_ | refine d_pure [(13, _)] rfl rfl ⟨⟨rfl, rfl⟩, trivial⟩ rfl (p_load1r rfl Try.g3 rfl (strs_ref (by simp only [List.length_cons] at *; omega))) ?_ | refine d_pure [(13, _)] rfl rfl ⟨⟨rfl, rfl⟩, trivial⟩ rfl (p_load1r rfl Try.g3 rfl (strs_ref (by omega))) ?_
   refine d_pure [(0, _)] rfl rfl ⟨⟨rfl, rfl⟩, trivial⟩ rfl (p_move rfl) ?_
   refine d_pure [(3, _)] rfl rfl ⟨⟨rfl, rfl⟩, trivial⟩ rfl (p_move rfl) ?_
   first | refine d_pure [(15, _), (16, _)] rfl rfl ⟨⟨rfl, rfl⟩, ⟨rfl, rfl⟩, trivial⟩ rfl (p_idx_sl rfl rfl Try.e54 Try.c52 (by first | assumption | (refine ⟨by omega, ?_⟩; first | assumption | exact strs_at (by omega) | exact strs_at (by simp only [List.length_cons] at *; omega) | exact ints_at (by omega) | exact map_at (by omega) | exact list_at (by omega)) | exact ⟨by decide, rfl⟩)) ?_ | refine d_pure [(15, _), (16, _)] rfl rfl ⟨⟨rfl, rfl⟩, ⟨rfl, rfl⟩, trivial⟩ rfl (p_idx_own rfl rfl Try.e54 Try.c52 (by omega)) ?_
   first | refine d_pure [(17, _)] rfl rfl ⟨⟨rfl, rfl⟩, trivial⟩ rfl (p_fld_adr rfl Try.fd52_0 Try.c3 rfl) ?_ | refine d_pure [(17, _)] rfl rfl ⟨⟨rfl, rfl⟩, trivial⟩ rfl (p_fld_ref rfl Try.fd52_0 Try.c3 rfl) ?_
   first | refine d_pure [(18, _)] rfl rfl ⟨⟨rfl, rfl⟩, trivial⟩ rfl (p_load1 rfl Try.g3 rfl) ?_ | refine d_pure [(18, _)] rfl rfl ⟨⟨rfl, rfl⟩, trivial⟩ rfl (p_load1r rfl Try.g3 rfl rfl) ?_ | refine d_pure [(18, _)] rfl rfl ⟨⟨rfl, rfl⟩, trivial⟩ rfl (p_load1r rfl Try.g3 rfl (strs_ref (by simp only [List.length_cons] at *; omega))) ?_ | refine d_pure [(18, _)] rfl rfl ⟨⟨rfl, rfl⟩, trivial⟩ rfl (p_load1r rfl Try.g3 rfl (strs_ref (by omega))) ?_
   refine d_pure [(14, _), (19, _)] rfl rfl ⟨⟨rfl, rfl⟩, ⟨rfl, rfl⟩, trivial⟩ rfl (p_bin rfl rfl rfl) ?_
   refine d_pure [(20, _)] rfl rfl ⟨⟨rfl, rfl⟩, trivial⟩ rfl (p_move rfl) ?_
   refine d_split 21 false rfl (fun hg2 => ?_) (fun hg2 => ?_)
   ·
    try simp only [bs] at hg2
    refine d_pure [(3, _)] rfl rfl ⟨⟨rfl, rfl⟩, trivial⟩ rfl (p_move rfl) ?_
    refine d_pure [(22, _)] rfl rfl ⟨⟨rfl, rfl⟩, trivial⟩ rfl (p_bin rfl rfl rfl) ?_
    refine d_pure [(23, _)] rfl rfl ⟨⟨rfl, rfl⟩, trivial⟩ rfl (p_move rfl) ?_
    refine d_split 24 true rfl (fun hg3 => ?_) (fun hg3 => ?_)
    ·
     try simp only [bs] at hg3
     refine d_pure [(0, _)] rfl rfl ⟨⟨rfl, rfl⟩, trivial⟩ rfl (p_move rfl) ?_
     refine d_pure [(3, _)] rfl rfl ⟨⟨rfl, rfl⟩, trivial⟩ rfl (p_move rfl) ?_
     first | refine d_pure [(26, _)] rfl rfl ⟨⟨rfl, rfl⟩, trivial⟩ rfl (p_sub rfl rfl (by omega) (by omega)) ?_ | refine d_pure [(26, _)] rfl rfl ⟨⟨rfl, rfl⟩, trivial⟩ rfl (p_bin rfl rfl rfl) ?_
     refine d_pure [(25, _), (27, _)] rfl rfl ⟨⟨rfl, rfl⟩, ⟨rfl, rfl⟩, trivial⟩ rfl (p_idx_sl rfl rfl Try.e54 Try.c52 (map_atZ (k := k - 1) (by omega) (by omega))) ?_
     first | refine d_pure [(28, _)] rfl rfl ⟨⟨rfl, rfl⟩, trivial⟩ rfl (p_loads rfl Try.g52 Try.c52 rfl rfl) ?_ | refine d_pure [(28, _)] rfl rfl ⟨⟨rfl, rfl⟩, trivial⟩ rfl (p_loadsr rfl Try.g52 Try.c52 rfl rfl rfl) ?_
     refine d_pure [(0, _)] rfl rfl ⟨⟨rfl, rfl⟩, trivial⟩ rfl (p_move rfl) ?_
     refine d_pure [(3, _)] rfl rfl ⟨⟨rfl, rfl⟩, trivial⟩ rfl (p_move rfl) ?_
     first | refine d_pure [(30, _), (31, _)] rfl rfl ⟨⟨rfl, rfl⟩, ⟨rfl, rfl⟩, trivial⟩ rfl (p_idx_sl rfl rfl Try.e54 Try.c52 (by first | assumption | (refine ⟨by omega, ?_⟩; first | assumption | exact strs_at (by omega) | exact strs_at (by simp only [List.length_cons] at *; omega) | exact ints_at (by omega) | exact map_at (by omega) | exact list_at (by omega)) | exact ⟨by decide, rfl⟩)) ?_ | refine d_pure [(30, _), (31, _)] rfl rfl ⟨⟨rfl, rfl⟩, ⟨rfl, rfl⟩, trivial⟩ rfl (p_idx_own rfl rfl Try.e54 Try.c52 (by omega)) ?_
     first | refine d_pure [(32, _)] rfl rfl ⟨⟨rfl, rfl⟩, trivial⟩ rfl (p_loads rfl Try.g52 Try.c52 rfl rfl) ?_ | refine d_pure [(32, _)] rfl rfl ⟨⟨rfl, rfl⟩, trivial⟩ rfl (p_loadsr rfl Try.g52 Try.c52 rfl rfl rfl) ?_
     refine d_rstep [(29, _), (33, _)] rfl rfl ⟨⟨rfl, rfl⟩, ⟨rfl, rfl⟩, trivial⟩ rfl (r_call rfl rfl Try.ent34 rfl (aheadS_den l[k - 1] l[k])) ?_
     refine d_pure [(34, _)] rfl rfl ⟨⟨rfl, rfl⟩, trivial⟩ rfl (p_not rfl) ?_
     refine d_pure [(24, _), (35, _)] rfl rfl ⟨⟨rfl, rfl⟩, ⟨rfl, rfl⟩, trivial⟩ rfl (p_pick_t rfl rfl) ?_
     refine d_pure [(21, _), (36, _)] rfl rfl ⟨⟨rfl, rfl⟩, ⟨rfl, rfl⟩, trivial⟩ rfl (p_pick_f rfl rfl) ?_
     refine lex_end (sl' := [(0, _), (3, _), (37, _)]) rfl ⟨rfl, rfl, rfl, trivial⟩ rfl ?_
     refine hK7 _ ?_
     refine aw_cond_s rfl (fun hc4 => ?_) (fun hc4 => ?_)
     ·
      try simp only [bs] at hc4
      refine aw_seq_k (fun K8 hK8 => ?_)
      refine aw_region ?_
      refine x_pure rfl (p_assign rfl) ?_
      first | refine aops_end ?_ | refine aops_nil ?_
      refine hK8 _ ?_
      refine aw_ret ?_
      refine ⟨_, rfl, ?_⟩
      refine ret_bool ?_
      first | rw [ris_bad1 h2 (by omega) (show okS l[k] = false from by simp only [okS, decide_eq_false_iff_not]; omega)] | rw [ris_bad2 h2 (by omega) (by omega) (show nextS _ _ = false from by simp only [nextS, decide_eq_false_iff_not]; omega)]
     ·
      try simp only [bs] at hc4
      refine aw_skip ?_
      refine hK6 _ ?_
      refine aw_region ?_
      refine x_pure rfl (p_move rfl) ?_
      first | refine x_pure rfl (p_add rfl rfl (by omega) (by omega)) ?_ | refine x_pure rfl (p_bin rfl rfl rfl) ?_
      refine x_pure rfl (p_assign rfl) ?_
      first | refine aops_end ?_ | refine aops_nil ?_
      exact ⟨k+1, ⟨by omega, ris_next h2 (by omega) (show okS l[k] = true from by simp only [okS, decide_eq_true_eq]; omega) (fun h0 => by simp only [nextS, decide_eq_true_eq]; omega)⟩, by omega, le_of ⟨rfl, rfl, trivial⟩⟩
    ·
     try simp only [bs] at hg3
     refine d_skip rfl rfl ?_
     refine d_skip rfl rfl ?_
     refine d_skip rfl rfl ?_
     refine d_skip rfl rfl ?_
     refine d_skip rfl rfl ?_
     refine d_skip rfl rfl ?_
     refine d_skip rfl rfl ?_
     refine d_skip rfl rfl ?_
     refine d_skip rfl rfl ?_
     refine d_skip rfl rfl ?_
     refine d_skip rfl rfl ?_
     refine d_pure [(24, _), (35, _)] rfl rfl ⟨⟨rfl, rfl⟩, ⟨rfl, rfl⟩, trivial⟩ rfl (p_pick_f rfl rfl) ?_
     refine d_pure [(21, _), (36, _)] rfl rfl ⟨⟨rfl, rfl⟩, ⟨rfl, rfl⟩, trivial⟩ rfl (p_pick_f rfl rfl) ?_
     refine lex_end (sl' := [(0, _), (3, _), (37, _)]) rfl ⟨rfl, rfl, rfl, trivial⟩ rfl ?_
     refine hK7 _ ?_
     refine aw_cond_f rfl ?_
     refine aw_skip ?_
     refine hK6 _ ?_
     refine aw_region ?_
     refine x_pure rfl (p_move rfl) ?_
     first | refine x_pure rfl (p_add rfl rfl (by omega) (by omega)) ?_ | refine x_pure rfl (p_bin rfl rfl rfl) ?_
     refine x_pure rfl (p_assign rfl) ?_
     first | refine aops_end ?_ | refine aops_nil ?_
     exact ⟨k+1, ⟨by omega, ris_next h2 (by omega) (show okS l[k] = true from by simp only [okS, decide_eq_true_eq]; omega) (fun h0 => by simp only [nextS, decide_eq_true_eq]; omega)⟩, by omega, le_of ⟨rfl, rfl, trivial⟩⟩
   ·
    try simp only [bs] at hg2
    refine d_skip rfl rfl ?_
    refine d_skip rfl rfl ?_
    refine d_skip rfl rfl ?_
    refine d_skip rfl rfl ?_
    refine d_skip rfl rfl ?_
    refine d_skip rfl rfl ?_
    refine d_skip rfl rfl ?_
    refine d_skip rfl rfl ?_
    refine d_skip rfl rfl ?_
    refine d_skip rfl rfl ?_
    refine d_skip rfl rfl ?_
    refine d_skip rfl rfl ?_
    refine d_skip rfl rfl ?_
    refine d_skip rfl rfl ?_
    refine d_skip rfl rfl ?_
    refine d_pure [(21, _), (36, _)] rfl rfl ⟨⟨rfl, rfl⟩, ⟨rfl, rfl⟩, trivial⟩ rfl (p_pick_t rfl rfl) ?_
    refine lex_end (sl' := [(0, _), (3, _), (37, _)]) rfl ⟨rfl, rfl, rfl, trivial⟩ rfl ?_
    refine hK7 _ ?_
    refine aw_cond_t rfl ?_
    refine aw_seq_k (fun K9 hK9 => ?_)
    refine aw_region ?_
    refine x_pure rfl (p_assign rfl) ?_
    first | refine aops_end ?_ | refine aops_nil ?_
    refine hK9 _ ?_
    refine aw_ret ?_
    refine ⟨_, rfl, ?_⟩
    refine ret_bool ?_
    first | rw [ris_bad1 h2 (by omega) (show okS l[k] = false from by simp only [okS, decide_eq_false_iff_not]; omega)] | rw [ris_bad2 h2 (by omega) (by omega) (show nextS _ _ = false from by simp only [nextS, decide_eq_false_iff_not]; omega)]
  ·
   try simp only [bs] at hc1
   refine aw_exit ?_
   refine hK2 _ ?_
   refine aw_seq_k (fun K10 hK10 => ?_)
   refine aw_region ?_
   refine x_pure rfl (p_assign rfl) ?_
   first | refine aops_end ?_ | refine aops_nil ?_
   refine hK10 _ ?_
   refine aw_ret ?_
   refine ⟨_, rfl, ?_⟩
   refine ret_bool ?_
   rw [ris_last h2 (by omega)]

set_option maxRecDepth 20000 in
set_option maxHeartbeats 400000 in
theorem same8_den (a b : List Stay) (ha : a.length ≤ 9223372036854775807) (hb : b.length ≤ 9223372036854775807)  : Den Try.prog 48 [.sl 4 (a.map stC), .sl 4 (b.map stC)]  (· = .s (.bool (decide (a = b)))) := by
 refine den_of_aw Try.func48 rfl (Nat.le_of_ble_eq_true rfl) (fun w0 A hf => ?_)
 refine aw_seq_k (fun K1 hK1 => ?_)
 refine aw_region ?_
 refine x_pure rfl (p_assign_bad) ?_
 first | refine aops_end ?_ | refine aops_nil ?_
 refine hK1 _ ?_
 refine aw_seq_k (fun K2 hK2 => ?_)
 refine aw_region ?_
 refine x_pure rfl (p_move rfl) ?_
 refine x_pure rfl (p_move rfl) ?_
 refine x_step hf rfl (r_call rfl rfl Try.ent79 rfl (sEqual_den a b ha hb)) ?_
 refine x_pure rfl (p_assign rfl) ?_
 first | refine aops_end ?_ | refine aops_nil ?_
 refine hK2 _ ?_
 refine aw_ret ?_
 refine ⟨_, rfl, ?_⟩
 rfl

set_option maxRecDepth 20000 in
set_option maxHeartbeats 400000 in
theorem refSame8_den (a b : List Stay) (ha : a.length ≤ 9223372036854775807) (hb : b.length ≤ 9223372036854775807)  : Den Try.prog 41 [.sl 4 (a.map stC), .sl 4 (b.map stC)]  (· = .s (.bool (decide (a = b)))) := by
 refine den_of_aw Try.func41 rfl (Nat.le_of_ble_eq_true rfl) (fun w0 A hf => ?_)
 refine aw_seq_k (fun K1 hK1 => ?_)
 refine aw_region ?_
 refine x_pure rfl (p_assign_bad) ?_
 first | refine aops_end ?_ | refine aops_nil ?_
 refine hK1 _ ?_
 refine aw_seq_k (fun K2 hK2 => ?_)
 refine aw_seq_k (fun K3 hK3 => ?_)
 refine aw_region ?_
 refine x_pure rfl (p_move rfl) ?_
 first | refine x_pure rfl (p_len_sl rfl Try.e54) ?_ | refine x_pure rfl (p_len_own rfl Try.e54) ?_ | refine x_pure rfl (p_len_nil rfl Try.e54) ?_
 refine x_pure rfl (p_move rfl) ?_
 first | refine x_pure rfl (p_len_sl rfl Try.e54) ?_ | refine x_pure rfl (p_len_own rfl Try.e54) ?_ | refine x_pure rfl (p_len_nil rfl Try.e54) ?_
 refine x_pure rfl (p_bin rfl rfl rfl) ?_
 first | refine aops_end ?_ | refine aops_nil ?_
 refine hK3 _ ?_
 refine aw_cond_s rfl (fun hc1 => ?_) (fun hc1 => ?_)
 ·
  try simp only [bs] at hc1
  refine aw_seq_k (fun K4 hK4 => ?_)
  refine aw_region ?_
  refine x_pure rfl (p_assign rfl) ?_
  first | refine aops_end ?_ | refine aops_nil ?_
  refine hK4 _ ?_
  refine aw_ret ?_
  refine ⟨_, rfl, ?_⟩
  refine ret_bool ?_
  rw [eqrow_len (by omega)]
 ·
  try simp only [bs] at hc1
  refine aw_skip ?_
  refine hK2 _ ?_
  refine aw_seq_k (fun K5 hK5 => ?_)
  refine aw_seq_k (fun K6 hK6 => ?_)
  refine aw_region ?_
  refine x_pure rfl (p_assign rfl) ?_
  first | refine aops_end ?_ | refine aops_nil ?_
  refine hK6 _ ?_
  refine aw_block ?_
  refine aw_loop (ι := Nat) (fun k => ⟨26, [(0, .sl 4 (a.map stC)), (1, .sl 4 (b.map stC)), (5, .s (.int .i64 (k : Nat)))], []⟩) (fun k => k ≤ a.length ∧ a.take k = b.take k) (fun k => a.length - k) 0 ?_ ?_ ?_
  · exact ⟨Nat.zero_le _, rfl⟩
  · exact le_of ⟨rfl, rfl, rfl, trivial⟩
  ·
   rintro k hC
   obtain ⟨h1, h2⟩ := hC
   refine aw_seq_k (fun K7 hK7 => ?_)
   refine aw_seq_k (fun K8 hK8 => ?_)
   refine aw_region ?_
   refine x_pure rfl (p_move rfl) ?_
   refine x_pure rfl (p_move rfl) ?_
   first | refine x_pure rfl (p_len_sl rfl Try.e54) ?_ | refine x_pure rfl (p_len_own rfl Try.e54) ?_ | refine x_pure rfl (p_len_nil rfl Try.e54) ?_
   refine x_pure rfl (p_bin rfl rfl rfl) ?_
   first | refine aops_end ?_ | refine aops_nil ?_
   refine hK8 _ ?_
   refine aw_cond_s rfl (fun hc2 => ?_) (fun hc2 => ?_)
   ·
    try simp only [bs] at hc2
    refine aw_skip ?_
    refine hK7 _ ?_
    refine aw_seq_k (fun K9 hK9 => ?_)
    refine aw_block ?_
    refine aw_seq_k (fun K10 hK10 => ?_)
    refine aw_draw hf Try.mixed (by kernel_rfl) rfl ?_
    refine d_pure [(0, _)] rfl rfl ⟨⟨rfl, rfl⟩, trivial⟩ rfl (p_move rfl) ?_
    refine d_pure [(5, _)] rfl rfl ⟨⟨rfl, rfl⟩, trivial⟩ rfl (p_move rfl) ?_
    first | refine d_pure [(17, _), (18, _)] rfl rfl ⟨⟨rfl, rfl⟩, ⟨rfl, rfl⟩, trivial⟩ rfl (p_idx_sl rfl rfl Try.e54 Try.c52 (by first | assumption | (refine ⟨by omega, ?_⟩; first | assumption | exact strs_at (by omega) | exact strs_at (by simp only [List.length_cons] at *; omega) | exact ints_at (by omega) | exact map_at (by omega) | exact list_at (by omega)) | exact ⟨by decide, rfl⟩)) ?_ | refine d_pure [(17, _), (18, _)] rfl rfl ⟨⟨rfl, rfl⟩, ⟨rfl, rfl⟩, trivial⟩ rfl (p_idx_own rfl rfl Try.e54 Try.c52 (by omega)) ?_
    first | refine d_pure [(19, _)] rfl rfl ⟨⟨rfl, rfl⟩, trivial⟩ rfl (p_loads rfl Try.g52 Try.c52 rfl rfl) ?_ | refine d_pure [(19, _)] rfl rfl ⟨⟨rfl, rfl⟩, trivial⟩ rfl (p_loadsr rfl Try.g52 Try.c52 rfl rfl rfl) ?_
    refine d_pure [(1, _)] rfl rfl ⟨⟨rfl, rfl⟩, trivial⟩ rfl (p_move rfl) ?_
    refine d_pure [(5, _)] rfl rfl ⟨⟨rfl, rfl⟩, trivial⟩ rfl (p_move rfl) ?_
    first | refine d_pure [(21, _), (22, _)] rfl rfl ⟨⟨rfl, rfl⟩, ⟨rfl, rfl⟩, trivial⟩ rfl (p_idx_sl rfl rfl Try.e54 Try.c52 (by first | assumption | (refine ⟨by omega, ?_⟩; first | assumption | exact strs_at (by omega) | exact strs_at (by simp only [List.length_cons] at *; omega) | exact ints_at (by omega) | exact map_at (by omega) | exact list_at (by omega)) | exact ⟨by decide, rfl⟩)) ?_ | refine d_pure [(21, _), (22, _)] rfl rfl ⟨⟨rfl, rfl⟩, ⟨rfl, rfl⟩, trivial⟩ rfl (p_idx_own rfl rfl Try.e54 Try.c52 (by omega)) ?_
    first | refine d_pure [(23, _)] rfl rfl ⟨⟨rfl, rfl⟩, trivial⟩ rfl (p_loads rfl Try.g52 Try.c52 rfl rfl) ?_ | refine d_pure [(23, _)] rfl rfl ⟨⟨rfl, rfl⟩, trivial⟩ rfl (p_loadsr rfl Try.g52 Try.c52 rfl rfl rfl) ?_
    refine d_pure [(20, _), (24, _)] rfl rfl ⟨⟨rfl, rfl⟩, ⟨rfl, rfl⟩, trivial⟩ rfl (p_neagg rfl rfl Try.q52 rfl) ?_
    rw [stC_eqF]
    refine lex_end (sl' := [(0, _), (1, _), (5, _), (25, _)]) rfl ⟨rfl, rfl, rfl, rfl, trivial⟩ rfl ?_
    refine hK10 _ ?_
    refine aw_cond_s rfl (fun hc3 => ?_) (fun hc3 => ?_)
    ·
     try simp only [bs] at hc3
     refine aw_seq_k (fun K11 hK11 => ?_)
     refine aw_region ?_
     refine x_pure rfl (p_assign rfl) ?_
     first | refine aops_end ?_ | refine aops_nil ?_
     refine hK11 _ ?_
     refine aw_ret ?_
     refine ⟨_, rfl, ?_⟩
     refine ret_bool ?_
     rw [eqrow_diff (by omega) (by omega) (by assumption)]
    ·
     try simp only [bs] at hc3
     refine aw_skip ?_
     refine hK9 _ ?_
     refine aw_region ?_
     refine x_pure rfl (p_move rfl) ?_
     first | refine x_pure rfl (p_add rfl rfl (by omega) (by omega)) ?_ | refine x_pure rfl (p_bin rfl rfl rfl) ?_
     refine x_pure rfl (p_assign rfl) ?_
     first | refine aops_end ?_ | refine aops_nil ?_
     exact ⟨k+1, ⟨by omega, eqrow_next (by omega) (by omega) h2 (by assumption)⟩, by omega, le_of ⟨rfl, rfl, rfl, trivial⟩⟩
   ·
    try simp only [bs] at hc2
    refine aw_exit ?_
    refine hK5 _ ?_
    refine aw_seq_k (fun K12 hK12 => ?_)
    refine aw_region ?_
    refine x_pure rfl (p_assign rfl) ?_
    first | refine aops_end ?_ | refine aops_nil ?_
    refine hK12 _ ?_
    refine aw_ret ?_
    refine ⟨_, rfl, ?_⟩
    refine ret_bool ?_
    rw [eqrow_end (by omega) (by omega) h2]

set_option maxRecDepth 20000 in
set_option maxHeartbeats 400000 in
theorem afterS_den (l : List Stay) (t : Int) (hl : l.length * 32 ≤ 140737488351232)  : Den Try.prog 46 [.sl 4 (l.map stC), .s (.int .i64 t)]  (· = .sl 4 ((l.filter (fun s : Stay => !decide (s.1.2 ≤ t))).map stC)) := by
 refine den_of_aw Try.func46 rfl (Nat.le_of_ble_eq_true rfl) (fun w0 A hf => ?_)
 refine aw_seq_k (fun K1 hK1 => ?_)
 refine aw_region ?_
 refine x_step hf rfl (r_box rfl rfl (by simp [stC, AV.cells, AV.leaf, Value.oneCell', splice, AV.kill, AV.clean, cleanL, AV.only])) ?_
 refine x_pure rfl (p_assign_bad) ?_
 first | refine aops_end ?_ | refine aops_nil ?_
 refine hK1 _ ?_
 refine aw_seq_k (fun K2 hK2 => ?_)
 refine aw_region ?_
 refine x_pure rfl (p_move rfl) ?_
 refine y_callO hf rfl rfl rfl rfl rfl Try.ent74 rfl (sClone_den l (by omega)) ?_
 rintro _ rfl
 refine x_pure rfl (p_makeFunc rfl) ?_
 refine y_callM hf 6 rfl rfl rfl rfl rfl Try.ent77 (sDeleteFunc_den Try.ent78 rfl (fun _ => rfl) (fun s => decide (s.1.2 ≤ t)) l _ (by rw [List.length_map]) (by omega) (fun x _ => afterS1_den x t)) ?_
 rintro r zs ⟨rfl, rfl⟩
 refine x_pure rfl (p_assign rfl) ?_
 first | refine aops_end ?_ | refine aops_nil ?_
 refine hK2 _ ?_
 refine aw_ret ?_
 refine ⟨_, rfl, ?_⟩
 exact conv_whole (g := 6) rfl (by rw [List.length_map])

set_option maxRecDepth 20000 in
set_option maxHeartbeats 400000 in
theorem refAfterS_den (l : List Stay) (t : Int) (hl : l.length * 32 ≤ 140737488351232)  : Den Try.prog 47 [.sl 4 (l.map stC), .s (.int .i64 t)]  (· = .sl 4 ((l.filter (fun s : Stay => !decide (s.1.2 ≤ t))).map stC)) := by
 refine den_of_aw Try.func47 rfl (Nat.le_of_ble_eq_true rfl) (fun w0 A hf => ?_)
 refine aw_seq_k (fun K1 hK1 => ?_)
 refine aw_region ?_
 refine x_pure rfl (p_assign_bad) ?_
 first | refine aops_end ?_ | refine aops_nil ?_
 refine hK1 _ ?_
 refine aw_seq_k (fun K2 hK2 => ?_)
 refine aw_region ?_
 refine x_nil hf 4 rfl rfl rfl ?_
 first | refine aops_end ?_ | refine aops_nil ?_
 refine hK2 _ ?_
 refine aw_seq_k (fun K3 hK3 => ?_)
 refine aw_seq_k (fun K4 hK4 => ?_)
 refine aw_region ?_
 refine x_pure rfl (p_assign rfl) ?_
 first | refine aops_end ?_ | refine aops_nil ?_
 refine hK4 _ ?_
 refine aw_block ?_
 refine aw_loop (ι := Nat × List Stay) (fun (⟨k, out⟩ : Nat × List Stay) => ⟨28, [(0, .sl 4 (l.map stC)), (1, .s (.int .i64 t)), (5, .own 5 4 0 out.length), (6, .s (.int .i64 (k : Nat)))], [(5, .buf 4 (out.map stC))]⟩) (fun (⟨k, out⟩ : Nat × List Stay) => k ≤ l.length ∧ out = (l.take k).filter (fun s : Stay => !decide (s.1.2 ≤ t)) ∧ out.length ≤ k) (fun (⟨k, out⟩ : Nat × List Stay) => l.length - k) (0, []) ?_ ?_ ?_
 · exact ⟨Nat.zero_le _, rfl, Nat.le_refl _⟩
 · exact le_of ⟨rfl, rfl, rfl, rfl, trivial⟩
 ·
  rintro ⟨k, out⟩ hC
  obtain ⟨h1, h2, h3⟩ := hC
  refine aw_seq_k (fun K5 hK5 => ?_)
  refine aw_seq_k (fun K6 hK6 => ?_)
  refine aw_region ?_
  refine x_pure rfl (p_move rfl) ?_
  refine x_pure rfl (p_move rfl) ?_
  first | refine x_pure rfl (p_len_sl rfl Try.e54) ?_ | refine x_pure rfl (p_len_own rfl Try.e54) ?_ | refine x_pure rfl (p_len_nil rfl Try.e54) ?_
  refine x_pure rfl (p_bin rfl rfl rfl) ?_
  first | refine aops_end ?_ | refine aops_nil ?_
  refine hK6 _ ?_
  refine aw_cond_s rfl (fun hc1 => ?_) (fun hc1 => ?_)
  ·
   try simp only [bs] at hc1
   refine aw_skip ?_
   refine hK5 _ ?_
   refine aw_seq_k (fun K7 hK7 => ?_)
   refine aw_block ?_
   refine aw_seq_k (fun K8 hK8 => ?_)
   refine aw_region ?_
   refine x_pure rfl (p_move rfl) ?_
   refine x_pure rfl (p_move rfl) ?_
   first | refine x_pure rfl (p_idx_sl rfl rfl Try.e54 Try.c52 (by first | assumption | (refine ⟨by omega, ?_⟩; first | assumption | exact strs_at (by omega) | exact strs_at (by simp only [List.length_cons] at *; omega) | exact ints_at (by omega) | exact map_at (by omega) | exact list_at (by omega)) | exact ⟨by decide, rfl⟩)) ?_ | refine x_pure rfl (p_idx_own rfl rfl Try.e54 Try.c52 (by omega)) ?_
   first | refine x_pure rfl (p_fld_adr rfl Try.fd52_1 Try.c3 rfl) ?_ | refine x_pure rfl (p_fld_ref rfl Try.fd52_1 Try.c3 rfl) ?_
   first | refine x_pure rfl (p_load1 rfl Try.g3 rfl) ?_ | refine x_pure rfl (p_load1r rfl Try.g3 rfl rfl) ?_ | refine x_pure rfl (p_load1r rfl Try.g3 rfl (strs_ref (by simp only [List.length_cons] at *; omega))) ?_ | refine x_pure rfl (p_load1r rfl Try.g3 rfl (strs_ref (by omega))) ?_
   refine x_pure rfl (p_move rfl) ?_
   refine x_pure rfl (p_bin rfl rfl rfl) ?_
   first | refine aops_end ?_ | refine aops_nil ?_
   refine hK8 _ ?_
   refine aw_cond_s rfl (fun hc2 => ?_) (fun hc2 => ?_)
   ·
    try simp only [bs] at hc2
    refine aw_region ?_
    refine x_pure rfl (p_move rfl) ?_
    refine x_pure rfl (p_move rfl) ?_
    refine x_pure rfl (p_move rfl) ?_
    first | refine x_pure rfl (p_idx_sl rfl rfl Try.e54 Try.c52 (by first | assumption | (refine ⟨by omega, ?_⟩; first | assumption | exact strs_at (by omega) | exact strs_at (by simp only [List.length_cons] at *; omega) | exact ints_at (by omega) | exact map_at (by omega) | exact list_at (by omega)) | exact ⟨by decide, rfl⟩)) ?_ | refine x_pure rfl (p_idx_own rfl rfl Try.e54 Try.c52 (by omega)) ?_
    first | refine x_pure rfl (p_loads rfl Try.g52 Try.c52 rfl rfl) ?_ | refine x_pure rfl (p_loadsr rfl Try.g52 Try.c52 rfl rfl rfl) ?_
    refine x_step hf rfl (r_buildSlice Try.ap54 rfl rfl rfl rfl (by simp [stC, AV.cells, AV.leaf, Value.oneCell', splice, AV.kill, AV.clean, cleanL, AV.only])) ?_
    refine x_append hf rfl Try.ap54 rfl rfl rfl (.inl rfl) (by rw [List.length_map]) rfl (by first | rfl | simp [asrc, look]) (by first | (simp only [maxLen, List.length_map, List.length_append, List.length_cons, List.length_nil]; omega) | (simp [maxLen] <;> omega)) (by first | (simp only [List.length_map, List.length_append, List.length_cons, List.length_nil]; omega) | (simp <;> omega)) ?_
    refine aops_le (le_of (sl' := [(0, _), (1, _), (6, _), (26, _)]) ⟨rfl, rfl, rfl, rfl, trivial⟩) ?_
    refine x_pure rfl (p_assign rfl) ?_
    first | refine aops_end ?_ | refine aops_nil ?_
    refine hK7 _ ?_
    refine aw_region ?_
    refine x_pure rfl (p_move rfl) ?_
    first | refine x_pure rfl (p_add rfl rfl (by omega) (by omega)) ?_ | refine x_pure rfl (p_bin rfl rfl rfl) ?_
    refine x_pure rfl (p_assign rfl) ?_
    first | refine aops_end ?_ | refine aops_nil ?_
    first
    | exact ⟨(k + 1, out ++ [l[k]]), ⟨by omega, by rw [h2, filt_t (by omega) (by simp; omega)], by rw [List.length_append]; simp only [List.length_cons, List.length_nil]; omega⟩, by simp only; omega, le_to ⟨rfl, rfl, (by rw [List.length_append]; rfl), rfl, trivial⟩ (by rw [List.map_append]; rfl)⟩
    | exact ⟨(k + 1, out), ⟨by omega, by rw [h2, filt_f (by omega) (by simp; omega)], by omega⟩, by simp only; omega, le_to ⟨rfl, rfl, rfl, rfl, trivial⟩ rfl⟩
   ·
    try simp only [bs] at hc2
    refine aw_skip ?_
    refine hK7 _ ?_
    refine aw_region ?_
    refine x_pure rfl (p_move rfl) ?_
    first | refine x_pure rfl (p_add rfl rfl (by omega) (by omega)) ?_ | refine x_pure rfl (p_bin rfl rfl rfl) ?_
    refine x_pure rfl (p_assign rfl) ?_
    first | refine aops_end ?_ | refine aops_nil ?_
    first
    | exact ⟨(k + 1, out ++ [l[k]]), ⟨by omega, by rw [h2, filt_t (by omega) (by simp; omega)], by rw [List.length_append]; simp only [List.length_cons, List.length_nil]; omega⟩, by simp only; omega, le_to ⟨rfl, rfl, (by rw [List.length_append]; rfl), rfl, trivial⟩ (by rw [List.map_append]; rfl)⟩
    | exact ⟨(k + 1, out), ⟨by omega, by rw [h2, filt_f (by omega) (by simp; omega)], by omega⟩, by simp only; omega, le_to ⟨rfl, rfl, rfl, rfl, trivial⟩ rfl⟩
  ·
   try simp only [bs] at hc1
   refine aw_exit ?_
   refine hK3 _ ?_
   refine aw_seq_k (fun K9 hK9 => ?_)
   refine aw_region ?_
   refine x_pure rfl (p_move rfl) ?_
   refine x_pure rfl (p_assign rfl) ?_
   first | refine aops_end ?_ | refine aops_nil ?_
   refine hK9 _ ?_
   refine aw_ret ?_
   refine ⟨_, rfl, ?_⟩
   refine (conv_whole (g := 5) rfl (by rw [List.length_map])).trans ?_
   rw [h2, List.take_of_length_le (by omega)]

set_option maxRecDepth 20000 in
set_option maxHeartbeats 400000 in
theorem lastS_den (l : List Stay) (hl : l.length ≤ 9223372036854775807)  : Den Try.prog 44 [.sl 4 (l.map stC)]  (· = .tup [.s (.int .i64 (lastS l).1), .s (.bool (lastS l).2)]) := by
 refine den_of_aw Try.func44 rfl (Nat.le_of_ble_eq_true rfl) (fun w0 A hf => ?_)
 refine aw_seq_k (fun K1 hK1 => ?_)
 refine aw_region ?_
 refine x_pure rfl (p_assign_bad) ?_
 refine x_pure rfl (p_assign_bad) ?_
 first | refine aops_end ?_ | refine aops_nil ?_
 refine hK1 _ ?_
 refine aw_seq_k (fun K2 hK2 => ?_)
 refine aw_region ?_
 refine x_pure rfl (p_assign rfl) ?_
 refine x_pure rfl (p_assign rfl) ?_
 first | refine aops_end ?_ | refine aops_nil ?_
 refine hK2 _ ?_
 refine aw_seq_k (fun K3 hK3 => ?_)
 refine aw_seq_k (fun K4 hK4 => ?_)
 refine aw_region ?_
 refine x_pure rfl (p_move rfl) ?_
 first | refine x_pure rfl (p_len_sl rfl Try.e61) ?_ | refine x_pure rfl (p_len_own rfl Try.e61) ?_ | refine x_pure rfl (p_len_nil rfl Try.e61) ?_
 refine x_pure rfl (p_move rfl) ?_
 first | refine aops_end ?_ | refine aops_nil ?_
 refine hK4 _ ?_
 refine aw_block ?_
 refine aw_loop (ι := Nat × Int × Bool) (fun (⟨k, n, b⟩ : Nat × Int × Bool) => ⟨35, [(4, .s (.int .i64 n)), (5, .s (.bool b)), (8, .sl 4 (l.map stC)), (9, .s (.int .i64 ((l.map stC).length : Nat))), (10, .s (.int .i64 (k : Nat)))], []⟩) (fun (⟨k, n, b⟩ : Nat × Int × Bool) => k ≤ l.length ∧ (n, b) = (l.take k).foldl lastStep (0, false)) (fun (⟨k, n, b⟩ : Nat × Int × Bool) => l.length - k) (0, 0, false) ?_ ?_ ?_
 · exact ⟨Nat.zero_le _, rfl⟩
 · exact le_of ⟨rfl, rfl, rfl, rfl, rfl, trivial⟩
 ·
  rintro ⟨k, n, b⟩ hC
  obtain ⟨h1, h2⟩ := hC
  refine aw_seq_k (fun K5 hK5 => ?_)
  refine aw_region ?_
  refine x_pure rfl (p_bin rfl rfl rfl) ?_
  first | refine aops_end ?_ | refine aops_nil ?_
  refine hK5 _ ?_
  refine aw_seq_k (fun K6 hK6 => ?_)
  refine aw_cond_s rfl (fun hc1 => ?_) (fun hc1 => ?_)
  ·
   try simp only [bs] at hc1
   refine aw_skip ?_
   refine hK6 _ ?_
   refine aw_seq_k (fun K7 hK7 => ?_)
   refine aw_block ?_
   refine aw_seq_k (fun K8 hK8 => ?_)
   refine aw_region ?_
   first | refine x_pure rfl (p_idx_sl rfl rfl Try.e61 Try.c57 (by first | assumption | (refine ⟨by omega, ?_⟩; first | assumption | exact strs_at (by omega) | exact strs_at (by simp only [List.length_cons] at *; omega) | exact ints_at (by omega) | exact map_at (by omega) | exact list_at (by omega)) | exact ⟨by decide, rfl⟩)) ?_ | refine x_pure rfl (p_idx_own rfl rfl Try.e61 Try.c57 (by omega)) ?_
   first | refine x_pure rfl (p_loads rfl Try.g57 Try.c57 rfl rfl) ?_ | refine x_pure rfl (p_loadsr rfl Try.g57 Try.c57 rfl rfl rfl) ?_
   refine x_allocst hf rfl Try.z57 rfl Try.c57 rfl rfl rfl rfl (by simp [stC, spC, AV.cells, AV.leaf, Value.oneCell', splice, AV.kill, AV.clean, cleanL, AV.only]) ?_
   first | refine aops_end ?_ | refine aops_nil ?_
   refine hK8 _ ?_
   refine aw_seq_k (fun K9 hK9 => ?_)
   refine aw_region ?_
   first | refine x_pure rfl (p_fld_adr rfl Try.fd57_0 Try.c43 rfl) ?_ | refine x_pure rfl (p_fld_ref rfl Try.fd57_0 Try.c43 rfl) ?_
   first | refine x_pure rfl (p_loads rfl Try.g43 Try.c43 rfl rfl) ?_ | refine x_pure rfl (p_loadsr rfl Try.g43 Try.c43 rfl rfl rfl) ?_
   refine x_step hf rfl (r_call rfl rfl Try.ent61 rfl (none_den _)) ?_
   refine x_pure rfl (p_not rfl) ?_
   refine x_pure rfl (p_move rfl) ?_
   refine y_guard_s rfl rfl rfl (fun hg2 => ?_) (fun hg2 => ?_)
   ·
    try simp only [bs] at hg2
    refine x_pure rfl (p_move rfl) ?_
    refine x_guard_t rfl rfl rfl ?_
    refine x_pure rfl (p_not rfl) ?_
    refine x_guard_t rfl rfl rfl ?_
    refine x_pure rfl (p_move rfl) ?_
    refine y_guard_s rfl rfl rfl (fun hg3 => ?_) (fun hg3 => ?_)
    ·
     try simp only [bs] at hg3
     first | refine x_pure rfl (p_fld_adr rfl Try.fd57_0 Try.c43 rfl) ?_ | refine x_pure rfl (p_fld_ref rfl Try.fd57_0 Try.c43 rfl) ?_
     refine x_guard_t rfl rfl rfl ?_
     first | refine x_pure rfl (p_fld_adr rfl Try.fd43_1 Try.c3 rfl) ?_ | refine x_pure rfl (p_fld_ref rfl Try.fd43_1 Try.c3 rfl) ?_
     refine x_guard_t rfl rfl rfl ?_
     first | refine x_pure rfl (p_load1 rfl Try.g3 rfl) ?_ | refine x_pure rfl (p_load1r rfl Try.g3 rfl rfl) ?_ | refine x_pure rfl (p_load1r rfl Try.g3 rfl (strs_ref (by simp only [List.length_cons] at *; omega))) ?_ | refine x_pure rfl (p_load1r rfl Try.g3 rfl (strs_ref (by omega))) ?_
     refine x_guard_t rfl rfl rfl ?_
     refine x_pure rfl (p_move rfl) ?_
     refine x_guard_t rfl rfl rfl ?_
     refine x_pure rfl (p_bin rfl rfl rfl) ?_
     refine x_guard_t rfl rfl rfl ?_
     refine x_pure rfl (p_pick_f rfl rfl) ?_
     refine x_pure rfl (p_pick_t rfl rfl) ?_
     first | refine aops_end ?_ | refine aops_nil ?_
     refine hK9 _ ?_
     refine aw_cond_s rfl (fun hc4 => ?_) (fun hc4 => ?_)
     ·
      try simp only [bs] at hc4
      refine aw_region ?_
      first | refine x_pure rfl (p_fld_adr rfl Try.fd57_0 Try.c43 rfl) ?_ | refine x_pure rfl (p_fld_ref rfl Try.fd57_0 Try.c43 rfl) ?_
      first | refine x_pure rfl (p_fld_adr rfl Try.fd43_1 Try.c3 rfl) ?_ | refine x_pure rfl (p_fld_ref rfl Try.fd43_1 Try.c3 rfl) ?_
      first | refine x_pure rfl (p_load1 rfl Try.g3 rfl) ?_ | refine x_pure rfl (p_load1r rfl Try.g3 rfl rfl) ?_ | refine x_pure rfl (p_load1r rfl Try.g3 rfl (strs_ref (by simp only [List.length_cons] at *; omega))) ?_ | refine x_pure rfl (p_load1r rfl Try.g3 rfl (strs_ref (by omega))) ?_
      refine x_pure rfl (p_assign rfl) ?_
      refine x_pure rfl (p_assign rfl) ?_
      first | refine aops_end ?_ | refine aops_nil ?_
      refine hK7 _ ?_
      refine aw_region ?_
      first | refine x_pure rfl (p_add rfl rfl (by omega) (by omega)) ?_ | refine x_pure rfl (p_bin rfl rfl rfl) ?_
      refine x_pure rfl (p_move rfl) ?_
      first | refine aops_end ?_ | refine aops_nil ?_
      first
      | exact ⟨(k + 1, l[k].1.2, true), ⟨by omega, by rw [take_foldl l lastStep _ k (by omega), ← h2, lastStep, if_pos (by simp only; first | exact ⟨by omega, .inl (by assumption)⟩ | exact ⟨by omega, .inr (by omega)⟩)]⟩, by simp only; omega, le_of ⟨rfl, rfl, rfl, rfl, rfl, trivial⟩⟩
      | exact ⟨(k + 1, n, b), ⟨by omega, by rw [take_foldl l lastStep _ k (by omega), ← h2, lastStep, if_neg (by simp only; rintro ⟨e1, e2⟩; first | omega | (rcases e2 with e2 | e2; simp_all; omega))]⟩, by simp only; omega, le_of ⟨rfl, rfl, rfl, rfl, rfl, trivial⟩⟩
     ·
      try simp only [bs] at hc4
      refine aw_skip ?_
      refine hK7 _ ?_
      refine aw_region ?_
      first | refine x_pure rfl (p_add rfl rfl (by omega) (by omega)) ?_ | refine x_pure rfl (p_bin rfl rfl rfl) ?_
      refine x_pure rfl (p_move rfl) ?_
      first | refine aops_end ?_ | refine aops_nil ?_
      first
      | exact ⟨(k + 1, l[k].1.2, true), ⟨by omega, by rw [take_foldl l lastStep _ k (by omega), ← h2, lastStep, if_pos (by simp only; first | exact ⟨by omega, .inl (by assumption)⟩ | exact ⟨by omega, .inr (by omega)⟩)]⟩, by simp only; omega, le_of ⟨rfl, rfl, rfl, rfl, rfl, trivial⟩⟩
      | exact ⟨(k + 1, n, b), ⟨by omega, by rw [take_foldl l lastStep _ k (by omega), ← h2, lastStep, if_neg (by simp only; rintro ⟨e1, e2⟩; first | omega | (rcases e2 with e2 | e2; simp_all; omega))]⟩, by simp only; omega, le_of ⟨rfl, rfl, rfl, rfl, rfl, trivial⟩⟩
    ·
     try simp only [bs] at hg3
     refine x_guard_f rfl rfl rfl ?_
     refine x_guard_f rfl rfl rfl ?_
     refine x_guard_f rfl rfl rfl ?_
     refine x_guard_f rfl rfl rfl ?_
     refine x_guard_t rfl rfl rfl ?_
     refine x_pure rfl (p_pick_t rfl rfl) ?_
     refine x_pure rfl (p_pick_t rfl rfl) ?_
     first | refine aops_end ?_ | refine aops_nil ?_
     refine hK9 _ ?_
     refine aw_cond_t rfl ?_
     refine aw_region ?_
     first | refine x_pure rfl (p_fld_adr rfl Try.fd57_0 Try.c43 rfl) ?_ | refine x_pure rfl (p_fld_ref rfl Try.fd57_0 Try.c43 rfl) ?_
     first | refine x_pure rfl (p_fld_adr rfl Try.fd43_1 Try.c3 rfl) ?_ | refine x_pure rfl (p_fld_ref rfl Try.fd43_1 Try.c3 rfl) ?_
     first | refine x_pure rfl (p_load1 rfl Try.g3 rfl) ?_ | refine x_pure rfl (p_load1r rfl Try.g3 rfl rfl) ?_ | refine x_pure rfl (p_load1r rfl Try.g3 rfl (strs_ref (by simp only [List.length_cons] at *; omega))) ?_ | refine x_pure rfl (p_load1r rfl Try.g3 rfl (strs_ref (by omega))) ?_
     refine x_pure rfl (p_assign rfl) ?_
     refine x_pure rfl (p_assign rfl) ?_
     first | refine aops_end ?_ | refine aops_nil ?_
     refine hK7 _ ?_
     refine aw_region ?_
     first | refine x_pure rfl (p_add rfl rfl (by omega) (by omega)) ?_ | refine x_pure rfl (p_bin rfl rfl rfl) ?_
     refine x_pure rfl (p_move rfl) ?_
     first | refine aops_end ?_ | refine aops_nil ?_
     first
     | exact ⟨(k + 1, l[k].1.2, true), ⟨by omega, by rw [take_foldl l lastStep _ k (by omega), ← h2, lastStep, if_pos (by simp only; first | exact ⟨by omega, .inl (by assumption)⟩ | exact ⟨by omega, .inr (by omega)⟩)]⟩, by simp only; omega, le_of ⟨rfl, rfl, rfl, rfl, rfl, trivial⟩⟩
     | exact ⟨(k + 1, n, b), ⟨by omega, by rw [take_foldl l lastStep _ k (by omega), ← h2, lastStep, if_neg (by simp only; rintro ⟨e1, e2⟩; first | omega | (rcases e2 with e2 | e2; simp_all; omega))]⟩, by simp only; omega, le_of ⟨rfl, rfl, rfl, rfl, rfl, trivial⟩⟩
   ·
    try simp only [bs] at hg2
    refine x_guard_f rfl rfl rfl ?_
    refine x_guard_f rfl rfl rfl ?_
    refine x_guard_u rfl rfl rfl ?_
    refine x_guard_u rfl rfl rfl ?_
    refine x_guard_u rfl rfl rfl ?_
    refine x_guard_u rfl rfl rfl ?_
    refine x_guard_u rfl rfl rfl ?_
    refine x_guard_f rfl rfl rfl ?_
    refine x_pure rfl (p_pick_f rfl rfl) ?_
    first | refine aops_end ?_ | refine aops_nil ?_
    refine hK9 _ ?_
    refine aw_cond_f rfl ?_
    refine aw_skip ?_
    refine hK7 _ ?_
    refine aw_region ?_
    first | refine x_pure rfl (p_add rfl rfl (by omega) (by omega)) ?_ | refine x_pure rfl (p_bin rfl rfl rfl) ?_
    refine x_pure rfl (p_move rfl) ?_
    first | refine aops_end ?_ | refine aops_nil ?_
    first
    | exact ⟨(k + 1, l[k].1.2, true), ⟨by omega, by rw [take_foldl l lastStep _ k (by omega), ← h2, lastStep, if_pos (by simp only; first | exact ⟨by omega, .inl (by assumption)⟩ | exact ⟨by omega, .inr (by omega)⟩)]⟩, by simp only; omega, le_of ⟨rfl, rfl, rfl, rfl, rfl, trivial⟩⟩
    | exact ⟨(k + 1, n, b), ⟨by omega, by rw [take_foldl l lastStep _ k (by omega), ← h2, lastStep, if_neg (by simp only; rintro ⟨e1, e2⟩; first | omega | (rcases e2 with e2 | e2; simp_all; omega))]⟩, by simp only; omega, le_of ⟨rfl, rfl, rfl, rfl, rfl, trivial⟩⟩
  ·
   try simp only [bs] at hc1
   refine aw_exit ?_
   refine hK3 _ ?_
   refine aw_seq_k (fun K10 hK10 => ?_)
   refine aw_region ?_
   refine x_pure rfl (p_move rfl) ?_
   refine x_pure rfl (p_move rfl) ?_
   refine x_pure rfl (p_assign rfl) ?_
   refine x_pure rfl (p_assign rfl) ?_
   first | refine aops_end ?_ | refine aops_nil ?_
   refine hK10 _ ?_
   refine aw_ret ?_
   refine ⟨_, rfl, ?_⟩
   show AV.tup [.s (.int .i64 n), .s (.bool b)] = _
   rw [lastS, ← take_all_foldl l lastStep (0, false) k (by omega), ← h2]

set_option maxRecDepth 20000 in
set_option maxHeartbeats 400000 in
theorem refLastS_den (l : List Stay) (hl : l.length ≤ 9223372036854775807)  : Den Try.prog 45 [.sl 4 (l.map stC)]  (· = .tup [.s (.int .i64 (lastS l).1), .s (.bool (lastS l).2)]) := by
 refine den_of_aw Try.func45 rfl (Nat.le_of_ble_eq_true rfl) (fun w0 A hf => ?_)
 refine aw_seq_k (fun K1 hK1 => ?_)
 refine aw_region ?_
 refine x_pure rfl (p_assign_bad) ?_
 refine x_pure rfl (p_assign_bad) ?_
 first | refine aops_end ?_ | refine aops_nil ?_
 refine hK1 _ ?_
 refine aw_seq_k (fun K2 hK2 => ?_)
 refine aw_region ?_
 refine x_pure rfl (p_assign rfl) ?_
 first | refine aops_end ?_ | refine aops_nil ?_
 refine hK2 _ ?_
 refine aw_seq_k (fun K3 hK3 => ?_)
 refine aw_seq_k (fun K4 hK4 => ?_)
 refine aw_region ?_
 refine x_pure rfl (p_assign rfl) ?_
 first | refine aops_end ?_ | refine aops_nil ?_
 refine hK4 _ ?_
 refine aw_block ?_
 refine aw_loop (ι := Nat × Int) (fun (⟨k, b⟩ : Nat × Int) => ⟨48, [(0, .sl 4 (l.map stC)), (4, .s (.int .i64 b)), (5, .s (.int .i64 (k : Nat)))], []⟩) (fun (⟨k, b⟩ : Nat × Int) => k ≤ l.length ∧ ((b = -1 ∧ (l.take k).foldl lastStep (0, false) = (0, false)) ∨ (∃ i : Nat, ∃ hi : i < l.length, i < k ∧ b = (i : Int) ∧ (l.take k).foldl lastStep (0, false) = (l[i].1.2, true)))) (fun (⟨k, b⟩ : Nat × Int) => l.length - k) (0, -1) ?_ ?_ ?_
 · exact ⟨Nat.zero_le _, .inl ⟨rfl, rfl⟩⟩
 · exact le_of ⟨rfl, rfl, rfl, trivial⟩
 ·
  rintro ⟨k, b⟩ hC
  obtain ⟨h1, h2⟩ := hC
  refine aw_seq_k (fun K5 hK5 => ?_)
  refine aw_seq_k (fun K6 hK6 => ?_)
  refine aw_region ?_
  refine x_pure rfl (p_move rfl) ?_
  refine x_pure rfl (p_move rfl) ?_
  first | refine x_pure rfl (p_len_sl rfl Try.e54) ?_ | refine x_pure rfl (p_len_own rfl Try.e54) ?_ | refine x_pure rfl (p_len_nil rfl Try.e54) ?_
  refine x_pure rfl (p_bin rfl rfl rfl) ?_
  first | refine aops_end ?_ | refine aops_nil ?_
  refine hK6 _ ?_
  refine aw_cond_s rfl (fun hc1 => ?_) (fun hc1 => ?_)
  ·
   try simp only [bs] at hc1
   refine aw_skip ?_
   refine hK5 _ ?_
   refine aw_seq_k (fun K7 hK7 => ?_)
   refine aw_block ?_
   refine aw_seq_k (fun K8 hK8 => ?_)
   refine aw_draw hf Try.mixed (by kernel_rfl) rfl ?_
   refine d_pure [(0, _)] rfl rfl ⟨⟨rfl, rfl⟩, trivial⟩ rfl (p_move rfl) ?_
   refine d_pure [(5, _)] rfl rfl ⟨⟨rfl, rfl⟩, trivial⟩ rfl (p_move rfl) ?_
   first | refine d_pure [(12, _), (13, _)] rfl rfl ⟨⟨rfl, rfl⟩, ⟨rfl, rfl⟩, trivial⟩ rfl (p_idx_sl rfl rfl Try.e54 Try.c52 (by first | assumption | (refine ⟨by omega, ?_⟩; first | assumption | exact strs_at (by omega) | exact strs_at (by simp only [List.length_cons] at *; omega) | exact ints_at (by omega) | exact map_at (by omega) | exact list_at (by omega)) | exact ⟨by decide, rfl⟩)) ?_ | refine d_pure [(12, _), (13, _)] rfl rfl ⟨⟨rfl, rfl⟩, ⟨rfl, rfl⟩, trivial⟩ rfl (p_idx_own rfl rfl Try.e54 Try.c52 (by omega)) ?_
   first | refine d_pure [(14, _)] rfl rfl ⟨⟨rfl, rfl⟩, trivial⟩ rfl (p_fld_adr rfl Try.fd52_1 Try.c3 rfl) ?_ | refine d_pure [(14, _)] rfl rfl ⟨⟨rfl, rfl⟩, trivial⟩ rfl (p_fld_ref rfl Try.fd52_1 Try.c3 rfl) ?_
   first | refine d_pure [(15, _)] rfl rfl ⟨⟨rfl, rfl⟩, trivial⟩ rfl (p_load1 rfl Try.g3 rfl) ?_ | refine d_pure [(15, _)] rfl rfl ⟨⟨rfl, rfl⟩, trivial⟩ rfl (p_load1r rfl Try.g3 rfl rfl) ?_ | refine d_pure [(15, _)] rfl rfl ⟨⟨rfl, rfl⟩, trivial⟩ rfl (p_load1r rfl Try.g3 rfl (strs_ref (by simp only [List.length_cons] at *; omega))) ?_ | refine d_pure [(15, _)] rfl rfl ⟨⟨rfl, rfl⟩, trivial⟩ rfl (p_load1r rfl Try.g3 rfl (strs_ref (by omega))) ?_
   refine d_pure [(0, _)] rfl rfl ⟨⟨rfl, rfl⟩, trivial⟩ rfl (p_move rfl) ?_
   refine d_pure [(5, _)] rfl rfl ⟨⟨rfl, rfl⟩, trivial⟩ rfl (p_move rfl) ?_
   first | refine d_pure [(17, _), (18, _)] rfl rfl ⟨⟨rfl, rfl⟩, ⟨rfl, rfl⟩, trivial⟩ rfl (p_idx_sl rfl rfl Try.e54 Try.c52 (by first | assumption | (refine ⟨by omega, ?_⟩; first | assumption | exact strs_at (by omega) | exact strs_at (by simp only [List.length_cons] at *; omega) | exact ints_at (by omega) | exact map_at (by omega) | exact list_at (by omega)) | exact ⟨by decide, rfl⟩)) ?_ | refine d_pure [(17, _), (18, _)] rfl rfl ⟨⟨rfl, rfl⟩, ⟨rfl, rfl⟩, trivial⟩ rfl (p_idx_own rfl rfl Try.e54 Try.c52 (by omega)) ?_
   first | refine d_pure [(19, _)] rfl rfl ⟨⟨rfl, rfl⟩, trivial⟩ rfl (p_fld_adr rfl Try.fd52_0 Try.c3 rfl) ?_ | refine d_pure [(19, _)] rfl rfl ⟨⟨rfl, rfl⟩, trivial⟩ rfl (p_fld_ref rfl Try.fd52_0 Try.c3 rfl) ?_
   first | refine d_pure [(20, _)] rfl rfl ⟨⟨rfl, rfl⟩, trivial⟩ rfl (p_load1 rfl Try.g3 rfl) ?_ | refine d_pure [(20, _)] rfl rfl ⟨⟨rfl, rfl⟩, trivial⟩ rfl (p_load1r rfl Try.g3 rfl rfl) ?_ | refine d_pure [(20, _)] rfl rfl ⟨⟨rfl, rfl⟩, trivial⟩ rfl (p_load1r rfl Try.g3 rfl (strs_ref (by simp only [List.length_cons] at *; omega))) ?_ | refine d_pure [(20, _)] rfl rfl ⟨⟨rfl, rfl⟩, trivial⟩ rfl (p_load1r rfl Try.g3 rfl (strs_ref (by omega))) ?_
   refine d_pure [(16, _), (21, _)] rfl rfl ⟨⟨rfl, rfl⟩, ⟨rfl, rfl⟩, trivial⟩ rfl (p_bin rfl rfl rfl) ?_
   refine d_pure [(22, _)] rfl rfl ⟨⟨rfl, rfl⟩, trivial⟩ rfl (p_move rfl) ?_
   refine d_split 23 true rfl (fun hg2 => ?_) (fun hg2 => ?_)
   ·
    try simp only [bs] at hg2
    refine d_pure [(4, _)] rfl rfl ⟨⟨rfl, rfl⟩, trivial⟩ rfl (p_move rfl) ?_
    refine d_pure [(24, _)] rfl rfl ⟨⟨rfl, rfl⟩, trivial⟩ rfl (p_bin rfl rfl rfl) ?_
    refine d_pure [(25, _)] rfl rfl ⟨⟨rfl, rfl⟩, trivial⟩ rfl (p_move rfl) ?_
    refine d_split 26 false rfl (fun hg3 => ?_) (fun hg3 => ?_)
    ·
     try simp only [bs] at hg3
     obtain ⟨i0, hi0, hik0, h2b, h2e⟩ : ∃ i : Nat, ∃ hi : i < l.length, i < k ∧ b = (i : Int) ∧ (l.take k).foldl lastStep (0, false) = (l[i].1.2, true) := by
      rcases h2 with ⟨e, h2⟩ | h2
      · exfalso; omega
      · exact h2
     refine d_pure [(0, _)] rfl rfl ⟨⟨rfl, rfl⟩, trivial⟩ rfl (p_move rfl) ?_
     refine d_pure [(5, _)] rfl rfl ⟨⟨rfl, rfl⟩, trivial⟩ rfl (p_move rfl) ?_
     first | refine d_pure [(27, _), (28, _)] rfl rfl ⟨⟨rfl, rfl⟩, ⟨rfl, rfl⟩, trivial⟩ rfl (p_idx_sl rfl rfl Try.e54 Try.c52 (by first | assumption | (refine ⟨by omega, ?_⟩; first | assumption | exact strs_at (by omega) | exact strs_at (by simp only [List.length_cons] at *; omega) | exact ints_at (by omega) | exact map_at (by omega) | exact list_at (by omega)) | exact ⟨by decide, rfl⟩)) ?_ | refine d_pure [(27, _), (28, _)] rfl rfl ⟨⟨rfl, rfl⟩, ⟨rfl, rfl⟩, trivial⟩ rfl (p_idx_own rfl rfl Try.e54 Try.c52 (by omega)) ?_
     first | refine d_pure [(29, _)] rfl rfl ⟨⟨rfl, rfl⟩, trivial⟩ rfl (p_fld_adr rfl Try.fd52_1 Try.c3 rfl) ?_ | refine d_pure [(29, _)] rfl rfl ⟨⟨rfl, rfl⟩, trivial⟩ rfl (p_fld_ref rfl Try.fd52_1 Try.c3 rfl) ?_
     first | refine d_pure [(30, _)] rfl rfl ⟨⟨rfl, rfl⟩, trivial⟩ rfl (p_load1 rfl Try.g3 rfl) ?_ | refine d_pure [(30, _)] rfl rfl ⟨⟨rfl, rfl⟩, trivial⟩ rfl (p_load1r rfl Try.g3 rfl rfl) ?_ | refine d_pure [(30, _)] rfl rfl ⟨⟨rfl, rfl⟩, trivial⟩ rfl (p_load1r rfl Try.g3 rfl (strs_ref (by simp only [List.length_cons] at *; omega))) ?_ | refine d_pure [(30, _)] rfl rfl ⟨⟨rfl, rfl⟩, trivial⟩ rfl (p_load1r rfl Try.g3 rfl (strs_ref (by omega))) ?_
     refine d_pure [(0, _)] rfl rfl ⟨⟨rfl, rfl⟩, trivial⟩ rfl (p_move rfl) ?_
     refine d_pure [(4, _)] rfl rfl ⟨⟨rfl, rfl⟩, trivial⟩ rfl (p_move rfl) ?_
     refine d_pure [(32, _), (33, _)] rfl rfl ⟨⟨rfl, rfl⟩, ⟨rfl, rfl⟩, trivial⟩ rfl (p_idx_sl rfl rfl Try.e54 Try.c52 (map_atZ (k := i0) (by omega) (by omega))) ?_
     first | refine d_pure [(34, _)] rfl rfl ⟨⟨rfl, rfl⟩, trivial⟩ rfl (p_fld_adr rfl Try.fd52_1 Try.c3 rfl) ?_ | refine d_pure [(34, _)] rfl rfl ⟨⟨rfl, rfl⟩, trivial⟩ rfl (p_fld_ref rfl Try.fd52_1 Try.c3 rfl) ?_
     first | refine d_pure [(35, _)] rfl rfl ⟨⟨rfl, rfl⟩, trivial⟩ rfl (p_load1 rfl Try.g3 rfl) ?_ | refine d_pure [(35, _)] rfl rfl ⟨⟨rfl, rfl⟩, trivial⟩ rfl (p_load1r rfl Try.g3 rfl rfl) ?_ | refine d_pure [(35, _)] rfl rfl ⟨⟨rfl, rfl⟩, trivial⟩ rfl (p_load1r rfl Try.g3 rfl (strs_ref (by simp only [List.length_cons] at *; omega))) ?_ | refine d_pure [(35, _)] rfl rfl ⟨⟨rfl, rfl⟩, trivial⟩ rfl (p_load1r rfl Try.g3 rfl (strs_ref (by omega))) ?_
     refine d_pure [(31, _), (36, _)] rfl rfl ⟨⟨rfl, rfl⟩, ⟨rfl, rfl⟩, trivial⟩ rfl (p_bin rfl rfl rfl) ?_
     refine d_pure [(26, _), (37, _)] rfl rfl ⟨⟨rfl, rfl⟩, ⟨rfl, rfl⟩, trivial⟩ rfl (p_pick_f rfl rfl) ?_
     refine d_pure [(23, _), (38, _)] rfl rfl ⟨⟨rfl, rfl⟩, ⟨rfl, rfl⟩, trivial⟩ rfl (p_pick_t rfl rfl) ?_
     refine lex_end (sl' := [(0, _), (4, _), (5, _), (39, _)]) rfl ⟨rfl, rfl, rfl, rfl, trivial⟩ rfl ?_
     refine hK8 _ ?_
     refine aw_cond_s rfl (fun hc4 => ?_) (fun hc4 => ?_)
     ·
      try simp only [bs] at hc4
      refine aw_region ?_
      refine x_pure rfl (p_move rfl) ?_
      refine x_pure rfl (p_assign rfl) ?_
      first | refine aops_end ?_ | refine aops_nil ?_
      refine hK7 _ ?_
      refine aw_region ?_
      refine x_pure rfl (p_move rfl) ?_
      first | refine x_pure rfl (p_add rfl rfl (by omega) (by omega)) ?_ | refine x_pure rfl (p_bin rfl rfl rfl) ?_
      refine x_pure rfl (p_assign rfl) ?_
      first | refine aops_end ?_ | refine aops_nil ?_
      first
      | exact ⟨(k + 1, (k : Int)), ⟨by omega, .inr ⟨k, by omega, by omega, rfl, by rw [take_foldl l lastStep _ k (by omega)]; first | (rw [h2n, lastStep, if_pos ⟨by omega, .inl rfl⟩]) | (rw [h2e, lastStep, if_pos ⟨by omega, .inr (by simp only; omega)⟩])⟩⟩, by simp only; omega, le_of ⟨rfl, rfl, rfl, trivial⟩⟩
      | exact ⟨(k + 1, b), ⟨by omega, by rw [take_foldl l lastStep _ k (by omega)]; exact .inr ⟨i0, hi0, by omega, h2b, by rw [h2e, lastStep, if_neg (by simp only; rintro ⟨e1, e2⟩; simp only [Bool.true_eq_false, false_or] at e2; omega)]⟩⟩, by simp only; omega, le_of ⟨rfl, rfl, rfl, trivial⟩⟩
      | exact ⟨(k + 1, b), ⟨by omega, by rw [take_foldl l lastStep _ k (by omega)]; rcases h2 with ⟨e, h2⟩ | ⟨i, hi, hik, e, h2⟩; exact .inl ⟨e, by rw [h2, lastStep, if_neg (by simp only; rintro ⟨e1, _⟩; omega)]⟩; exact .inr ⟨i, hi, by omega, e, by rw [h2, lastStep, if_neg (by simp only; rintro ⟨e1, _⟩; omega)]⟩⟩, by simp only; omega, le_of ⟨rfl, rfl, rfl, trivial⟩⟩
     ·
      try simp only [bs] at hc4
      refine aw_skip ?_
      refine hK7 _ ?_
      refine aw_region ?_
      refine x_pure rfl (p_move rfl) ?_
      first | refine x_pure rfl (p_add rfl rfl (by omega) (by omega)) ?_ | refine x_pure rfl (p_bin rfl rfl rfl) ?_
      refine x_pure rfl (p_assign rfl) ?_
      first | refine aops_end ?_ | refine aops_nil ?_
      first
      | exact ⟨(k + 1, (k : Int)), ⟨by omega, .inr ⟨k, by omega, by omega, rfl, by rw [take_foldl l lastStep _ k (by omega)]; first | (rw [h2n, lastStep, if_pos ⟨by omega, .inl rfl⟩]) | (rw [h2e, lastStep, if_pos ⟨by omega, .inr (by simp only; omega)⟩])⟩⟩, by simp only; omega, le_of ⟨rfl, rfl, rfl, trivial⟩⟩
      | exact ⟨(k + 1, b), ⟨by omega, by rw [take_foldl l lastStep _ k (by omega)]; exact .inr ⟨i0, hi0, by omega, h2b, by rw [h2e, lastStep, if_neg (by simp only; rintro ⟨e1, e2⟩; simp only [Bool.true_eq_false, false_or] at e2; omega)]⟩⟩, by simp only; omega, le_of ⟨rfl, rfl, rfl, trivial⟩⟩
      | exact ⟨(k + 1, b), ⟨by omega, by rw [take_foldl l lastStep _ k (by omega)]; rcases h2 with ⟨e, h2⟩ | ⟨i, hi, hik, e, h2⟩; exact .inl ⟨e, by rw [h2, lastStep, if_neg (by simp only; rintro ⟨e1, _⟩; omega)]⟩; exact .inr ⟨i, hi, by omega, e, by rw [h2, lastStep, if_neg (by simp only; rintro ⟨e1, _⟩; omega)]⟩⟩, by simp only; omega, le_of ⟨rfl, rfl, rfl, trivial⟩⟩
    ·
     try simp only [bs] at hg3
     have h2n : (l.take k).foldl lastStep (0, false) = (0, false) := by
      rcases h2 with ⟨_, h2⟩ | ⟨i, hi, hik, e, h2⟩
      · exact h2
      · exfalso; omega
     refine d_skip rfl rfl ?_
     refine d_skip rfl rfl ?_
     refine d_skip rfl rfl ?_
     refine d_skip rfl rfl ?_
     refine d_skip rfl rfl ?_
     refine d_skip rfl rfl ?_
     refine d_skip rfl rfl ?_
     refine d_skip rfl rfl ?_
     refine d_skip rfl rfl ?_
     refine d_skip rfl rfl ?_
     refine d_skip rfl rfl ?_
     refine d_pure [(26, _), (37, _)] rfl rfl ⟨⟨rfl, rfl⟩, ⟨rfl, rfl⟩, trivial⟩ rfl (p_pick_t rfl rfl) ?_
     refine d_pure [(23, _), (38, _)] rfl rfl ⟨⟨rfl, rfl⟩, ⟨rfl, rfl⟩, trivial⟩ rfl (p_pick_t rfl rfl) ?_
     refine lex_end (sl' := [(0, _), (4, _), (5, _), (39, _)]) rfl ⟨rfl, rfl, rfl, rfl, trivial⟩ rfl ?_
     refine hK8 _ ?_
     refine aw_cond_t rfl ?_
     refine aw_region ?_
     refine x_pure rfl (p_move rfl) ?_
     refine x_pure rfl (p_assign rfl) ?_
     first | refine aops_end ?_ | refine aops_nil ?_
     refine hK7 _ ?_
     refine aw_region ?_
     refine x_pure rfl (p_move rfl) ?_
     first | refine x_pure rfl (p_add rfl rfl (by omega) (by omega)) ?_ | refine x_pure rfl (p_bin rfl rfl rfl) ?_
     refine x_pure rfl (p_assign rfl) ?_
     first | refine aops_end ?_ | refine aops_nil ?_
     first
     | exact ⟨(k + 1, (k : Int)), ⟨by omega, .inr ⟨k, by omega, by omega, rfl, by rw [take_foldl l lastStep _ k (by omega)]; first | (rw [h2n, lastStep, if_pos ⟨by omega, .inl rfl⟩]) | (rw [h2e, lastStep, if_pos ⟨by omega, .inr (by simp only; omega)⟩])⟩⟩, by simp only; omega, le_of ⟨rfl, rfl, rfl, trivial⟩⟩
     | exact ⟨(k + 1, b), ⟨by omega, by rw [take_foldl l lastStep _ k (by omega)]; exact .inr ⟨i0, hi0, by omega, h2b, by rw [h2e, lastStep, if_neg (by simp only; rintro ⟨e1, e2⟩; simp only [Bool.true_eq_false, false_or] at e2; omega)]⟩⟩, by simp only; omega, le_of ⟨rfl, rfl, rfl, trivial⟩⟩
     | exact ⟨(k + 1, b), ⟨by omega, by rw [take_foldl l lastStep _ k (by omega)]; rcases h2 with ⟨e, h2⟩ | ⟨i, hi, hik, e, h2⟩; exact .inl ⟨e, by rw [h2, lastStep, if_neg (by simp only; rintro ⟨e1, _⟩; omega)]⟩; exact .inr ⟨i, hi, by omega, e, by rw [h2, lastStep, if_neg (by simp only; rintro ⟨e1, _⟩; omega)]⟩⟩, by simp only; omega, le_of ⟨rfl, rfl, rfl, trivial⟩⟩
   ·
    try simp only [bs] at hg2
    refine d_skip rfl rfl ?_
    refine d_skip rfl rfl ?_
    refine d_skip rfl rfl ?_
    refine d_skip rfl rfl ?_
    refine d_skip rfl rfl ?_
    refine d_skip rfl rfl ?_
    refine d_skip rfl rfl ?_
    refine d_skip rfl rfl ?_
    refine d_skip rfl rfl ?_
    refine d_skip rfl rfl ?_
    refine d_skip rfl rfl ?_
    refine d_skip rfl rfl ?_
    refine d_skip rfl rfl ?_
    refine d_skip rfl rfl ?_
    refine d_skip rfl rfl ?_
    refine d_pure [(23, _), (38, _)] rfl rfl ⟨⟨rfl, rfl⟩, ⟨rfl, rfl⟩, trivial⟩ rfl (p_pick_f rfl rfl) ?_
    refine lex_end (sl' := [(0, _), (4, _), (5, _), (39, _)]) rfl ⟨rfl, rfl, rfl, rfl, trivial⟩ rfl ?_
    refine hK8 _ ?_
    refine aw_cond_f rfl ?_
    refine aw_skip ?_
    refine hK7 _ ?_
    refine aw_region ?_
    refine x_pure rfl (p_move rfl) ?_
    first | refine x_pure rfl (p_add rfl rfl (by omega) (by omega)) ?_ | refine x_pure rfl (p_bin rfl rfl rfl) ?_
    refine x_pure rfl (p_assign rfl) ?_
    first | refine aops_end ?_ | refine aops_nil ?_
    first
    | exact ⟨(k + 1, (k : Int)), ⟨by omega, .inr ⟨k, by omega, by omega, rfl, by rw [take_foldl l lastStep _ k (by omega)]; first | (rw [h2n, lastStep, if_pos ⟨by omega, .inl rfl⟩]) | (rw [h2e, lastStep, if_pos ⟨by omega, .inr (by simp only; omega)⟩])⟩⟩, by simp only; omega, le_of ⟨rfl, rfl, rfl, trivial⟩⟩
    | exact ⟨(k + 1, b), ⟨by omega, by rw [take_foldl l lastStep _ k (by omega)]; exact .inr ⟨i0, hi0, by omega, h2b, by rw [h2e, lastStep, if_neg (by simp only; rintro ⟨e1, e2⟩; simp only [Bool.true_eq_false, false_or] at e2; omega)]⟩⟩, by simp only; omega, le_of ⟨rfl, rfl, rfl, trivial⟩⟩
    | exact ⟨(k + 1, b), ⟨by omega, by rw [take_foldl l lastStep _ k (by omega)]; rcases h2 with ⟨e, h2⟩ | ⟨i, hi, hik, e, h2⟩; exact .inl ⟨e, by rw [h2, lastStep, if_neg (by simp only; rintro ⟨e1, _⟩; omega)]⟩; exact .inr ⟨i, hi, by omega, e, by rw [h2, lastStep, if_neg (by simp only; rintro ⟨e1, _⟩; omega)]⟩⟩, by simp only; omega, le_of ⟨rfl, rfl, rfl, trivial⟩⟩
  ·
   try simp only [bs] at hc1
   refine aw_exit ?_
   refine hK3 _ ?_
   refine aw_seq_k (fun K9 hK9 => ?_)
   refine aw_seq_k (fun K10 hK10 => ?_)
   refine aw_region ?_
   refine x_pure rfl (p_move rfl) ?_
   refine x_pure rfl (p_bin rfl rfl rfl) ?_
   first | refine aops_end ?_ | refine aops_nil ?_
   refine hK10 _ ?_
   refine aw_cond_s rfl (fun hc7 => ?_) (fun hc7 => ?_)
   ·
    try simp only [bs] at hc7
    have h2n : (l.take k).foldl lastStep (0, false) = (0, false) := by
     rcases h2 with ⟨_, h2⟩ | ⟨i, hi, hik, e, h2⟩
     · exact h2
     · exfalso; omega
    refine aw_seq_k (fun K11 hK11 => ?_)
    refine aw_region ?_
    refine x_pure rfl (p_assign rfl) ?_
    refine x_pure rfl (p_assign rfl) ?_
    first | refine aops_end ?_ | refine aops_nil ?_
    refine hK11 _ ?_
    refine aw_ret ?_
    refine ⟨_, rfl, ?_⟩
    rw [lastS, ← take_all_foldl l lastStep (0, false) k (by omega), h2n]; rfl
   ·
    try simp only [bs] at hc7
    obtain ⟨i0, hi0, hik0, h2b, h2e⟩ : ∃ i : Nat, ∃ hi : i < l.length, i < k ∧ b = (i : Int) ∧ (l.take k).foldl lastStep (0, false) = (l[i].1.2, true) := by
     rcases h2 with ⟨e, h2⟩ | h2
     · exfalso; omega
     · exact h2
    refine aw_skip ?_
    refine hK9 _ ?_
    refine aw_seq_k (fun K12 hK12 => ?_)
    refine aw_region ?_
    refine x_pure rfl (p_move rfl) ?_
    refine x_pure rfl (p_move rfl) ?_
    refine x_pure rfl (p_idx_sl rfl rfl Try.e54 Try.c52 (map_atZ (k := i0) (by omega) (by omega))) ?_
    first | refine x_pure rfl (p_fld_adr rfl Try.fd52_1 Try.c3 rfl) ?_ | refine x_pure rfl (p_fld_ref rfl Try.fd52_1 Try.c3 rfl) ?_
    first | refine x_pure rfl (p_load1 rfl Try.g3 rfl) ?_ | refine x_pure rfl (p_load1r rfl Try.g3 rfl rfl) ?_ | refine x_pure rfl (p_load1r rfl Try.g3 rfl (strs_ref (by simp only [List.length_cons] at *; omega))) ?_ | refine x_pure rfl (p_load1r rfl Try.g3 rfl (strs_ref (by omega))) ?_
    refine x_pure rfl (p_assign rfl) ?_
    refine x_pure rfl (p_assign rfl) ?_
    first | refine aops_end ?_ | refine aops_nil ?_
    refine hK12 _ ?_
    refine aw_ret ?_
    refine ⟨_, rfl, ?_⟩
    rw [lastS, ← take_all_foldl l lastStep (0, false) k (by omega), h2e]; rfl
end Go.Proofs.Ytkjniggdldpnoaa
