import Derived.Test.YtcjchfocohagdaaHW1
set_option linter.unusedVariables false
set_option linter.unusedSimpArgs false
namespace Go.Proofs.Ytcjchfocohagdaa
open Go Go.Abs

set_option maxRecDepth 20000 in
set_option maxHeartbeats 400000 in
theorem oldsS_den (l : List Stay) (hl : l.length * 32 ≤ 140737488351232)  : Den Try.prog 26 [.sl 4 (l.map stC)]  (· = .sl 4 (l.map stC)) := by
 refine den_of_aw Try.func26 rfl (Nat.le_of_ble_eq_true rfl) (fun w0 A hf => ?_)
 refine aw_seq_k (fun K1 hK1 => ?_)
 refine aw_region ?_
 refine x_pure rfl (p_assign_bad) ?_
 first | refine aops_end ?_ | refine aops_nil ?_
 refine hK1 _ ?_
 refine aw_seq_k (fun K2 hK2 => ?_)
 refine aw_region ?_
 refine x_nil hf 4 rfl rfl rfl ?_
 first | refine aops_end ?_ | refine aops_nil ?_
 refine hK2 _ ?_
 refine aw_seq_k (fun K3 hK3 => ?_)
 refine aw_seq_k (fun K4 hK4 => ?_)
 refine aw_region ?_
 refine x_pure rfl (p_move rfl) ?_
 first | refine x_pure rfl (p_len_sl rfl Try.e63) ?_ | refine x_pure rfl (p_len_own rfl Try.e63) ?_ | refine x_pure rfl (p_len_nil rfl Try.e63) ?_
 refine x_pure rfl (p_move rfl) ?_
 first | refine aops_end ?_ | refine aops_nil ?_
 refine hK4 _ ?_
 refine aw_block ?_
 refine aw_loop (ι := Nat) (fun k => ⟨19, [(3, .own 3 4 0 (l.take k).length), (6, .sl 4 (l.map stC)), (7, .s (.int .i64 ((l.map stC).length : Nat))), (8, .s (.int .i64 (k : Nat)))], [(3, .buf 4 ((l.take k).map stC))]⟩) (fun k => k ≤ l.length) (fun k => l.length - k) 0 ?_ ?_ ?_
 · exact Nat.zero_le _
 · exact le_of ⟨rfl, rfl, rfl, rfl, trivial⟩
 ·
  rintro k hC
  refine aw_seq_k (fun K5 hK5 => ?_)
  refine aw_region ?_
  refine x_pure rfl (p_bin rfl rfl rfl) ?_
  first | refine aops_end ?_ | refine aops_nil ?_
  refine hK5 _ ?_
  refine aw_seq_k (fun K6 hK6 => ?_)
  refine aw_cond_s rfl (fun hc1 => ?_) (fun hc1 => ?_)
  ·
   try simp only [bs] at hc1
   refine aw_skip ?_
   refine hK6 _ ?_
   refine aw_seq_k (fun K7 hK7 => ?_)
   refine aw_block ?_
   refine aw_seq_k (fun K8 hK8 => ?_)
   refine aw_region ?_
   first | refine x_pure rfl (p_idx_sl rfl rfl Try.e63 Try.c44 (by first | assumption | (refine ⟨by omega, ?_⟩; first | assumption | exact strs_at (by omega) | exact strs_at (by simp only [List.length_cons] at *; omega) | exact ints_at (by omega) | exact map_at (by omega) | exact list_at (by omega)) | exact ⟨by decide, rfl⟩)) ?_ | refine x_pure rfl (p_idx_own rfl rfl Try.e63 Try.c44 (by omega)) ?_
   first | refine x_pure rfl (p_loads rfl Try.g44 Try.c44 rfl rfl) ?_ | refine x_pure rfl (p_loadsr rfl Try.g44 Try.c44 rfl rfl rfl) ?_
   refine x_allocst hf rfl Try.z44 rfl Try.c44 rfl rfl rfl rfl (by simp [stC, AV.cells, AV.leaf, Value.oneCell', splice, AV.kill, AV.clean, cleanL, AV.only]) ?_
   first | refine aops_end ?_ | refine aops_nil ?_
   refine hK8 _ ?_
   refine aw_region ?_
   have htl : (l.take k).length = k := by rw [List.length_take]; omega
   refine x_pure rfl (p_move rfl) ?_
   first | refine x_pure rfl (p_loads rfl Try.g44 Try.c44 rfl rfl) ?_ | refine x_pure rfl (p_loadsr rfl Try.g44 Try.c44 rfl rfl rfl) ?_
   refine x_step hf rfl (r_call rfl rfl Try.ent22 rfl (oldS_den l[k])) ?_
   refine x_step hf rfl (r_buildSlice Try.ap61 rfl rfl rfl rfl (by simp [stC, AV.cells, AV.leaf, Value.oneCell', splice, AV.kill, AV.clean, cleanL, AV.only])) ?_
   refine x_append hf rfl Try.ap61 rfl rfl rfl (.inl rfl) (by rw [List.length_map]) rfl (by first | rfl | simp [asrc, look]) (by first | (simp only [maxLen, List.length_map, List.length_append, List.length_cons, List.length_nil]; omega) | (simp [maxLen] <;> omega)) (by first | (simp only [List.length_map, List.length_append, List.length_cons, List.length_nil]; omega) | (simp <;> omega)) ?_
   refine aops_le (le_of (sl' := [(6, _), (7, _), (8, _), (16, _)]) ⟨rfl, rfl, rfl, rfl, trivial⟩) ?_
   refine x_pure rfl (p_assign rfl) ?_
   first | refine aops_end ?_ | refine aops_nil ?_
   refine hK7 _ ?_
   refine aw_region ?_
   first | refine x_pure rfl (p_add rfl rfl (by omega) (by omega)) ?_ | refine x_pure rfl (p_bin rfl rfl rfl) ?_
   refine x_pure rfl (p_move rfl) ?_
   first | refine aops_end ?_ | refine aops_nil ?_
   exact ⟨k + 1, by omega, by omega, le_to ⟨(by rw [take_len1 l k (by omega)]; rfl), rfl, rfl, rfl, trivial⟩ (by rw [take_map l stC k (by omega)]; rfl)⟩
  ·
   try simp only [bs] at hc1
   refine aw_exit ?_
   refine hK3 _ ?_
   refine aw_seq_k (fun K9 hK9 => ?_)
   refine aw_region ?_
   refine x_pure rfl (p_move rfl) ?_
   refine x_pure rfl (p_assign rfl) ?_
   first | refine aops_end ?_ | refine aops_nil ?_
   refine hK9 _ ?_
   refine aw_ret ?_
   refine ⟨_, rfl, ?_⟩
   refine (conv_whole (g := 3) rfl (by rw [List.length_map])).trans ?_
   rw [List.take_of_length_le (by omega)]

set_option maxRecDepth 20000 in
set_option maxHeartbeats 400000 in
theorem refSame8_den (a b : List Stay) (ha : a.length ≤ 9223372036854775807) (hb : b.length ≤ 9223372036854775807)  : Den Try.prog 25 [.sl 4 (a.map stC), .sl 4 (b.map stC)]  (· = .s (.bool (decide (a = b)))) := by
 refine den_of_aw Try.func25 rfl (Nat.le_of_ble_eq_true rfl) (fun w0 A hf => ?_)
 refine aw_seq_k (fun K1 hK1 => ?_)
 refine aw_region ?_
 refine x_pure rfl (p_assign_bad) ?_
 first | refine aops_end ?_ | refine aops_nil ?_
 refine hK1 _ ?_
 refine aw_seq_k (fun K2 hK2 => ?_)
 refine aw_seq_k (fun K3 hK3 => ?_)
 refine aw_region ?_
 refine x_pure rfl (p_move rfl) ?_
 first | refine x_pure rfl (p_len_sl rfl Try.e61) ?_ | refine x_pure rfl (p_len_own rfl Try.e61) ?_ | refine x_pure rfl (p_len_nil rfl Try.e61) ?_
 refine x_pure rfl (p_move rfl) ?_
 first | refine x_pure rfl (p_len_sl rfl Try.e61) ?_ | refine x_pure rfl (p_len_own rfl Try.e61) ?_ | refine x_pure rfl (p_len_nil rfl Try.e61) ?_
 refine x_pure rfl (p_bin rfl rfl rfl) ?_
 first | refine aops_end ?_ | refine aops_nil ?_
 refine hK3 _ ?_
 refine aw_cond_s rfl (fun hc1 => ?_) (fun hc1 => ?_)
 ·
  try simp only [bs] at hc1
  refine aw_seq_k (fun K4 hK4 => ?_)
  refine aw_region ?_
  refine x_pure rfl (p_assign rfl) ?_
  first | refine aops_end ?_ | refine aops_nil ?_
  refine hK4 _ ?_
  refine aw_ret ?_
  refine ⟨_, rfl, ?_⟩
  refine ret_bool ?_
  rw [eqrow_len (by omega)]
 ·
  try simp only [bs] at hc1
  refine aw_skip ?_
  refine hK2 _ ?_
  refine aw_seq_k (fun K5 hK5 => ?_)
  refine aw_seq_k (fun K6 hK6 => ?_)
  refine aw_region ?_
  refine x_pure rfl (p_assign rfl) ?_
  first | refine aops_end ?_ | refine aops_nil ?_
  refine hK6 _ ?_
  refine aw_block ?_
  refine aw_loop (ι := Nat) (fun k => ⟨26, [(0, .sl 4 (a.map stC)), (1, .sl 4 (b.map stC)), (5, .s (.int .i64 (k : Nat)))], []⟩) (fun k => k ≤ a.length ∧ a.take k = b.take k) (fun k => a.length - k) 0 ?_ ?_ ?_
  · exact ⟨Nat.zero_le _, rfl⟩
  · exact le_of ⟨rfl, rfl, rfl, trivial⟩
  ·
   rintro k hC
   obtain ⟨h1, h2⟩ := hC
   refine aw_seq_k (fun K7 hK7 => ?_)
   refine aw_seq_k (fun K8 hK8 => ?_)
   refine aw_region ?_
   refine x_pure rfl (p_move rfl) ?_
   refine x_pure rfl (p_move rfl) ?_
   first | refine x_pure rfl (p_len_sl rfl Try.e61) ?_ | refine x_pure rfl (p_len_own rfl Try.e61) ?_ | refine x_pure rfl (p_len_nil rfl Try.e61) ?_
   refine x_pure rfl (p_bin rfl rfl rfl) ?_
   first | refine aops_end ?_ | refine aops_nil ?_
   refine hK8 _ ?_
   refine aw_cond_s rfl (fun hc2 => ?_) (fun hc2 => ?_)
   ·
    try simp only [bs] at hc2
    refine aw_skip ?_
    refine hK7 _ ?_
    refine aw_seq_k (fun K9 hK9 => ?_)
    refine aw_block ?_
    refine aw_seq_k (fun K10 hK10 => ?_)
    refine aw_draw hf Try.mixed (by kernel_rfl) rfl ?_
    refine d_pure [(0, _)] rfl rfl ⟨⟨rfl, rfl⟩, trivial⟩ rfl (p_move rfl) ?_
    refine d_pure [(5, _)] rfl rfl ⟨⟨rfl, rfl⟩, trivial⟩ rfl (p_move rfl) ?_
    first | refine d_pure [(17, _), (18, _)] rfl rfl ⟨⟨rfl, rfl⟩, ⟨rfl, rfl⟩, trivial⟩ rfl (p_idx_sl rfl rfl Try.e61 Try.c48 (by first | assumption | (refine ⟨by omega, ?_⟩; first | assumption | exact strs_at (by omega) | exact strs_at (by simp only [List.length_cons] at *; omega) | exact ints_at (by omega) | exact map_at (by omega) | exact list_at (by omega)) | exact ⟨by decide, rfl⟩)) ?_ | refine d_pure [(17, _), (18, _)] rfl rfl ⟨⟨rfl, rfl⟩, ⟨rfl, rfl⟩, trivial⟩ rfl (p_idx_own rfl rfl Try.e61 Try.c48 (by omega)) ?_
    first | refine d_pure [(19, _)] rfl rfl ⟨⟨rfl, rfl⟩, trivial⟩ rfl (p_loads rfl Try.g48 Try.c48 rfl rfl) ?_ | refine d_pure [(19, _)] rfl rfl ⟨⟨rfl, rfl⟩, trivial⟩ rfl (p_loadsr rfl Try.g48 Try.c48 rfl rfl rfl) ?_
    refine d_pure [(1, _)] rfl rfl ⟨⟨rfl, rfl⟩, trivial⟩ rfl (p_move rfl) ?_
    refine d_pure [(5, _)] rfl rfl ⟨⟨rfl, rfl⟩, trivial⟩ rfl (p_move rfl) ?_
    first | refine d_pure [(21, _), (22, _)] rfl rfl ⟨⟨rfl, rfl⟩, ⟨rfl, rfl⟩, trivial⟩ rfl (p_idx_sl rfl rfl Try.e61 Try.c48 (by first | assumption | (refine ⟨by omega, ?_⟩; first | assumption | exact strs_at (by omega) | exact strs_at (by simp only [List.length_cons] at *; omega) | exact ints_at (by omega) | exact map_at (by omega) | exact list_at (by omega)) | exact ⟨by decide, rfl⟩)) ?_ | refine d_pure [(21, _), (22, _)] rfl rfl ⟨⟨rfl, rfl⟩, ⟨rfl, rfl⟩, trivial⟩ rfl (p_idx_own rfl rfl Try.e61 Try.c48 (by omega)) ?_
    first | refine d_pure [(23, _)] rfl rfl ⟨⟨rfl, rfl⟩, trivial⟩ rfl (p_loads rfl Try.g48 Try.c48 rfl rfl) ?_ | refine d_pure [(23, _)] rfl rfl ⟨⟨rfl, rfl⟩, trivial⟩ rfl (p_loadsr rfl Try.g48 Try.c48 rfl rfl rfl) ?_
    refine d_pure [(20, _), (24, _)] rfl rfl ⟨⟨rfl, rfl⟩, ⟨rfl, rfl⟩, trivial⟩ rfl (p_neagg rfl rfl Try.q48 rfl) ?_
    rw [stC_eqF]
    refine lex_end (sl' := [(0, _), (1, _), (5, _), (25, _)]) rfl ⟨rfl, rfl, rfl, rfl, trivial⟩ rfl ?_
    refine hK10 _ ?_
    refine aw_cond_s rfl (fun hc3 => ?_) (fun hc3 => ?_)
    ·
     try simp only [bs] at hc3
     refine aw_seq_k (fun K11 hK11 => ?_)
     refine aw_region ?_
     refine x_pure rfl (p_assign rfl) ?_
     first | refine aops_end ?_ | refine aops_nil ?_
     refine hK11 _ ?_
     refine aw_ret ?_
     refine ⟨_, rfl, ?_⟩
     refine ret_bool ?_
     rw [eqrow_diff (by omega) (by omega) (by assumption)]
    ·
     try simp only [bs] at hc3
     refine aw_skip ?_
     refine hK9 _ ?_
     refine aw_region ?_
     refine x_pure rfl (p_move rfl) ?_
     first | refine x_pure rfl (p_add rfl rfl (by omega) (by omega)) ?_ | refine x_pure rfl (p_bin rfl rfl rfl) ?_
     refine x_pure rfl (p_assign rfl) ?_
     first | refine aops_end ?_ | refine aops_nil ?_
     exact ⟨k+1, ⟨by omega, eqrow_next (by omega) (by omega) h2 (by assumption)⟩, by omega, le_of ⟨rfl, rfl, rfl, trivial⟩⟩
   ·
    try simp only [bs] at hc2
    refine aw_exit ?_
    refine hK5 _ ?_
    refine aw_seq_k (fun K12 hK12 => ?_)
    refine aw_region ?_
    refine x_pure rfl (p_assign rfl) ?_
    first | refine aops_end ?_ | refine aops_nil ?_
    refine hK12 _ ?_
    refine aw_ret ?_
    refine ⟨_, rfl, ?_⟩
    refine ret_bool ?_
    rw [eqrow_end (by omega) (by omega) h2]
end Go.Proofs.Ytcjchfocohagdaa
