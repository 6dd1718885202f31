import Derived.Test.YtkjniggdldpnoaaW4
import Derived.Test.YtkjniggdldpnoaaQ5
set_option linter.unusedVariables false
set_option linter.unusedSimpArgs false
namespace Go.Proofs.Ytkjniggdldpnoaa
open Go Go.Abs

set_option maxRecDepth 20000 in
set_option maxHeartbeats 400000 in
theorem refHas_den (l : List Sp) (t : Int) (hl : l.length ≤ 9223372036854775807)  : Den Try.prog 65 [.sl 2 (l.map spC), .s (.int .i64 t)]  (· = .s (.bool (hasB l t))) := by
 refine den_of_aw Try.func65 rfl (Nat.le_of_ble_eq_true rfl) (fun w0 A hf => ?_)
 refine aw_seq_k (fun K1 hK1 => ?_)
 refine aw_region ?_
 refine x_pure rfl (p_assign_bad) ?_
 first | refine aops_end ?_ | refine aops_nil ?_
 refine hK1 _ ?_
 refine aw_seq_k (fun K2 hK2 => ?_)
 refine aw_seq_k (fun K3 hK3 => ?_)
 refine aw_region ?_
 refine x_pure rfl (p_assign rfl) ?_
 first | refine aops_end ?_ | refine aops_nil ?_
 refine hK3 _ ?_
 refine aw_block ?_
 refine aw_loop (ι := Nat) (fun k => ⟨28, [(0, .sl 2 (l.map spC)), (1, .s (.int .i64 t)), (5, .s (.int .i64 (k : Nat)))], []⟩) (fun k => k ≤ l.length ∧ hasB l t = hasB (l.drop k) t) (fun k => l.length - k) 0 ?_ ?_ ?_
 · exact ⟨Nat.zero_le _, rfl⟩
 · exact le_of ⟨rfl, rfl, rfl, trivial⟩
 ·
  rintro k hC
  obtain ⟨h1, h2⟩ := hC
  refine aw_seq_k (fun K4 hK4 => ?_)
  refine aw_seq_k (fun K5 hK5 => ?_)
  refine aw_region ?_
  refine x_pure rfl (p_move rfl) ?_
  refine x_pure rfl (p_move rfl) ?_
  first | refine x_pure rfl (p_len_sl rfl Try.e31) ?_ | refine x_pure rfl (p_len_own rfl Try.e31) ?_ | refine x_pure rfl (p_len_nil rfl Try.e31) ?_
  refine x_pure rfl (p_bin rfl rfl rfl) ?_
  first | refine aops_end ?_ | refine aops_nil ?_
  refine hK5 _ ?_
  refine aw_cond_s rfl (fun hc1 => ?_) (fun hc1 => ?_)
  ·
   try simp only [bs] at hc1
   refine aw_skip ?_
   refine hK4 _ ?_
   refine aw_seq_k (fun K6 hK6 => ?_)
   refine aw_block ?_
   refine aw_seq_k (fun K7 hK7 => ?_)
   refine aw_region ?_
   refine x_pure rfl (p_move rfl) ?_
   refine x_pure rfl (p_move rfl) ?_
   first | refine x_pure rfl (p_idx_sl rfl rfl Try.e31 Try.c42 (by first | assumption | (refine ⟨by omega, ?_⟩; first | assumption | exact strs_at (by omega) | exact strs_at (by simp only [List.length_cons] at *; omega) | exact ints_at (by omega) | exact map_at (by omega) | exact list_at (by omega)) | exact ⟨by decide, rfl⟩)) ?_ | refine x_pure rfl (p_idx_own rfl rfl Try.e31 Try.c42 (by omega)) ?_
   first | refine x_pure rfl (p_fld_adr rfl Try.fd42_0 Try.c3 rfl) ?_ | refine x_pure rfl (p_fld_ref rfl Try.fd42_0 Try.c3 rfl) ?_
   first | refine x_pure rfl (p_load1 rfl Try.g3 rfl) ?_ | refine x_pure rfl (p_load1r rfl Try.g3 rfl rfl) ?_ | refine x_pure rfl (p_load1r rfl Try.g3 rfl (strs_ref (by simp only [List.length_cons] at *; omega))) ?_ | refine x_pure rfl (p_load1r rfl Try.g3 rfl (strs_ref (by omega))) ?_
   refine x_pure rfl (p_move rfl) ?_
   refine x_pure rfl (p_bin rfl rfl rfl) ?_
   refine x_pure rfl (p_move rfl) ?_
   refine y_guard_s rfl rfl rfl (fun hg2 => ?_) (fun hg2 => ?_)
   ·
    try simp only [bs] at hg2
    refine x_pure rfl (p_move rfl) ?_
    refine x_guard_t rfl rfl rfl ?_
    refine x_pure rfl (p_move rfl) ?_
    refine x_guard_t rfl rfl rfl ?_
    refine x_pure rfl (p_move rfl) ?_
    refine x_guard_t rfl rfl rfl ?_
    first | refine x_pure rfl (p_idx_sl rfl rfl Try.e31 Try.c42 (by first | assumption | (refine ⟨by omega, ?_⟩; first | assumption | exact strs_at (by omega) | exact strs_at (by simp only [List.length_cons] at *; omega) | exact ints_at (by omega) | exact map_at (by omega) | exact list_at (by omega)) | exact ⟨by decide, rfl⟩)) ?_ | refine x_pure rfl (p_idx_own rfl rfl Try.e31 Try.c42 (by omega)) ?_
    refine x_guard_t rfl rfl rfl ?_
    first | refine x_pure rfl (p_fld_adr rfl Try.fd42_1 Try.c3 rfl) ?_ | refine x_pure rfl (p_fld_ref rfl Try.fd42_1 Try.c3 rfl) ?_
    refine x_guard_t rfl rfl rfl ?_
    first | refine x_pure rfl (p_load1 rfl Try.g3 rfl) ?_ | refine x_pure rfl (p_load1r rfl Try.g3 rfl rfl) ?_ | refine x_pure rfl (p_load1r rfl Try.g3 rfl (strs_ref (by simp only [List.length_cons] at *; omega))) ?_ | refine x_pure rfl (p_load1r rfl Try.g3 rfl (strs_ref (by omega))) ?_
    refine x_guard_t rfl rfl rfl ?_
    refine x_pure rfl (p_bin rfl rfl rfl) ?_
    refine x_pure rfl (p_pick_t rfl rfl) ?_
    first | refine aops_end ?_ | refine aops_nil ?_
    refine hK7 _ ?_
    refine aw_cond_s rfl (fun hc3 => ?_) (fun hc3 => ?_)
    ·
     try simp only [bs] at hc3
     refine aw_seq_k (fun K8 hK8 => ?_)
     refine aw_region ?_
     refine x_pure rfl (p_assign rfl) ?_
     first | refine aops_end ?_ | refine aops_nil ?_
     refine hK8 _ ?_
     refine aw_ret ?_
     refine ⟨_, rfl, ?_⟩
     refine ret_bool ?_
     rw [h2, List.drop_eq_getElem_cons (show k < l.length by omega), hasB_cons]
     simp; omega
    ·
     try simp only [bs] at hc3
     refine aw_skip ?_
     refine hK6 _ ?_
     refine aw_region ?_
     refine x_pure rfl (p_move rfl) ?_
     first | refine x_pure rfl (p_add rfl rfl (by omega) (by omega)) ?_ | refine x_pure rfl (p_bin rfl rfl rfl) ?_
     refine x_pure rfl (p_assign rfl) ?_
     first | refine aops_end ?_ | refine aops_nil ?_
     exact ⟨k+1, ⟨by omega, by rw [h2, List.drop_eq_getElem_cons (show k < l.length by omega), hasB_cons, Bool.or_eq_right_iff_imp]; simp; omega⟩, by omega, le_of ⟨rfl, rfl, rfl, trivial⟩⟩
   ·
    try simp only [bs] at hg2
    refine x_guard_f rfl rfl rfl ?_
    refine x_guard_f rfl rfl rfl ?_
    refine x_guard_f rfl rfl rfl ?_
    refine x_guard_f rfl rfl rfl ?_
    refine x_guard_f rfl rfl rfl ?_
    refine x_guard_f rfl rfl rfl ?_
    refine x_pure rfl (p_pick_f rfl rfl) ?_
    first | refine aops_end ?_ | refine aops_nil ?_
    refine hK7 _ ?_
    refine aw_cond_f rfl ?_
    refine aw_skip ?_
    refine hK6 _ ?_
    refine aw_region ?_
    refine x_pure rfl (p_move rfl) ?_
    first | refine x_pure rfl (p_add rfl rfl (by omega) (by omega)) ?_ | refine x_pure rfl (p_bin rfl rfl rfl) ?_
    refine x_pure rfl (p_assign rfl) ?_
    first | refine aops_end ?_ | refine aops_nil ?_
    exact ⟨k+1, ⟨by omega, by rw [h2, List.drop_eq_getElem_cons (show k < l.length by omega), hasB_cons, Bool.or_eq_right_iff_imp]; simp; omega⟩, by omega, le_of ⟨rfl, rfl, rfl, trivial⟩⟩
  ·
   try simp only [bs] at hc1
   refine aw_exit ?_
   refine hK2 _ ?_
   refine aw_seq_k (fun K9 hK9 => ?_)
   refine aw_region ?_
   refine x_pure rfl (p_assign rfl) ?_
   first | refine aops_end ?_ | refine aops_nil ?_
   refine hK9 _ ?_
   refine aw_ret ?_
   refine ⟨_, rfl, ?_⟩
   refine ret_bool ?_
   rw [h2, List.drop_eq_nil_of_le (by omega)]; rfl

set_option maxRecDepth 20000 in
set_option maxHeartbeats 1000000 in
theorem put_den (l : List Int) (n : Int) (hl : l.length ≤ 1000000000000)  : Den Try.prog 93 [.sl 1 (l.map intC), .s (.int .i64 n)]  (· = .sl 1 (putN l n |>.map intC)) := by
 refine den_of_aw Try.func93 rfl (Nat.le_of_ble_eq_true rfl) (fun w0 A hf => ?_)
 refine aw_seq_k (fun K1 hK1 => ?_)
 refine aw_region ?_
 refine x_pure rfl (p_assign_bad) ?_
 first | refine aops_end ?_ | refine aops_nil ?_
 refine hK1 _ ?_
 refine aw_seq_k (fun K2 hK2 => ?_)
 refine aw_region ?_
 refine x_nil hf 1 rfl rfl rfl ?_
 first | refine aops_end ?_ | refine aops_nil ?_
 refine hK2 _ ?_
 refine aw_seq_k (fun K3 hK3 => ?_)
 refine aw_region ?_
 refine x_pure rfl (p_assign rfl) ?_
 first | refine aops_end ?_ | refine aops_nil ?_
 refine hK3 _ ?_
 refine aw_seq_k (fun K4 hK4 => ?_)
 refine aw_seq_k (fun K5 hK5 => ?_)
 refine aw_region ?_
 refine x_pure rfl (p_assign rfl) ?_
 first | refine aops_end ?_ | refine aops_nil ?_
 refine hK5 _ ?_
 refine aw_block ?_
 refine aw_loop (ι := Nat × List Int × Bool) (fun (⟨k, out, done⟩ : Nat × List Int × Bool) => ⟨48, [(0, .sl 1 (l.map intC)), (1, .s (.int .i64 n)), (5, .own 5 1 0 out.length), (6, .s (.bool done)), (7, .s (.int .i64 (k : Nat)))], [(5, .buf 1 (out.map intC))]⟩) (fun (⟨k, out, done⟩ : Nat × List Int × Bool) => k ≤ l.length ∧ PutI l n k out done) (fun (⟨k, out, done⟩ : Nat × List Int × Bool) => l.length - k) (0, [], false) ?_ ?_ ?_
 · exact ⟨Nat.zero_le _, put_start l n⟩
 · exact le_of ⟨rfl, rfl, rfl, rfl, rfl, trivial⟩
 ·
  rintro ⟨k, out, done⟩ hC
  obtain ⟨h1, hI⟩ := hC
  have hle := put_le hI
  refine aw_seq_k (fun K6 hK6 => ?_)
  refine aw_seq_k (fun K7 hK7 => ?_)
  refine aw_region ?_
  refine x_pure rfl (p_move rfl) ?_
  refine x_pure rfl (p_move rfl) ?_
  first | refine x_pure rfl (p_len_sl rfl Try.e96) ?_ | refine x_pure rfl (p_len_own rfl Try.e96) ?_ | refine x_pure rfl (p_len_nil rfl Try.e96) ?_
  refine x_pure rfl (p_bin rfl rfl rfl) ?_
  first | refine aops_end ?_ | refine aops_nil ?_
  refine hK7 _ ?_
  refine aw_cond_s rfl (fun hc1 => ?_) (fun hc1 => ?_)
  ·
   try simp only [bs] at hc1
   refine aw_skip ?_
   refine hK6 _ ?_
   refine aw_seq_k (fun K8 hK8 => ?_)
   refine aw_block ?_
   refine aw_seq_k (fun K9 hK9 => ?_)
   refine aw_seq_k (fun K10 hK10 => ?_)
   refine aw_region ?_
   refine x_pure rfl (p_move rfl) ?_
   refine x_pure rfl (p_move rfl) ?_
   first | refine x_pure rfl (p_idx_sl rfl rfl Try.e96 Try.c3 (by first | assumption | (refine ⟨by omega, ?_⟩; first | assumption | exact strs_at (by omega) | exact strs_at (by simp only [List.length_cons] at *; omega) | exact ints_at (by omega) | exact map_at (by omega) | exact list_at (by omega)) | exact ⟨by decide, rfl⟩)) ?_ | refine x_pure rfl (p_idx_own rfl rfl Try.e96 Try.c3 (by omega)) ?_
   first | refine x_pure rfl (p_load1 rfl Try.g3 rfl) ?_ | refine x_pure rfl (p_load1r rfl Try.g3 rfl rfl) ?_ | refine x_pure rfl (p_load1r rfl Try.g3 rfl (strs_ref (by simp only [List.length_cons] at *; omega))) ?_ | refine x_pure rfl (p_load1r rfl Try.g3 rfl (strs_ref (by omega))) ?_
   refine x_pure rfl (p_move rfl) ?_
   refine x_pure rfl (p_bin rfl rfl rfl) ?_
   first | refine aops_end ?_ | refine aops_nil ?_
   refine hK10 _ ?_
   refine aw_cond_s rfl (fun hc2 => ?_) (fun hc2 => ?_)
   ·
    try simp only [bs] at hc2
    refine aw_region ?_
    refine x_pure rfl (p_assign rfl) ?_
    first | refine aops_end ?_ | refine aops_nil ?_
    refine hK9 _ ?_
    refine aw_seq_k (fun K11 hK11 => ?_)
    refine aw_seq_k (fun K12 hK12 => ?_)
    refine aw_region ?_
    refine x_pure rfl (p_move rfl) ?_
    refine x_pure rfl (p_not rfl) ?_
    refine x_pure rfl (p_move rfl) ?_
    refine x_guard_f rfl rfl rfl ?_
    refine x_guard_f rfl rfl rfl ?_
    refine x_guard_f rfl rfl rfl ?_
    refine x_guard_f rfl rfl rfl ?_
    refine x_guard_f rfl rfl rfl ?_
    refine x_guard_f rfl rfl rfl ?_
    refine x_pure rfl (p_pick_f rfl rfl) ?_
    first | refine aops_end ?_ | refine aops_nil ?_
    refine hK12 _ ?_
    refine aw_cond_f rfl ?_
    refine aw_skip ?_
    refine hK11 _ ?_
    refine aw_region ?_
    refine x_pure rfl (p_move rfl) ?_
    refine x_pure rfl (p_move rfl) ?_
    refine x_pure rfl (p_move rfl) ?_
    first | refine x_pure rfl (p_idx_sl rfl rfl Try.e96 Try.c3 (by first | assumption | (refine ⟨by omega, ?_⟩; first | assumption | exact strs_at (by omega) | exact strs_at (by simp only [List.length_cons] at *; omega) | exact ints_at (by omega) | exact map_at (by omega) | exact list_at (by omega)) | exact ⟨by decide, rfl⟩)) ?_ | refine x_pure rfl (p_idx_own rfl rfl Try.e96 Try.c3 (by omega)) ?_
    first | refine x_pure rfl (p_load1 rfl Try.g3 rfl) ?_ | refine x_pure rfl (p_load1r rfl Try.g3 rfl rfl) ?_ | refine x_pure rfl (p_load1r rfl Try.g3 rfl (strs_ref (by simp only [List.length_cons] at *; omega))) ?_ | refine x_pure rfl (p_load1r rfl Try.g3 rfl (strs_ref (by omega))) ?_
    refine x_step hf rfl (r_buildSlice Try.ap96 rfl rfl rfl rfl (by simp [intC, AV.cells, AV.leaf, Value.oneCell', splice, AV.kill, AV.clean, cleanL, AV.only])) ?_
    refine x_append hf rfl Try.ap96 rfl rfl rfl (.inl rfl) (by simp only [List.length_map, List.length_append, List.length_cons, List.length_nil]) rfl (by first | rfl | simp [asrc, look]) (by first | (simp only [maxLen, List.length_map, List.length_append, List.length_cons, List.length_nil]; omega) | (simp [maxLen] <;> omega)) (by first | (simp only [List.length_map, List.length_append, List.length_cons, List.length_nil]; omega) | (simp <;> omega)) ?_
    refine aops_le (le_of (sl' := [(0, _), (1, _), (6, _), (7, _), (40, _)]) ⟨rfl, rfl, rfl, rfl, rfl, trivial⟩) ?_
    refine x_pure rfl (p_assign rfl) ?_
    first | refine aops_end ?_ | refine aops_nil ?_
    refine hK8 _ ?_
    refine aw_region ?_
    refine x_pure rfl (p_move rfl) ?_
    first | refine x_pure rfl (p_add rfl rfl (by omega) (by omega)) ?_ | refine x_pure rfl (p_bin rfl rfl rfl) ?_
    refine x_pure rfl (p_assign rfl) ?_
    first | refine aops_end ?_ | refine aops_nil ?_
    first | exact ⟨(k + 1, out ++ [l[k]], true), ⟨by omega, put_eq hI (by omega) (by assumption)⟩, by simp only; omega, le_to ⟨rfl, rfl, (by simp only [List.length_append]; rfl), rfl, rfl, trivial⟩ (by simp only [List.map_append]; rfl)⟩ | exact ⟨(k + 1, out ++ [l[k]], done), ⟨by omega, put_pass (by assumption) hI (by omega)⟩, by simp only; omega, le_to ⟨rfl, rfl, (by simp only [List.length_append]; rfl), rfl, rfl, trivial⟩ (by simp only [List.map_append]; rfl)⟩ | exact ⟨(k + 1, out ++ [n] ++ [l[k]], true), ⟨by omega, put_ins (by assumption) hI (by omega) (by omega)⟩, by simp only; omega, le_to ⟨rfl, rfl, (by simp only [List.length_append]; rfl), rfl, rfl, trivial⟩ (by simp only [List.map_append]; rfl)⟩ | exact ⟨(k + 1, out ++ [l[k]], done), ⟨by omega, put_go (by assumption) hI (by omega) (by omega) (by omega)⟩, by simp only; omega, le_to ⟨rfl, rfl, (by simp only [List.length_append]; rfl), rfl, rfl, trivial⟩ (by simp only [List.map_append]; rfl)⟩
   ·
    try simp only [bs] at hc2
    refine aw_skip ?_
    refine hK9 _ ?_
    refine aw_seq_k (fun K13 hK13 => ?_)
    refine aw_seq_k (fun K14 hK14 => ?_)
    refine aw_region ?_
    refine x_pure rfl (p_move rfl) ?_
    refine x_pure rfl (p_not rfl) ?_
    refine x_pure rfl (p_move rfl) ?_
    refine y_guard_s rfl rfl rfl (fun hg4 => ?_) (fun hg4 => ?_)
    ·
     try simp only [bs] at hg4
     refine x_pure rfl (p_move rfl) ?_
     refine x_guard_t rfl rfl rfl ?_
     refine x_pure rfl (p_move rfl) ?_
     refine x_guard_t rfl rfl rfl ?_
     refine x_pure rfl (p_move rfl) ?_
     refine x_guard_t rfl rfl rfl ?_
     first | refine x_pure rfl (p_idx_sl rfl rfl Try.e96 Try.c3 (by first | assumption | (refine ⟨by omega, ?_⟩; first | assumption | exact strs_at (by omega) | exact strs_at (by simp only [List.length_cons] at *; omega) | exact ints_at (by omega) | exact map_at (by omega) | exact list_at (by omega)) | exact ⟨by decide, rfl⟩)) ?_ | refine x_pure rfl (p_idx_own rfl rfl Try.e96 Try.c3 (by omega)) ?_
     refine x_guard_t rfl rfl rfl ?_
     first | refine x_pure rfl (p_load1 rfl Try.g3 rfl) ?_ | refine x_pure rfl (p_load1r rfl Try.g3 rfl rfl) ?_ | refine x_pure rfl (p_load1r rfl Try.g3 rfl (strs_ref (by simp only [List.length_cons] at *; omega))) ?_ | refine x_pure rfl (p_load1r rfl Try.g3 rfl (strs_ref (by omega))) ?_
     refine x_guard_t rfl rfl rfl ?_
     refine x_pure rfl (p_bin rfl rfl rfl) ?_
     refine x_pure rfl (p_pick_t rfl rfl) ?_
     first | refine aops_end ?_ | refine aops_nil ?_
     refine hK14 _ ?_
     refine aw_cond_s rfl (fun hc5 => ?_) (fun hc5 => ?_)
     ·
      try simp only [bs] at hc5
      refine aw_seq_k (fun K15 hK15 => ?_)
      refine aw_region ?_
      refine x_pure rfl (p_move rfl) ?_
      refine x_pure rfl (p_move rfl) ?_
      refine x_step hf rfl (r_buildSlice Try.ap96 rfl rfl rfl rfl (by simp [intC, AV.cells, AV.leaf, Value.oneCell', splice, AV.kill, AV.clean, cleanL, AV.only])) ?_
      refine x_append hf rfl Try.ap96 rfl rfl rfl (.inl rfl) (by simp only [List.length_map, List.length_append, List.length_cons, List.length_nil]) rfl (by first | rfl | simp [asrc, look]) (by first | (simp only [maxLen, List.length_map, List.length_append, List.length_cons, List.length_nil]; omega) | (simp [maxLen] <;> omega)) (by first | (simp only [List.length_map, List.length_append, List.length_cons, List.length_nil]; omega) | (simp <;> omega)) ?_
      refine aops_le (le_of (sl' := [(0, _), (1, _), (7, _), (33, _)]) ⟨rfl, rfl, rfl, rfl, trivial⟩) ?_
      refine x_pure rfl (p_assign rfl) ?_
      first | refine aops_end ?_ | refine aops_nil ?_
      refine hK15 _ ?_
      refine aw_region ?_
      refine x_pure rfl (p_assign rfl) ?_
      first | refine aops_end ?_ | refine aops_nil ?_
      refine hK13 _ ?_
      refine aw_region ?_
      refine x_pure rfl (p_move rfl) ?_
      refine x_pure rfl (p_move rfl) ?_
      refine x_pure rfl (p_move rfl) ?_
      first | refine x_pure rfl (p_idx_sl rfl rfl Try.e96 Try.c3 (by first | assumption | (refine ⟨by omega, ?_⟩; first | assumption | exact strs_at (by omega) | exact strs_at (by simp only [List.length_cons] at *; omega) | exact ints_at (by omega) | exact map_at (by omega) | exact list_at (by omega)) | exact ⟨by decide, rfl⟩)) ?_ | refine x_pure rfl (p_idx_own rfl rfl Try.e96 Try.c3 (by omega)) ?_
      first | refine x_pure rfl (p_load1 rfl Try.g3 rfl) ?_ | refine x_pure rfl (p_load1r rfl Try.g3 rfl rfl) ?_ | refine x_pure rfl (p_load1r rfl Try.g3 rfl (strs_ref (by simp only [List.length_cons] at *; omega))) ?_ | refine x_pure rfl (p_load1r rfl Try.g3 rfl (strs_ref (by omega))) ?_
      refine x_step hf rfl (r_buildSlice Try.ap96 rfl rfl rfl rfl (by simp [intC, AV.cells, AV.leaf, Value.oneCell', splice, AV.kill, AV.clean, cleanL, AV.only])) ?_
      refine x_append hf rfl Try.ap96 rfl rfl rfl (.inl rfl) (by simp only [List.length_map, List.length_append, List.length_cons, List.length_nil]) rfl (by first | rfl | simp [asrc, look]) (by first | (simp only [maxLen, List.length_map, List.length_append, List.length_cons, List.length_nil]; omega) | (simp [maxLen] <;> omega)) (by first | (simp only [List.length_map, List.length_append, List.length_cons, List.length_nil]; omega) | (simp <;> omega)) ?_
      refine aops_le (le_of (sl' := [(0, _), (1, _), (6, _), (7, _), (40, _)]) ⟨rfl, rfl, rfl, rfl, rfl, trivial⟩) ?_
      refine x_pure rfl (p_assign rfl) ?_
      first | refine aops_end ?_ | refine aops_nil ?_
      refine hK8 _ ?_
      refine aw_region ?_
      refine x_pure rfl (p_move rfl) ?_
      first | refine x_pure rfl (p_add rfl rfl (by omega) (by omega)) ?_ | refine x_pure rfl (p_bin rfl rfl rfl) ?_
      refine x_pure rfl (p_assign rfl) ?_
      first | refine aops_end ?_ | refine aops_nil ?_
      first | exact ⟨(k + 1, out ++ [l[k]], true), ⟨by omega, put_eq hI (by omega) (by assumption)⟩, by simp only; omega, le_to ⟨rfl, rfl, (by simp only [List.length_append]; rfl), rfl, rfl, trivial⟩ (by simp only [List.map_append]; rfl)⟩ | exact ⟨(k + 1, out ++ [l[k]], done), ⟨by omega, put_pass (by assumption) hI (by omega)⟩, by simp only; omega, le_to ⟨rfl, rfl, (by simp only [List.length_append]; rfl), rfl, rfl, trivial⟩ (by simp only [List.map_append]; rfl)⟩ | exact ⟨(k + 1, out ++ [n] ++ [l[k]], true), ⟨by omega, put_ins (by assumption) hI (by omega) (by omega)⟩, by simp only; omega, le_to ⟨rfl, rfl, (by simp only [List.length_append]; rfl), rfl, rfl, trivial⟩ (by simp only [List.map_append]; rfl)⟩ | exact ⟨(k + 1, out ++ [l[k]], done), ⟨by omega, put_go (by assumption) hI (by omega) (by omega) (by omega)⟩, by simp only; omega, le_to ⟨rfl, rfl, (by simp only [List.length_append]; rfl), rfl, rfl, trivial⟩ (by simp only [List.map_append]; rfl)⟩
     ·
      try simp only [bs] at hc5
      refine aw_skip ?_
      refine hK13 _ ?_
      refine aw_region ?_
      refine x_pure rfl (p_move rfl) ?_
      refine x_pure rfl (p_move rfl) ?_
      refine x_pure rfl (p_move rfl) ?_
      first | refine x_pure rfl (p_idx_sl rfl rfl Try.e96 Try.c3 (by first | assumption | (refine ⟨by omega, ?_⟩; first | assumption | exact strs_at (by omega) | exact strs_at (by simp only [List.length_cons] at *; omega) | exact ints_at (by omega) | exact map_at (by omega) | exact list_at (by omega)) | exact ⟨by decide, rfl⟩)) ?_ | refine x_pure rfl (p_idx_own rfl rfl Try.e96 Try.c3 (by omega)) ?_
      first | refine x_pure rfl (p_load1 rfl Try.g3 rfl) ?_ | refine x_pure rfl (p_load1r rfl Try.g3 rfl rfl) ?_ | refine x_pure rfl (p_load1r rfl Try.g3 rfl (strs_ref (by simp only [List.length_cons] at *; omega))) ?_ | refine x_pure rfl (p_load1r rfl Try.g3 rfl (strs_ref (by omega))) ?_
      refine x_step hf rfl (r_buildSlice Try.ap96 rfl rfl rfl rfl (by simp [intC, AV.cells, AV.leaf, Value.oneCell', splice, AV.kill, AV.clean, cleanL, AV.only])) ?_
      refine x_append hf rfl Try.ap96 rfl rfl rfl (.inl rfl) (by simp only [List.length_map, List.length_append, List.length_cons, List.length_nil]) rfl (by first | rfl | simp [asrc, look]) (by first | (simp only [maxLen, List.length_map, List.length_append, List.length_cons, List.length_nil]; omega) | (simp [maxLen] <;> omega)) (by first | (simp only [List.length_map, List.length_append, List.length_cons, List.length_nil]; omega) | (simp <;> omega)) ?_
      refine aops_le (le_of (sl' := [(0, _), (1, _), (6, _), (7, _), (40, _)]) ⟨rfl, rfl, rfl, rfl, rfl, trivial⟩) ?_
      refine x_pure rfl (p_assign rfl) ?_
      first | refine aops_end ?_ | refine aops_nil ?_
      refine hK8 _ ?_
      refine aw_region ?_
      refine x_pure rfl (p_move rfl) ?_
      first | refine x_pure rfl (p_add rfl rfl (by omega) (by omega)) ?_ | refine x_pure rfl (p_bin rfl rfl rfl) ?_
      refine x_pure rfl (p_assign rfl) ?_
      first | refine aops_end ?_ | refine aops_nil ?_
      first | exact ⟨(k + 1, out ++ [l[k]], true), ⟨by omega, put_eq hI (by omega) (by assumption)⟩, by simp only; omega, le_to ⟨rfl, rfl, (by simp only [List.length_append]; rfl), rfl, rfl, trivial⟩ (by simp only [List.map_append]; rfl)⟩ | exact ⟨(k + 1, out ++ [l[k]], done), ⟨by omega, put_pass (by assumption) hI (by omega)⟩, by simp only; omega, le_to ⟨rfl, rfl, (by simp only [List.length_append]; rfl), rfl, rfl, trivial⟩ (by simp only [List.map_append]; rfl)⟩ | exact ⟨(k + 1, out ++ [n] ++ [l[k]], true), ⟨by omega, put_ins (by assumption) hI (by omega) (by omega)⟩, by simp only; omega, le_to ⟨rfl, rfl, (by simp only [List.length_append]; rfl), rfl, rfl, trivial⟩ (by simp only [List.map_append]; rfl)⟩ | exact ⟨(k + 1, out ++ [l[k]], done), ⟨by omega, put_go (by assumption) hI (by omega) (by omega) (by omega)⟩, by simp only; omega, le_to ⟨rfl, rfl, (by simp only [List.length_append]; rfl), rfl, rfl, trivial⟩ (by simp only [List.map_append]; rfl)⟩
    ·
     try simp only [bs] at hg4
     refine x_guard_f rfl rfl rfl ?_
     refine x_guard_f rfl rfl rfl ?_
     refine x_guard_f rfl rfl rfl ?_
     refine x_guard_f rfl rfl rfl ?_
     refine x_guard_f rfl rfl rfl ?_
     refine x_pure rfl (p_pick_f rfl rfl) ?_
     first | refine aops_end ?_ | refine aops_nil ?_
     refine hK14 _ ?_
     refine aw_cond_f rfl ?_
     refine aw_skip ?_
     refine hK13 _ ?_
     refine aw_region ?_
     refine x_pure rfl (p_move rfl) ?_
     refine x_pure rfl (p_move rfl) ?_
     refine x_pure rfl (p_move rfl) ?_
     first | refine x_pure rfl (p_idx_sl rfl rfl Try.e96 Try.c3 (by first | assumption | (refine ⟨by omega, ?_⟩; first | assumption | exact strs_at (by omega) | exact strs_at (by simp only [List.length_cons] at *; omega) | exact ints_at (by omega) | exact map_at (by omega) | exact list_at (by omega)) | exact ⟨by decide, rfl⟩)) ?_ | refine x_pure rfl (p_idx_own rfl rfl Try.e96 Try.c3 (by omega)) ?_
     first | refine x_pure rfl (p_load1 rfl Try.g3 rfl) ?_ | refine x_pure rfl (p_load1r rfl Try.g3 rfl rfl) ?_ | refine x_pure rfl (p_load1r rfl Try.g3 rfl (strs_ref (by simp only [List.length_cons] at *; omega))) ?_ | refine x_pure rfl (p_load1r rfl Try.g3 rfl (strs_ref (by omega))) ?_
     refine x_step hf rfl (r_buildSlice Try.ap96 rfl rfl rfl rfl (by simp [intC, AV.cells, AV.leaf, Value.oneCell', splice, AV.kill, AV.clean, cleanL, AV.only])) ?_
     refine x_append hf rfl Try.ap96 rfl rfl rfl (.inl rfl) (by simp only [List.length_map, List.length_append, List.length_cons, List.length_nil]) rfl (by first | rfl | simp [asrc, look]) (by first | (simp only [maxLen, List.length_map, List.length_append, List.length_cons, List.length_nil]; omega) | (simp [maxLen] <;> omega)) (by first | (simp only [List.length_map, List.length_append, List.length_cons, List.length_nil]; omega) | (simp <;> omega)) ?_
     refine aops_le (le_of (sl' := [(0, _), (1, _), (6, _), (7, _), (40, _)]) ⟨rfl, rfl, rfl, rfl, rfl, trivial⟩) ?_
     refine x_pure rfl (p_assign rfl) ?_
     first | refine aops_end ?_ | refine aops_nil ?_
     refine hK8 _ ?_
     refine aw_region ?_
     refine x_pure rfl (p_move rfl) ?_
     first | refine x_pure rfl (p_add rfl rfl (by omega) (by omega)) ?_ | refine x_pure rfl (p_bin rfl rfl rfl) ?_
     refine x_pure rfl (p_assign rfl) ?_
     first | refine aops_end ?_ | refine aops_nil ?_
     first | exact ⟨(k + 1, out ++ [l[k]], true), ⟨by omega, put_eq hI (by omega) (by assumption)⟩, by simp only; omega, le_to ⟨rfl, rfl, (by simp only [List.length_append]; rfl), rfl, rfl, trivial⟩ (by simp only [List.map_append]; rfl)⟩ | exact ⟨(k + 1, out ++ [l[k]], done), ⟨by omega, put_pass (by assumption) hI (by omega)⟩, by simp only; omega, le_to ⟨rfl, rfl, (by simp only [List.length_append]; rfl), rfl, rfl, trivial⟩ (by simp only [List.map_append]; rfl)⟩ | exact ⟨(k + 1, out ++ [n] ++ [l[k]], true), ⟨by omega, put_ins (by assumption) hI (by omega) (by omega)⟩, by simp only; omega, le_to ⟨rfl, rfl, (by simp only [List.length_append]; rfl), rfl, rfl, trivial⟩ (by simp only [List.map_append]; rfl)⟩ | exact ⟨(k + 1, out ++ [l[k]], done), ⟨by omega, put_go (by assumption) hI (by omega) (by omega) (by omega)⟩, by simp only; omega, le_to ⟨rfl, rfl, (by simp only [List.length_append]; rfl), rfl, rfl, trivial⟩ (by simp only [List.map_append]; rfl)⟩
  ·
   try simp only [bs] at hc1
   refine aw_exit ?_
   refine hK4 _ ?_
   refine aw_seq_k (fun K16 hK16 => ?_)
   refine aw_seq_k (fun K17 hK17 => ?_)
   refine aw_region ?_
   refine x_pure rfl (p_move rfl) ?_
   refine x_pure rfl (p_not rfl) ?_
   first | refine aops_end ?_ | refine aops_nil ?_
   refine hK17 _ ?_
   refine aw_cond_s rfl (fun hc7 => ?_) (fun hc7 => ?_)
   ·
    try simp only [bs] at hc7
    refine aw_region ?_
    refine x_pure rfl (p_move rfl) ?_
    refine x_pure rfl (p_move rfl) ?_
    refine x_step hf rfl (r_buildSlice Try.ap96 rfl rfl rfl rfl (by simp [intC, AV.cells, AV.leaf, Value.oneCell', splice, AV.kill, AV.clean, cleanL, AV.only])) ?_
    refine x_append hf rfl Try.ap96 rfl rfl rfl (.inl rfl) (by simp only [List.length_map, List.length_append, List.length_cons, List.length_nil]) rfl (by first | rfl | simp [asrc, look]) (by first | (simp only [maxLen, List.length_map, List.length_append, List.length_cons, List.length_nil]; omega) | (simp [maxLen] <;> omega)) (by first | (simp only [List.length_map, List.length_append, List.length_cons, List.length_nil]; omega) | (simp <;> omega)) ?_
    refine aops_le (le_of (sl' := [(46, _)]) ⟨rfl, trivial⟩) ?_
    refine x_pure rfl (p_assign rfl) ?_
    first | refine aops_end ?_ | refine aops_nil ?_
    refine hK16 _ ?_
    refine aw_seq_k (fun K18 hK18 => ?_)
    refine aw_region ?_
    refine x_pure rfl (p_move rfl) ?_
    refine x_pure rfl (p_assign rfl) ?_
    first | refine aops_end ?_ | refine aops_nil ?_
    refine hK18 _ ?_
    refine aw_ret ?_
    refine ⟨_, rfl, ?_⟩
    first | (refine (conv_whole (g := 5) rfl (by simp only [List.length_map])).trans ?_; rw [put_fin hI (by omega), if_pos (by assumption), List.append_nil]) | (refine (conv_whole (g := 5) rfl (by simp only [List.length_append, List.length_map, List.length_cons, List.length_nil])).trans ?_; rw [put_fin hI (by omega), if_neg (by simp_all), List.map_append]; rfl)
   ·
    try simp only [bs] at hc7
    refine aw_skip ?_
    refine hK16 _ ?_
    refine aw_seq_k (fun K19 hK19 => ?_)
    refine aw_region ?_
    refine x_pure rfl (p_move rfl) ?_
    refine x_pure rfl (p_assign rfl) ?_
    first | refine aops_end ?_ | refine aops_nil ?_
    refine hK19 _ ?_
    refine aw_ret ?_
    refine ⟨_, rfl, ?_⟩
    first | (refine (conv_whole (g := 5) rfl (by simp only [List.length_map])).trans ?_; rw [put_fin hI (by omega), if_pos (by assumption), List.append_nil]) | (refine (conv_whole (g := 5) rfl (by simp only [List.length_append, List.length_map, List.length_cons, List.length_nil])).trans ?_; rw [put_fin hI (by omega), if_neg (by simp_all), List.map_append]; rfl)

set_option maxRecDepth 20000 in
set_option maxHeartbeats 400000 in
theorem ends_den (l : List Sp) (hl : l.length ≤ 100000000000)  : Den Try.prog 64 [.sl 2 (l.map spC)]  (· = .sl 1 (endsL l |>.map intC)) := by
 refine den_of_aw Try.func64 rfl (Nat.le_of_ble_eq_true rfl) (fun w0 A hf => ?_)
 refine aw_seq_k (fun K1 hK1 => ?_)
 refine aw_region ?_
 refine x_pure rfl (p_assign_bad) ?_
 first | refine aops_end ?_ | refine aops_nil ?_
 refine hK1 _ ?_
 refine aw_seq_k (fun K2 hK2 => ?_)
 refine aw_region ?_
 refine x_pure rfl (p_nil (k := 1)) ?_
 first | refine aops_end ?_ | refine aops_nil ?_
 refine hK2 _ ?_
 refine aw_seq_k (fun K3 hK3 => ?_)
 refine aw_seq_k (fun K4 hK4 => ?_)
 refine aw_region ?_
 refine x_pure rfl (p_assign rfl) ?_
 first | refine aops_end ?_ | refine aops_nil ?_
 refine hK4 _ ?_
 refine aw_block ?_
 refine aw_loop (ι := Nat × List Int) (fun (⟨k, out⟩ : Nat × List Int) => ⟨25, [(0, .sl 2 (l.map spC)), (3, .sl 1 (out.map intC)), (4, .s (.int .i64 (k : Nat)))], []⟩) (fun (⟨k, out⟩ : Nat × List Int) => k ≤ l.length ∧ out = (l.take k).foldl endStep [] ∧ out.length ≤ 2 * k) (fun (⟨k, out⟩ : Nat × List Int) => l.length - k) (0, []) ?_ ?_ ?_
 · exact ⟨Nat.zero_le _, rfl, Nat.zero_le _⟩
 · exact le_of ⟨rfl, rfl, rfl, trivial⟩
 ·
  rintro ⟨k, out⟩ hC
  obtain ⟨h1, h2, h3⟩ := hC
  refine aw_seq_k (fun K5 hK5 => ?_)
  refine aw_seq_k (fun K6 hK6 => ?_)
  refine aw_region ?_
  refine x_pure rfl (p_move rfl) ?_
  refine x_pure rfl (p_move rfl) ?_
  first | refine x_pure rfl (p_len_sl rfl Try.e31) ?_ | refine x_pure rfl (p_len_own rfl Try.e31) ?_ | refine x_pure rfl (p_len_nil rfl Try.e31) ?_
  refine x_pure rfl (p_bin rfl rfl rfl) ?_
  first | refine aops_end ?_ | refine aops_nil ?_
  refine hK6 _ ?_
  refine aw_cond_s rfl (fun hc1 => ?_) (fun hc1 => ?_)
  ·
   try simp only [bs] at hc1
   refine aw_skip ?_
   refine hK5 _ ?_
   refine aw_seq_k (fun K7 hK7 => ?_)
   refine aw_block ?_
   refine aw_draw hf Try.mixed (by kernel_rfl) rfl ?_
   refine d_pure [(3, _)] rfl rfl ⟨⟨rfl, rfl⟩, trivial⟩ rfl (p_move rfl) ?_
   refine d_pure [(0, _)] rfl rfl ⟨⟨rfl, rfl⟩, trivial⟩ rfl (p_move rfl) ?_
   refine d_pure [(4, _)] rfl rfl ⟨⟨rfl, rfl⟩, trivial⟩ rfl (p_move rfl) ?_
   first | refine d_pure [(12, _), (13, _)] rfl rfl ⟨⟨rfl, rfl⟩, ⟨rfl, rfl⟩, trivial⟩ rfl (p_idx_sl rfl rfl Try.e31 Try.c42 (by first | assumption | (refine ⟨by omega, ?_⟩; first | assumption | exact strs_at (by omega) | exact strs_at (by simp only [List.length_cons] at *; omega) | exact ints_at (by omega) | exact map_at (by omega) | exact list_at (by omega)) | exact ⟨by decide, rfl⟩)) ?_ | refine d_pure [(12, _), (13, _)] rfl rfl ⟨⟨rfl, rfl⟩, ⟨rfl, rfl⟩, trivial⟩ rfl (p_idx_own rfl rfl Try.e31 Try.c42 (by omega)) ?_
   first | refine d_pure [(14, _)] rfl rfl ⟨⟨rfl, rfl⟩, trivial⟩ rfl (p_fld_adr rfl Try.fd42_0 Try.c3 rfl) ?_ | refine d_pure [(14, _)] rfl rfl ⟨⟨rfl, rfl⟩, trivial⟩ rfl (p_fld_ref rfl Try.fd42_0 Try.c3 rfl) ?_
   first | refine d_pure [(15, _)] rfl rfl ⟨⟨rfl, rfl⟩, trivial⟩ rfl (p_load1 rfl Try.g3 rfl) ?_ | refine d_pure [(15, _)] rfl rfl ⟨⟨rfl, rfl⟩, trivial⟩ rfl (p_load1r rfl Try.g3 rfl rfl) ?_ | refine d_pure [(15, _)] rfl rfl ⟨⟨rfl, rfl⟩, trivial⟩ rfl (p_load1r rfl Try.g3 rfl (strs_ref (by simp only [List.length_cons] at *; omega))) ?_ | refine d_pure [(15, _)] rfl rfl ⟨⟨rfl, rfl⟩, trivial⟩ rfl (p_load1r rfl Try.g3 rfl (strs_ref (by omega))) ?_
   refine d_rstep [(11, _), (16, _)] rfl rfl ⟨⟨rfl, rfl⟩, ⟨rfl, rfl⟩, trivial⟩ rfl (r_call rfl rfl Try.ent93 rfl (put_den _ _ (by omega))) ?_
   refine d_pure [(0, _)] rfl rfl ⟨⟨rfl, rfl⟩, trivial⟩ rfl (p_move rfl) ?_
   refine d_pure [(4, _)] rfl rfl ⟨⟨rfl, rfl⟩, trivial⟩ rfl (p_move rfl) ?_
   first | refine d_pure [(18, _), (19, _)] rfl rfl ⟨⟨rfl, rfl⟩, ⟨rfl, rfl⟩, trivial⟩ rfl (p_idx_sl rfl rfl Try.e31 Try.c42 (by first | assumption | (refine ⟨by omega, ?_⟩; first | assumption | exact strs_at (by omega) | exact strs_at (by simp only [List.length_cons] at *; omega) | exact ints_at (by omega) | exact map_at (by omega) | exact list_at (by omega)) | exact ⟨by decide, rfl⟩)) ?_ | refine d_pure [(18, _), (19, _)] rfl rfl ⟨⟨rfl, rfl⟩, ⟨rfl, rfl⟩, trivial⟩ rfl (p_idx_own rfl rfl Try.e31 Try.c42 (by omega)) ?_
   first | refine d_pure [(20, _)] rfl rfl ⟨⟨rfl, rfl⟩, trivial⟩ rfl (p_fld_adr rfl Try.fd42_1 Try.c3 rfl) ?_ | refine d_pure [(20, _)] rfl rfl ⟨⟨rfl, rfl⟩, trivial⟩ rfl (p_fld_ref rfl Try.fd42_1 Try.c3 rfl) ?_
   first | refine d_pure [(21, _)] rfl rfl ⟨⟨rfl, rfl⟩, trivial⟩ rfl (p_load1 rfl Try.g3 rfl) ?_ | refine d_pure [(21, _)] rfl rfl ⟨⟨rfl, rfl⟩, trivial⟩ rfl (p_load1r rfl Try.g3 rfl rfl) ?_ | refine d_pure [(21, _)] rfl rfl ⟨⟨rfl, rfl⟩, trivial⟩ rfl (p_load1r rfl Try.g3 rfl (strs_ref (by simp only [List.length_cons] at *; omega))) ?_ | refine d_pure [(21, _)] rfl rfl ⟨⟨rfl, rfl⟩, trivial⟩ rfl (p_load1r rfl Try.g3 rfl (strs_ref (by omega))) ?_
   have hp1 := putN_len out l[k].1
   refine d_rstep [(17, _), (22, _)] rfl rfl ⟨⟨rfl, rfl⟩, ⟨rfl, rfl⟩, trivial⟩ rfl (r_call rfl rfl Try.ent93 rfl (put_den _ _ (by omega))) ?_
   refine d_pure [(23, _)] rfl rfl ⟨⟨rfl, rfl⟩, trivial⟩ rfl (p_assign rfl) ?_
   refine lex_end (sl' := [(0, _), (3, _), (4, _)]) rfl ⟨rfl, rfl, rfl, trivial⟩ rfl ?_
   refine hK7 _ ?_
   refine aw_region ?_
   refine x_pure rfl (p_move rfl) ?_
   first | refine x_pure rfl (p_add rfl rfl (by omega) (by omega)) ?_ | refine x_pure rfl (p_bin rfl rfl rfl) ?_
   refine x_pure rfl (p_assign rfl) ?_
   first | refine aops_end ?_ | refine aops_nil ?_
   exact ⟨(k + 1, putN (putN out l[k].1) l[k].2), ⟨by omega, by rw [take_foldl l endStep [] k (by omega), ← h2]; rfl, by have := putN_len (putN out l[k].1) l[k].2; have := putN_len out l[k].1; omega⟩, by simp only; omega, le_of ⟨rfl, rfl, rfl, trivial⟩⟩
  ·
   try simp only [bs] at hc1
   refine aw_exit ?_
   refine hK3 _ ?_
   refine aw_seq_k (fun K8 hK8 => ?_)
   refine aw_region ?_
   refine x_pure rfl (p_move rfl) ?_
   refine x_pure rfl (p_assign rfl) ?_
   first | refine aops_end ?_ | refine aops_nil ?_
   refine hK8 _ ?_
   refine aw_ret ?_
   refine ⟨_, rfl, ?_⟩
   show AV.sl 1 (out.map intC) = _
   rw [h2, List.take_of_length_le (by omega)]; rfl

set_option maxRecDepth 20000 in
set_option maxHeartbeats 4000000 in
theorem glue_den (out : List Sp) (s : Sp) (n : Nat) (hn : n = out.length) (hl : out.length ≤ 1000000000000)  : DenR Try.prog 66 [.own E0 2 0 n, .agg (spC s)] 2 ((out.map spC)) (· = (glueL out s).map spC) := by
 refine denr_of_aw Try.func66 rfl (Nat.le_of_ble_eq_true rfl) (args' := [.own G0 2 0 n, .agg (spC s)]) rfl (fun w0 x0 A hf => ?_)
 refine aw_seq_k (fun K1 hK1 => ?_)
 refine aw_region ?_
 refine x_step hf rfl (r_box rfl rfl (by simp [spC, AV.cells, AV.leaf, Value.oneCell', splice, AV.kill, AV.clean, cleanL, AV.only])) ?_
 refine x_pure rfl (p_assign_bad) ?_
 first | refine aops_end ?_ | refine aops_nil ?_
 refine hK1 _ ?_
 refine aw_seq_k (fun K2 hK2 => ?_)
 refine aw_region ?_
 refine x_pure rfl (p_move rfl) ?_
 first | refine x_pure rfl (p_len_sl rfl Try.e31) ?_ | refine x_pure rfl (p_len_own rfl Try.e31) ?_ | refine x_pure rfl (p_len_nil rfl Try.e31) ?_
 refine x_pure rfl (p_assign rfl) ?_
 first | refine aops_end ?_ | refine aops_nil ?_
 refine hK2 _ ?_
 refine aw_seq_k (fun K3 hK3 => ?_)
 refine aw_seq_k (fun K4 hK4 => ?_)
 refine aw_draw hf Try.mixed (by kernel_rfl) rfl ?_
 refine d_pure [(5, _)] rfl rfl ⟨⟨rfl, rfl⟩, trivial⟩ rfl (p_move rfl) ?_
 refine d_pure [(8, _)] rfl rfl ⟨⟨rfl, rfl⟩, trivial⟩ rfl (p_bin rfl rfl rfl) ?_
 refine d_pure [(9, _)] rfl rfl ⟨⟨rfl, rfl⟩, trivial⟩ rfl (p_move rfl) ?_
 refine d_split 10 true rfl (fun hg1 => ?_) (fun hg1 => ?_)
 ·
  try simp only [bs] at hg1
  refine d_pure [(0, _)] rfl rfl ⟨⟨rfl, rfl⟩, trivial⟩ rfl (p_move rfl) ?_
  refine d_pure [(5, _)] rfl rfl ⟨⟨rfl, rfl⟩, trivial⟩ rfl (p_move rfl) ?_
  first | refine d_pure [(12, _)] rfl rfl ⟨⟨rfl, rfl⟩, trivial⟩ rfl (p_sub rfl rfl (by omega) (by omega)) ?_ | refine d_pure [(12, _)] rfl rfl ⟨⟨rfl, rfl⟩, trivial⟩ rfl (p_bin rfl rfl rfl) ?_
  first | refine d_pure [(11, _), (13, _)] rfl rfl ⟨⟨rfl, rfl⟩, ⟨rfl, rfl⟩, trivial⟩ rfl (p_idx_sl rfl rfl Try.e31 Try.c42 (by first | assumption | (refine ⟨by omega, ?_⟩; first | assumption | exact strs_at (by omega) | exact strs_at (by simp only [List.length_cons] at *; omega) | exact ints_at (by omega) | exact map_at (by omega) | exact list_at (by omega)) | exact ⟨by decide, rfl⟩)) ?_ | refine d_pure [(11, _), (13, _)] rfl rfl ⟨⟨rfl, rfl⟩, ⟨rfl, rfl⟩, trivial⟩ rfl (p_idx_own rfl rfl Try.e31 Try.c42 (by omega)) ?_
  first | refine d_pure [(14, _)] rfl rfl ⟨⟨rfl, rfl⟩, trivial⟩ rfl (p_fld_adr rfl Try.fd42_1 Try.c3 rfl) ?_ | refine d_pure [(14, _)] rfl rfl ⟨⟨rfl, rfl⟩, trivial⟩ rfl (p_fld_ref rfl Try.fd42_1 Try.c3 rfl) ?_
  refine d_pure [(15, _)] rfl rfl ⟨⟨rfl, rfl⟩, trivial⟩ rfl (p_load1r rfl Try.g3 rfl (c := .s (.int .i64 (out[out.length - 1]'(by omega)).2)) (own_cell (c := 2) (k := out.length - 1) (enc := spC) (by omega) (by omega) 1)) ?_
  first | refine d_pure [(3, _)] rfl rfl ⟨⟨rfl, rfl⟩, trivial⟩ rfl (p_fld_adr rfl Try.fd42_0 Try.c3 rfl) ?_ | refine d_pure [(3, _)] rfl rfl ⟨⟨rfl, rfl⟩, trivial⟩ rfl (p_fld_ref rfl Try.fd42_0 Try.c3 rfl) ?_
  first | refine d_pure [(17, _)] rfl rfl ⟨⟨rfl, rfl⟩, trivial⟩ rfl (p_load1 rfl Try.g3 rfl) ?_ | refine d_pure [(17, _)] rfl rfl ⟨⟨rfl, rfl⟩, trivial⟩ rfl (p_load1r rfl Try.g3 rfl rfl) ?_ | refine d_pure [(17, _)] rfl rfl ⟨⟨rfl, rfl⟩, trivial⟩ rfl (p_load1r rfl Try.g3 rfl (strs_ref (by simp only [List.length_cons] at *; omega))) ?_ | refine d_pure [(17, _)] rfl rfl ⟨⟨rfl, rfl⟩, trivial⟩ rfl (p_load1r rfl Try.g3 rfl (strs_ref (by omega))) ?_
  refine d_pure [(16, _), (18, _)] rfl rfl ⟨⟨rfl, rfl⟩, ⟨rfl, rfl⟩, trivial⟩ rfl (p_bin rfl rfl rfl) ?_
  refine d_pure [(10, _), (19, _)] rfl rfl ⟨⟨rfl, rfl⟩, ⟨rfl, rfl⟩, trivial⟩ rfl (p_pick_t rfl rfl) ?_
  refine lex_end (sl' := [(0, _), (3, _), (5, _), (20, _)]) rfl ⟨rfl, rfl, rfl, rfl, trivial⟩ rfl ?_
  refine hK4 _ ?_
  refine aw_cond_s rfl (fun hc2 => ?_) (fun hc2 => ?_)
  ·
   try simp only [bs] at hc2
   refine aw_seq_k (fun K5 hK5 => ?_)
   refine aw_region_any Try.mixed ?_
   refine af_step (listed' := #[false, true, false, false, false, false, false, false, false, false, false, false, false, false, false, false, false, false]) 1 rfl (by kernel_rfl) (by kernel_rfl) (by kernel_rfl) rfl (fun _ _ h => h) (w_move rfl) ?_
   refine af_step (listed' := #[false, true, true, false, false, false, false, false, false, false, false, false, false, false, false, false, false, false]) 2 rfl (by kernel_rfl) (by kernel_rfl) (by kernel_rfl) rfl (fun _ _ h => h) (w_move rfl) ?_
   first | refine af_step (listed' := #[false, true, true, true, false, false, false, false, false, false, false, false, false, false, false, false, false, false]) 3 rfl (by kernel_rfl) (by kernel_rfl) (by kernel_rfl) rfl (fun _ _ h => h) (w_sub rfl rfl (by omega) (by omega)) ?_ | refine af_step (listed' := #[false, true, true, true, false, false, false, false, false, false, false, false, false, false, false, false, false, false]) 3 rfl (by kernel_rfl) (by kernel_rfl) (by kernel_rfl) rfl (fun _ _ h => h) (w_bin rfl rfl rfl) ?_
   first | refine af_step (listed' := #[false, true, true, true, true, false, false, false, false, false, false, false, false, false, false, false, false, false]) 4 rfl (by kernel_rfl) (by kernel_rfl) (by kernel_rfl) rfl (fun _ _ h => h) (w_slice_sl rfl Try.e31 Try.c42 rfl rfl (by omega) (by omega) rfl) ?_ | refine af_step (listed' := #[false, true, true, true, true, false, false, false, false, false, false, false, false, false, false, false, false, false]) 4 rfl (by kernel_rfl) (by kernel_rfl) (by kernel_rfl) rfl (fun _ _ h => h) (w_slice_own rfl Try.e31 Try.c42 rfl rfl (by omega) (by omega)) ?_ | refine af_step (listed' := #[false, true, true, true, true, false, false, false, false, false, false, false, false, false, false, false, false, false]) 4 rfl (by kernel_rfl) (by kernel_rfl) (by kernel_rfl) rfl (fun _ _ h => h) (w_slice_sl rfl Try.e31 Try.c42 rfl (bnd_z rfl (by omega)) (by omega) (by omega) rfl) ?_ | refine af_step (listed' := #[false, true, true, true, true, false, false, false, false, false, false, false, false, false, false, false, false, false]) 4 rfl (by kernel_rfl) (by kernel_rfl) (by kernel_rfl) rfl (fun _ _ h => h) (w_slice_own rfl Try.e31 Try.c42 rfl (bnd_z rfl (by omega)) (by omega) (by omega)) ?_
   refine af_step (listed' := #[false, true, true, true, true, false, true, false, false, false, false, false, false, false, false, false, false, false]) 6 rfl (by kernel_rfl) (by kernel_rfl) (by kernel_rfl) rfl (fun _ _ h => h) (w_move rfl) ?_
   refine af_step (listed' := #[false, true, true, true, true, false, true, true, false, false, false, false, false, false, false, false, false, false]) 7 rfl (by kernel_rfl) (by kernel_rfl) (by kernel_rfl) rfl (fun _ _ h => h) (w_move rfl) ?_
   first | refine af_step (listed' := #[false, true, true, true, true, false, true, true, true, false, false, false, false, false, false, false, false, false]) 8 rfl (by kernel_rfl) (by kernel_rfl) (by kernel_rfl) rfl (fun _ _ h => h) (w_sub rfl rfl (by omega) (by omega)) ?_ | refine af_step (listed' := #[false, true, true, true, true, false, true, true, true, false, false, false, false, false, false, false, false, false]) 8 rfl (by kernel_rfl) (by kernel_rfl) (by kernel_rfl) rfl (fun _ _ h => h) (w_bin rfl rfl rfl) ?_
   first | refine af_step (listed' := #[false, true, true, true, true, false, true, true, true, true, false, false, false, false, false, false, false, false]) 9 rfl (by kernel_rfl) (by kernel_rfl) (by kernel_rfl) rfl (fun _ _ h => h) (w_idx_sl rfl rfl Try.e31 Try.c42 (by first | assumption | (refine ⟨by omega, ?_⟩; first | assumption | exact strs_at (by omega) | exact strs_at (by simp only [List.length_cons] at *; omega) | exact ints_at (by omega) | exact map_at (by omega) | exact list_at (by omega)) | exact ⟨by decide, rfl⟩)) ?_ | refine af_step (listed' := #[false, true, true, true, true, false, true, true, true, true, false, false, false, false, false, false, false, false]) 9 rfl (by kernel_rfl) (by kernel_rfl) (by kernel_rfl) rfl (fun _ _ h => h) (w_idx_own rfl rfl Try.e31 Try.c42 (by omega)) ?_
   first | refine af_step (listed' := #[false, true, true, true, true, false, true, true, true, true, true, false, false, false, false, false, false, false]) 10 rfl (by kernel_rfl) (by kernel_rfl) (by kernel_rfl) rfl (fun _ _ h => h) (w_fld_adr rfl Try.fd42_0 Try.c3 rfl) ?_ | refine af_step (listed' := #[false, true, true, true, true, false, true, true, true, true, true, false, false, false, false, false, false, false]) 10 rfl (by kernel_rfl) (by kernel_rfl) (by kernel_rfl) rfl (fun _ _ h => h) (w_fld_ref rfl Try.fd42_0 Try.c3 rfl) ?_
   first | refine af_step (listed' := #[false, true, true, true, true, false, true, true, true, true, true, false, true, false, false, false, false, false]) 12 rfl (by kernel_rfl) (by kernel_rfl) (by kernel_rfl) rfl (fun _ _ h => h) (w_fld_adr rfl Try.fd42_1 Try.c3 rfl) ?_ | refine af_step (listed' := #[false, true, true, true, true, false, true, true, true, true, true, false, true, false, false, false, false, false]) 12 rfl (by kernel_rfl) (by kernel_rfl) (by kernel_rfl) rfl (fun _ _ h => h) (w_fld_ref rfl Try.fd42_1 Try.c3 rfl) ?_
   refine aany_le (le_of (sl' := [(25, _), (31, _), (33, _)]) ⟨rfl, rfl, rfl, trivial⟩) ?_
   refine aany_step 0 [11, 13] (by kernel_rfl) ⟨?_, ?_, ?_, trivial⟩
   ·
    refine ⟨_, rfl, rfl, ?_⟩
    refine aop_of_aops (ops := #[]) rfl ?_
    refine y_buildSlice hf rfl rfl rfl Try.ap31 rfl rfl rfl rfl (by simp [spC, AV.cells, AV.leaf, Value.oneCell', splice, AV.kill, AV.clean, cleanL, AV.only]) ?_
    refine aops_any ?_
    refine aany_step 5 [11, 13] (by kernel_rfl) ⟨?_, ?_, ?_, trivial⟩
    ·
     refine ⟨_, rfl, rfl, ?_⟩
     refine aop_of_aops (ops := #[]) rfl ?_
     refine x_append hf rfl Try.ap31 rfl rfl rfl (.inl rfl) (by first | rfl | (simp only [List.length_map, List.length_nil]; omega) | simp) rfl (asrc_view (l := out) (j := out.length - 1) rfl (by omega) (by omega) (by omega)) (by first | (simp only [maxLen, List.length_map, List.length_append, List.length_cons, List.length_nil]; omega) | (simp [maxLen] <;> omega)) (by first | (simp only [List.length_map, List.length_append, List.length_cons, List.length_nil]; omega) | (simp <;> omega)) ?_
     refine aops_le (le_of (sl' := [(26, _), (31, _), (33, _)]) ⟨rfl, rfl, rfl, trivial⟩) ?_
     refine aops_any ?_
     refine aany_step 11 [13] (by kernel_rfl) ⟨?_, ?_, trivial⟩
     ·
      refine ⟨_, rfl, rfl, ?_⟩
      refine aop_of_aops (ops := #[]) rfl ?_
      refine x_pure rfl (p_load1r rfl Try.g3 rfl (c := .s (.int .i64 (out[out.length - 1]'(by omega)).1)) (own_cell (c := 2) (k := out.length - 1) (enc := spC) (by omega) (by omega) 0)) ?_
      refine aops_any ?_
      refine aany_step 13 [] (by kernel_rfl) ⟨?_, trivial⟩
      ·
       refine ⟨_, rfl, rfl, ?_⟩
       refine aop_of_aops (ops := #[]) rfl ?_
       first | refine x_pure rfl (p_load1 rfl Try.g3 rfl) ?_ | refine x_pure rfl (p_load1r rfl Try.g3 rfl rfl) ?_ | refine x_pure rfl (p_load1r rfl Try.g3 rfl (strs_ref (by simp only [List.length_cons] at *; omega))) ?_ | refine x_pure rfl (p_load1r rfl Try.g3 rfl (strs_ref (by omega))) ?_
       refine aops_any ?_
       refine aany_step 14 [] (by kernel_rfl) ⟨?_, trivial⟩
       ·
        refine ⟨_, rfl, rfl, ?_⟩
        refine aop_of_aops (ops := #[]) rfl ?_
        refine x_pure rfl (p_build rfl Try.z42 Try.pl42 (by simp [spC, AV.cells, AV.one, Value.oneCell', splice, AV.kill, AV.clean, cleanL, AV.only]) rfl) ?_
        refine aops_any ?_
        refine aany_step 15 [] (by kernel_rfl) ⟨?_, trivial⟩
        ·
         refine ⟨_, rfl, rfl, ?_⟩
         refine aop_of_aops (ops := #[]) rfl ?_
         refine x_step hf rfl (r_buildSlice Try.ap31 rfl rfl rfl rfl (by simp [spC, AV.cells, AV.leaf, Value.oneCell', splice, AV.kill, AV.clean, cleanL, AV.only])) ?_
         refine aops_any ?_
         refine aany_step 16 [] (by kernel_rfl) ⟨?_, trivial⟩
         ·
          refine ⟨_, rfl, rfl, ?_⟩
          refine aop_of_aops (ops := #[]) rfl ?_
          refine x_append hf rfl Try.ap31 rfl rfl rfl (.inl rfl) (by first | rfl | (simp only [List.length_map, List.length_nil]; omega) | simp) rfl (by first | rfl | simp [asrc, look]) (by first | (simp only [maxLen, List.length_map, List.length_append, List.length_cons, List.length_nil]; omega) | (simp [maxLen] <;> omega)) (by first | (simp only [List.length_map, List.length_append, List.length_cons, List.length_nil]; omega) | (simp <;> omega)) ?_
          refine aops_le (le_of (sl' := [(37, _)]) ⟨rfl, trivial⟩) ?_
          refine aops_any ?_
          refine aany_step 17 [] (by kernel_rfl) ⟨?_, trivial⟩
          ·
           refine ⟨_, rfl, rfl, ?_⟩
           refine aop_of_aops (ops := #[]) rfl ?_
           refine x_pure rfl (p_assign rfl) ?_
           refine aops_any ?_
           refine aany_end (by kernel_rfl) ?_
           refine hK5 _ ?_
           refine aw_ret ?_
           refine ⟨21, (glueL out s).map spC, by decide, ?_, ?_, rfl⟩
           · rw [glue_t (by omega) (by omega), List.map_append]; rfl
           · rw [glue_t (by omega) (by omega), List.map_append, List.length_append]
             show some (AV.own 21 2 0 (0 + ((out.take (out.length - 1)).map spC).length + 1)) = _
             rw [Nat.zero_add]; rfl
     ·
      refine ⟨_, rfl, rfl, ?_⟩
      refine aop_of_aops (ops := #[]) rfl ?_
      first | refine x_pure rfl (p_load1 rfl Try.g3 rfl) ?_ | refine x_pure rfl (p_load1r rfl Try.g3 rfl rfl) ?_ | refine x_pure rfl (p_load1r rfl Try.g3 rfl (strs_ref (by simp only [List.length_cons] at *; omega))) ?_ | refine x_pure rfl (p_load1r rfl Try.g3 rfl (strs_ref (by omega))) ?_
      refine aops_any ?_
      refine aany_step 11 [] (by kernel_rfl) ⟨?_, trivial⟩
      ·
       refine ⟨_, rfl, rfl, ?_⟩
       refine aop_of_aops (ops := #[]) rfl ?_
       refine x_pure rfl (p_load1r rfl Try.g3 rfl (c := .s (.int .i64 (out[out.length - 1]'(by omega)).1)) (own_cell (c := 2) (k := out.length - 1) (enc := spC) (by omega) (by omega) 0)) ?_
       refine aops_any ?_
       refine aany_step 14 [] (by kernel_rfl) ⟨?_, trivial⟩
       ·
        refine ⟨_, rfl, rfl, ?_⟩
        refine aop_of_aops (ops := #[]) rfl ?_
        refine x_pure rfl (p_build rfl Try.z42 Try.pl42 (by simp [spC, AV.cells, AV.one, Value.oneCell', splice, AV.kill, AV.clean, cleanL, AV.only]) rfl) ?_
        refine aops_any ?_
        refine aany_step 15 [] (by kernel_rfl) ⟨?_, trivial⟩
        ·
         refine ⟨_, rfl, rfl, ?_⟩
         refine aop_of_aops (ops := #[]) rfl ?_
         refine x_step hf rfl (r_buildSlice Try.ap31 rfl rfl rfl rfl (by simp [spC, AV.cells, AV.leaf, Value.oneCell', splice, AV.kill, AV.clean, cleanL, AV.only])) ?_
         refine aops_any ?_
         refine aany_step 16 [] (by kernel_rfl) ⟨?_, trivial⟩
         ·
          refine ⟨_, rfl, rfl, ?_⟩
          refine aop_of_aops (ops := #[]) rfl ?_
          refine x_append hf rfl Try.ap31 rfl rfl rfl (.inl rfl) (by first | rfl | (simp only [List.length_map, List.length_nil]; omega) | simp) rfl (by first | rfl | simp [asrc, look]) (by first | (simp only [maxLen, List.length_map, List.length_append, List.length_cons, List.length_nil]; omega) | (simp [maxLen] <;> omega)) (by first | (simp only [List.length_map, List.length_append, List.length_cons, List.length_nil]; omega) | (simp <;> omega)) ?_
          refine aops_le (le_of (sl' := [(37, _)]) ⟨rfl, trivial⟩) ?_
          refine aops_any ?_
          refine aany_step 17 [] (by kernel_rfl) ⟨?_, trivial⟩
          ·
           refine ⟨_, rfl, rfl, ?_⟩
           refine aop_of_aops (ops := #[]) rfl ?_
           refine x_pure rfl (p_assign rfl) ?_
           refine aops_any ?_
           refine aany_end (by kernel_rfl) ?_
           refine hK5 _ ?_
           refine aw_ret ?_
           refine ⟨21, (glueL out s).map spC, by decide, ?_, ?_, rfl⟩
           · rw [glue_t (by omega) (by omega), List.map_append]; rfl
           · rw [glue_t (by omega) (by omega), List.map_append, List.length_append]
             show some (AV.own 21 2 0 (0 + ((out.take (out.length - 1)).map spC).length + 1)) = _
             rw [Nat.zero_add]; rfl
    ·
     refine ⟨_, rfl, rfl, ?_⟩
     refine aop_of_aops (ops := #[]) rfl ?_
     refine x_pure rfl (p_load1r rfl Try.g3 rfl (c := .s (.int .i64 (out[out.length - 1]'(by omega)).1)) (own_cell (c := 2) (k := out.length - 1) (enc := spC) (by omega) (by omega) 0)) ?_
     refine aops_any ?_
     refine aany_step 5 [13] (by kernel_rfl) ⟨?_, ?_, trivial⟩
     ·
      refine ⟨_, rfl, rfl, ?_⟩
      refine aop_of_aops (ops := #[]) rfl ?_
      refine x_append hf rfl Try.ap31 rfl rfl rfl (.inl rfl) (by first | rfl | (simp only [List.length_map, List.length_nil]; omega) | simp) rfl (asrc_view (l := out) (j := out.length - 1) rfl (by omega) (by omega) (by omega)) (by first | (simp only [maxLen, List.length_map, List.length_append, List.length_cons, List.length_nil]; omega) | (simp [maxLen] <;> omega)) (by first | (simp only [List.length_map, List.length_append, List.length_cons, List.length_nil]; omega) | (simp <;> omega)) ?_
      refine aops_le (le_of (sl' := [(26, _), (32, _), (33, _)]) ⟨rfl, rfl, rfl, trivial⟩) ?_
      refine aops_any ?_
      refine aany_step 13 [] (by kernel_rfl) ⟨?_, trivial⟩
      ·
       refine ⟨_, rfl, rfl, ?_⟩
       refine aop_of_aops (ops := #[]) rfl ?_
       first | refine x_pure rfl (p_load1 rfl Try.g3 rfl) ?_ | refine x_pure rfl (p_load1r rfl Try.g3 rfl rfl) ?_ | refine x_pure rfl (p_load1r rfl Try.g3 rfl (strs_ref (by simp only [List.length_cons] at *; omega))) ?_ | refine x_pure rfl (p_load1r rfl Try.g3 rfl (strs_ref (by omega))) ?_
       refine aops_any ?_
       refine aany_step 14 [] (by kernel_rfl) ⟨?_, trivial⟩
       ·
        refine ⟨_, rfl, rfl, ?_⟩
        refine aop_of_aops (ops := #[]) rfl ?_
        refine x_pure rfl (p_build rfl Try.z42 Try.pl42 (by simp [spC, AV.cells, AV.one, Value.oneCell', splice, AV.kill, AV.clean, cleanL, AV.only]) rfl) ?_
        refine aops_any ?_
        refine aany_step 15 [] (by kernel_rfl) ⟨?_, trivial⟩
        ·
         refine ⟨_, rfl, rfl, ?_⟩
         refine aop_of_aops (ops := #[]) rfl ?_
         refine x_step hf rfl (r_buildSlice Try.ap31 rfl rfl rfl rfl (by simp [spC, AV.cells, AV.leaf, Value.oneCell', splice, AV.kill, AV.clean, cleanL, AV.only])) ?_
         refine aops_any ?_
         refine aany_step 16 [] (by kernel_rfl) ⟨?_, trivial⟩
         ·
          refine ⟨_, rfl, rfl, ?_⟩
          refine aop_of_aops (ops := #[]) rfl ?_
          refine x_append hf rfl Try.ap31 rfl rfl rfl (.inl rfl) (by first | rfl | (simp only [List.length_map, List.length_nil]; omega) | simp) rfl (by first | rfl | simp [asrc, look]) (by first | (simp only [maxLen, List.length_map, List.length_append, List.length_cons, List.length_nil]; omega) | (simp [maxLen] <;> omega)) (by first | (simp only [List.length_map, List.length_append, List.length_cons, List.length_nil]; omega) | (simp <;> omega)) ?_
          refine aops_le (le_of (sl' := [(37, _)]) ⟨rfl, trivial⟩) ?_
          refine aops_any ?_
          refine aany_step 17 [] (by kernel_rfl) ⟨?_, trivial⟩
          ·
           refine ⟨_, rfl, rfl, ?_⟩
           refine aop_of_aops (ops := #[]) rfl ?_
           refine x_pure rfl (p_assign rfl) ?_
           refine aops_any ?_
           refine aany_end (by kernel_rfl) ?_
           refine hK5 _ ?_
           refine aw_ret ?_
           refine ⟨21, (glueL out s).map spC, by decide, ?_, ?_, rfl⟩
           · rw [glue_t (by omega) (by omega), List.map_append]; rfl
           · rw [glue_t (by omega) (by omega), List.map_append, List.length_append]
             show some (AV.own 21 2 0 (0 + ((out.take (out.length - 1)).map spC).length + 1)) = _
             rw [Nat.zero_add]; rfl
     ·
      refine ⟨_, rfl, rfl, ?_⟩
      refine aop_of_aops (ops := #[]) rfl ?_
      first | refine x_pure rfl (p_load1 rfl Try.g3 rfl) ?_ | refine x_pure rfl (p_load1r rfl Try.g3 rfl rfl) ?_ | refine x_pure rfl (p_load1r rfl Try.g3 rfl (strs_ref (by simp only [List.length_cons] at *; omega))) ?_ | refine x_pure rfl (p_load1r rfl Try.g3 rfl (strs_ref (by omega))) ?_
      refine aops_any ?_
      refine aany_step 5 [14] (by kernel_rfl) ⟨?_, ?_, trivial⟩
      ·
       refine ⟨_, rfl, rfl, ?_⟩
       refine aop_of_aops (ops := #[]) rfl ?_
       refine x_append hf rfl Try.ap31 rfl rfl rfl (.inl rfl) (by first | rfl | (simp only [List.length_map, List.length_nil]; omega) | simp) rfl (asrc_view (l := out) (j := out.length - 1) rfl (by omega) (by omega) (by omega)) (by first | (simp only [maxLen, List.length_map, List.length_append, List.length_cons, List.length_nil]; omega) | (simp [maxLen] <;> omega)) (by first | (simp only [List.length_map, List.length_append, List.length_cons, List.length_nil]; omega) | (simp <;> omega)) ?_
       refine aops_le (le_of (sl' := [(26, _), (32, _), (34, _)]) ⟨rfl, rfl, rfl, trivial⟩) ?_
       refine aops_any ?_
       refine aany_step 14 [] (by kernel_rfl) ⟨?_, trivial⟩
       ·
        refine ⟨_, rfl, rfl, ?_⟩
        refine aop_of_aops (ops := #[]) rfl ?_
        refine x_pure rfl (p_build rfl Try.z42 Try.pl42 (by simp [spC, AV.cells, AV.one, Value.oneCell', splice, AV.kill, AV.clean, cleanL, AV.only]) rfl) ?_
        refine aops_any ?_
        refine aany_step 15 [] (by kernel_rfl) ⟨?_, trivial⟩
        ·
         refine ⟨_, rfl, rfl, ?_⟩
         refine aop_of_aops (ops := #[]) rfl ?_
         refine x_step hf rfl (r_buildSlice Try.ap31 rfl rfl rfl rfl (by simp [spC, AV.cells, AV.leaf, Value.oneCell', splice, AV.kill, AV.clean, cleanL, AV.only])) ?_
         refine aops_any ?_
         refine aany_step 16 [] (by kernel_rfl) ⟨?_, trivial⟩
         ·
          refine ⟨_, rfl, rfl, ?_⟩
          refine aop_of_aops (ops := #[]) rfl ?_
          refine x_append hf rfl Try.ap31 rfl rfl rfl (.inl rfl) (by first | rfl | (simp only [List.length_map, List.length_nil]; omega) | simp) rfl (by first | rfl | simp [asrc, look]) (by first | (simp only [maxLen, List.length_map, List.length_append, List.length_cons, List.length_nil]; omega) | (simp [maxLen] <;> omega)) (by first | (simp only [List.length_map, List.length_append, List.length_cons, List.length_nil]; omega) | (simp <;> omega)) ?_
          refine aops_le (le_of (sl' := [(37, _)]) ⟨rfl, trivial⟩) ?_
          refine aops_any ?_
          refine aany_step 17 [] (by kernel_rfl) ⟨?_, trivial⟩
          ·
           refine ⟨_, rfl, rfl, ?_⟩
           refine aop_of_aops (ops := #[]) rfl ?_
           refine x_pure rfl (p_assign rfl) ?_
           refine aops_any ?_
           refine aany_end (by kernel_rfl) ?_
           refine hK5 _ ?_
           refine aw_ret ?_
           refine ⟨21, (glueL out s).map spC, by decide, ?_, ?_, rfl⟩
           · rw [glue_t (by omega) (by omega), List.map_append]; rfl
           · rw [glue_t (by omega) (by omega), List.map_append, List.length_append]
             show some (AV.own 21 2 0 (0 + ((out.take (out.length - 1)).map spC).length + 1)) = _
             rw [Nat.zero_add]; rfl
      ·
       refine ⟨_, rfl, rfl, ?_⟩
       refine aop_of_aops (ops := #[]) rfl ?_
       refine x_pure rfl (p_build rfl Try.z42 Try.pl42 (by simp [spC, AV.cells, AV.one, Value.oneCell', splice, AV.kill, AV.clean, cleanL, AV.only]) rfl) ?_
       refine aops_any ?_
       refine aany_step 5 [15] (by kernel_rfl) ⟨?_, ?_, trivial⟩
       ·
        refine ⟨_, rfl, rfl, ?_⟩
        refine aop_of_aops (ops := #[]) rfl ?_
        refine x_append hf rfl Try.ap31 rfl rfl rfl (.inl rfl) (by first | rfl | (simp only [List.length_map, List.length_nil]; omega) | simp) rfl (asrc_view (l := out) (j := out.length - 1) rfl (by omega) (by omega) (by omega)) (by first | (simp only [maxLen, List.length_map, List.length_append, List.length_cons, List.length_nil]; omega) | (simp [maxLen] <;> omega)) (by first | (simp only [List.length_map, List.length_append, List.length_cons, List.length_nil]; omega) | (simp <;> omega)) ?_
        refine aops_le (le_of (sl' := [(26, _), (35, _)]) ⟨rfl, rfl, trivial⟩) ?_
        refine aops_any ?_
        refine aany_step 15 [] (by kernel_rfl) ⟨?_, trivial⟩
        ·
         refine ⟨_, rfl, rfl, ?_⟩
         refine aop_of_aops (ops := #[]) rfl ?_
         refine x_step hf rfl (r_buildSlice Try.ap31 rfl rfl rfl rfl (by simp [spC, AV.cells, AV.leaf, Value.oneCell', splice, AV.kill, AV.clean, cleanL, AV.only])) ?_
         refine aops_any ?_
         refine aany_step 16 [] (by kernel_rfl) ⟨?_, trivial⟩
         ·
          refine ⟨_, rfl, rfl, ?_⟩
          refine aop_of_aops (ops := #[]) rfl ?_
          refine x_append hf rfl Try.ap31 rfl rfl rfl (.inl rfl) (by first | rfl | (simp only [List.length_map, List.length_nil]; omega) | simp) rfl (by first | rfl | simp [asrc, look]) (by first | (simp only [maxLen, List.length_map, List.length_append, List.length_cons, List.length_nil]; omega) | (simp [maxLen] <;> omega)) (by first | (simp only [List.length_map, List.length_append, List.length_cons, List.length_nil]; omega) | (simp <;> omega)) ?_
          refine aops_le (le_of (sl' := [(37, _)]) ⟨rfl, trivial⟩) ?_
          refine aops_any ?_
          refine aany_step 17 [] (by kernel_rfl) ⟨?_, trivial⟩
          ·
           refine ⟨_, rfl, rfl, ?_⟩
           refine aop_of_aops (ops := #[]) rfl ?_
           refine x_pure rfl (p_assign rfl) ?_
           refine aops_any ?_
           refine aany_end (by kernel_rfl) ?_
           refine hK5 _ ?_
           refine aw_ret ?_
           refine ⟨21, (glueL out s).map spC, by decide, ?_, ?_, rfl⟩
           · rw [glue_t (by omega) (by omega), List.map_append]; rfl
           · rw [glue_t (by omega) (by omega), List.map_append, List.length_append]
             show some (AV.own 21 2 0 (0 + ((out.take (out.length - 1)).map spC).length + 1)) = _
             rw [Nat.zero_add]; rfl
       ·
        refine ⟨_, rfl, rfl, ?_⟩
        refine aop_of_aops (ops := #[]) rfl ?_
        refine x_step hf rfl (r_buildSlice Try.ap31 rfl rfl rfl rfl (by simp [spC, AV.cells, AV.leaf, Value.oneCell', splice, AV.kill, AV.clean, cleanL, AV.only])) ?_
        refine aops_any ?_
        refine aany_step 5 [] (by kernel_rfl) ⟨?_, trivial⟩
        ·
         refine ⟨_, rfl, rfl, ?_⟩
         refine aop_of_aops (ops := #[]) rfl ?_
         refine x_append hf rfl Try.ap31 rfl rfl rfl (.inl rfl) (by first | rfl | (simp only [List.length_map, List.length_nil]; omega) | simp) rfl (asrc_view (l := out) (j := out.length - 1) rfl (by omega) (by omega) (by omega)) (by first | (simp only [maxLen, List.length_map, List.length_append, List.length_cons, List.length_nil]; omega) | (simp [maxLen] <;> omega)) (by first | (simp only [List.length_map, List.length_append, List.length_cons, List.length_nil]; omega) | (simp <;> omega)) ?_
         refine aops_le (le_of (sl' := [(26, _), (36, _)]) ⟨rfl, rfl, trivial⟩) ?_
         refine aops_any ?_
         refine aany_step 16 [] (by kernel_rfl) ⟨?_, trivial⟩
         ·
          refine ⟨_, rfl, rfl, ?_⟩
          refine aop_of_aops (ops := #[]) rfl ?_
          refine x_append hf rfl Try.ap31 rfl rfl rfl (.inl rfl) (by first | rfl | (simp only [List.length_map, List.length_nil]; omega) | simp) rfl (by first | rfl | simp [asrc, look]) (by first | (simp only [maxLen, List.length_map, List.length_append, List.length_cons, List.length_nil]; omega) | (simp [maxLen] <;> omega)) (by first | (simp only [List.length_map, List.length_append, List.length_cons, List.length_nil]; omega) | (simp <;> omega)) ?_
          refine aops_le (le_of (sl' := [(37, _)]) ⟨rfl, trivial⟩) ?_
          refine aops_any ?_
          refine aany_step 17 [] (by kernel_rfl) ⟨?_, trivial⟩
          ·
           refine ⟨_, rfl, rfl, ?_⟩
           refine aop_of_aops (ops := #[]) rfl ?_
           refine x_pure rfl (p_assign rfl) ?_
           refine aops_any ?_
           refine aany_end (by kernel_rfl) ?_
           refine hK5 _ ?_
           refine aw_ret ?_
           refine ⟨21, (glueL out s).map spC, by decide, ?_, ?_, rfl⟩
           · rw [glue_t (by omega) (by omega), List.map_append]; rfl
           · rw [glue_t (by omega) (by omega), List.map_append, List.length_append]
             show some (AV.own 21 2 0 (0 + ((out.take (out.length - 1)).map spC).length + 1)) = _
             rw [Nat.zero_add]; rfl
    ·
     refine ⟨_, rfl, rfl, ?_⟩
     refine aop_of_aops (ops := #[]) rfl ?_
     first | refine x_pure rfl (p_load1 rfl Try.g3 rfl) ?_ | refine x_pure rfl (p_load1r rfl Try.g3 rfl rfl) ?_ | refine x_pure rfl (p_load1r rfl Try.g3 rfl (strs_ref (by simp only [List.length_cons] at *; omega))) ?_ | refine x_pure rfl (p_load1r rfl Try.g3 rfl (strs_ref (by omega))) ?_
     refine aops_any ?_
     refine aany_step 5 [11] (by kernel_rfl) ⟨?_, ?_, trivial⟩
     ·
      refine ⟨_, rfl, rfl, ?_⟩
      refine aop_of_aops (ops := #[]) rfl ?_
      refine x_append hf rfl Try.ap31 rfl rfl rfl (.inl rfl) (by first | rfl | (simp only [List.length_map, List.length_nil]; omega) | simp) rfl (asrc_view (l := out) (j := out.length - 1) rfl (by omega) (by omega) (by omega)) (by first | (simp only [maxLen, List.length_map, List.length_append, List.length_cons, List.length_nil]; omega) | (simp [maxLen] <;> omega)) (by first | (simp only [List.length_map, List.length_append, List.length_cons, List.length_nil]; omega) | (simp <;> omega)) ?_
      refine aops_le (le_of (sl' := [(26, _), (31, _), (34, _)]) ⟨rfl, rfl, rfl, trivial⟩) ?_
      refine aops_any ?_
      refine aany_step 11 [] (by kernel_rfl) ⟨?_, trivial⟩
      ·
       refine ⟨_, rfl, rfl, ?_⟩
       refine aop_of_aops (ops := #[]) rfl ?_
       refine x_pure rfl (p_load1r rfl Try.g3 rfl (c := .s (.int .i64 (out[out.length - 1]'(by omega)).1)) (own_cell (c := 2) (k := out.length - 1) (enc := spC) (by omega) (by omega) 0)) ?_
       refine aops_any ?_
       refine aany_step 14 [] (by kernel_rfl) ⟨?_, trivial⟩
       ·
        refine ⟨_, rfl, rfl, ?_⟩
        refine aop_of_aops (ops := #[]) rfl ?_
        refine x_pure rfl (p_build rfl Try.z42 Try.pl42 (by simp [spC, AV.cells, AV.one, Value.oneCell', splice, AV.kill, AV.clean, cleanL, AV.only]) rfl) ?_
        refine aops_any ?_
        refine aany_step 15 [] (by kernel_rfl) ⟨?_, trivial⟩
        ·
         refine ⟨_, rfl, rfl, ?_⟩
         refine aop_of_aops (ops := #[]) rfl ?_
         refine x_step hf rfl (r_buildSlice Try.ap31 rfl rfl rfl rfl (by simp [spC, AV.cells, AV.leaf, Value.oneCell', splice, AV.kill, AV.clean, cleanL, AV.only])) ?_
         refine aops_any ?_
         refine aany_step 16 [] (by kernel_rfl) ⟨?_, trivial⟩
         ·
          refine ⟨_, rfl, rfl, ?_⟩
          refine aop_of_aops (ops := #[]) rfl ?_
          refine x_append hf rfl Try.ap31 rfl rfl rfl (.inl rfl) (by first | rfl | (simp only [List.length_map, List.length_nil]; omega) | simp) rfl (by first | rfl | simp [asrc, look]) (by first | (simp only [maxLen, List.length_map, List.length_append, List.length_cons, List.length_nil]; omega) | (simp [maxLen] <;> omega)) (by first | (simp only [List.length_map, List.length_append, List.length_cons, List.length_nil]; omega) | (simp <;> omega)) ?_
          refine aops_le (le_of (sl' := [(37, _)]) ⟨rfl, trivial⟩) ?_
          refine aops_any ?_
          refine aany_step 17 [] (by kernel_rfl) ⟨?_, trivial⟩
          ·
           refine ⟨_, rfl, rfl, ?_⟩
           refine aop_of_aops (ops := #[]) rfl ?_
           refine x_pure rfl (p_assign rfl) ?_
           refine aops_any ?_
           refine aany_end (by kernel_rfl) ?_
           refine hK5 _ ?_
           refine aw_ret ?_
           refine ⟨21, (glueL out s).map spC, by decide, ?_, ?_, rfl⟩
           · rw [glue_t (by omega) (by omega), List.map_append]; rfl
           · rw [glue_t (by omega) (by omega), List.map_append, List.length_append]
             show some (AV.own 21 2 0 (0 + ((out.take (out.length - 1)).map spC).length + 1)) = _
             rw [Nat.zero_add]; rfl
     ·
      refine ⟨_, rfl, rfl, ?_⟩
      refine aop_of_aops (ops := #[]) rfl ?_
      refine x_pure rfl (p_load1r rfl Try.g3 rfl (c := .s (.int .i64 (out[out.length - 1]'(by omega)).1)) (own_cell (c := 2) (k := out.length - 1) (enc := spC) (by omega) (by omega) 0)) ?_
      refine aops_any ?_
      refine aany_step 5 [14] (by kernel_rfl) ⟨?_, ?_, trivial⟩
      ·
       refine ⟨_, rfl, rfl, ?_⟩
       refine aop_of_aops (ops := #[]) rfl ?_
       refine x_append hf rfl Try.ap31 rfl rfl rfl (.inl rfl) (by first | rfl | (simp only [List.length_map, List.length_nil]; omega) | simp) rfl (asrc_view (l := out) (j := out.length - 1) rfl (by omega) (by omega) (by omega)) (by first | (simp only [maxLen, List.length_map, List.length_append, List.length_cons, List.length_nil]; omega) | (simp [maxLen] <;> omega)) (by first | (simp only [List.length_map, List.length_append, List.length_cons, List.length_nil]; omega) | (simp <;> omega)) ?_
       refine aops_le (le_of (sl' := [(26, _), (32, _), (34, _)]) ⟨rfl, rfl, rfl, trivial⟩) ?_
       refine aops_any ?_
       refine aany_step 14 [] (by kernel_rfl) ⟨?_, trivial⟩
       ·
        refine ⟨_, rfl, rfl, ?_⟩
        refine aop_of_aops (ops := #[]) rfl ?_
        refine x_pure rfl (p_build rfl Try.z42 Try.pl42 (by simp [spC, AV.cells, AV.one, Value.oneCell', splice, AV.kill, AV.clean, cleanL, AV.only]) rfl) ?_
        refine aops_any ?_
        refine aany_step 15 [] (by kernel_rfl) ⟨?_, trivial⟩
        ·
         refine ⟨_, rfl, rfl, ?_⟩
         refine aop_of_aops (ops := #[]) rfl ?_
         refine x_step hf rfl (r_buildSlice Try.ap31 rfl rfl rfl rfl (by simp [spC, AV.cells, AV.leaf, Value.oneCell', splice, AV.kill, AV.clean, cleanL, AV.only])) ?_
         refine aops_any ?_
         refine aany_step 16 [] (by kernel_rfl) ⟨?_, trivial⟩
         ·
          refine ⟨_, rfl, rfl, ?_⟩
          refine aop_of_aops (ops := #[]) rfl ?_
          refine x_append hf rfl Try.ap31 rfl rfl rfl (.inl rfl) (by first | rfl | (simp only [List.length_map, List.length_nil]; omega) | simp) rfl (by first | rfl | simp [asrc, look]) (by first | (simp only [maxLen, List.length_map, List.length_append, List.length_cons, List.length_nil]; omega) | (simp [maxLen] <;> omega)) (by first | (simp only [List.length_map, List.length_append, List.length_cons, List.length_nil]; omega) | (simp <;> omega)) ?_
          refine aops_le (le_of (sl' := [(37, _)]) ⟨rfl, trivial⟩) ?_
          refine aops_any ?_
          refine aany_step 17 [] (by kernel_rfl) ⟨?_, trivial⟩
          ·
           refine ⟨_, rfl, rfl, ?_⟩
           refine aop_of_aops (ops := #[]) rfl ?_
           refine x_pure rfl (p_assign rfl) ?_
           refine aops_any ?_
           refine aany_end (by kernel_rfl) ?_
           refine hK5 _ ?_
           refine aw_ret ?_
           refine ⟨21, (glueL out s).map spC, by decide, ?_, ?_, rfl⟩
           · rw [glue_t (by omega) (by omega), List.map_append]; rfl
           · rw [glue_t (by omega) (by omega), List.map_append, List.length_append]
             show some (AV.own 21 2 0 (0 + ((out.take (out.length - 1)).map spC).length + 1)) = _
             rw [Nat.zero_add]; rfl
      ·
       refine ⟨_, rfl, rfl, ?_⟩
       refine aop_of_aops (ops := #[]) rfl ?_
       refine x_pure rfl (p_build rfl Try.z42 Try.pl42 (by simp [spC, AV.cells, AV.one, Value.oneCell', splice, AV.kill, AV.clean, cleanL, AV.only]) rfl) ?_
       refine aops_any ?_
       refine aany_step 5 [15] (by kernel_rfl) ⟨?_, ?_, trivial⟩
       ·
        refine ⟨_, rfl, rfl, ?_⟩
        refine aop_of_aops (ops := #[]) rfl ?_
        refine x_append hf rfl Try.ap31 rfl rfl rfl (.inl rfl) (by first | rfl | (simp only [List.length_map, List.length_nil]; omega) | simp) rfl (asrc_view (l := out) (j := out.length - 1) rfl (by omega) (by omega) (by omega)) (by first | (simp only [maxLen, List.length_map, List.length_append, List.length_cons, List.length_nil]; omega) | (simp [maxLen] <;> omega)) (by first | (simp only [List.length_map, List.length_append, List.length_cons, List.length_nil]; omega) | (simp <;> omega)) ?_
        refine aops_le (le_of (sl' := [(26, _), (35, _)]) ⟨rfl, rfl, trivial⟩) ?_
        refine aops_any ?_
        refine aany_step 15 [] (by kernel_rfl) ⟨?_, trivial⟩
        ·
         refine ⟨_, rfl, rfl, ?_⟩
         refine aop_of_aops (ops := #[]) rfl ?_
         refine x_step hf rfl (r_buildSlice Try.ap31 rfl rfl rfl rfl (by simp [spC, AV.cells, AV.leaf, Value.oneCell', splice, AV.kill, AV.clean, cleanL, AV.only])) ?_
         refine aops_any ?_
         refine aany_step 16 [] (by kernel_rfl) ⟨?_, trivial⟩
         ·
          refine ⟨_, rfl, rfl, ?_⟩
          refine aop_of_aops (ops := #[]) rfl ?_
          refine x_append hf rfl Try.ap31 rfl rfl rfl (.inl rfl) (by first | rfl | (simp only [List.length_map, List.length_nil]; omega) | simp) rfl (by first | rfl | simp [asrc, look]) (by first | (simp only [maxLen, List.length_map, List.length_append, List.length_cons, List.length_nil]; omega) | (simp [maxLen] <;> omega)) (by first | (simp only [List.length_map, List.length_append, List.length_cons, List.length_nil]; omega) | (simp <;> omega)) ?_
          refine aops_le (le_of (sl' := [(37, _)]) ⟨rfl, trivial⟩) ?_
          refine aops_any ?_
          refine aany_step 17 [] (by kernel_rfl) ⟨?_, trivial⟩
          ·
           refine ⟨_, rfl, rfl, ?_⟩
           refine aop_of_aops (ops := #[]) rfl ?_
           refine x_pure rfl (p_assign rfl) ?_
           refine aops_any ?_
           refine aany_end (by kernel_rfl) ?_
           refine hK5 _ ?_
           refine aw_ret ?_
           refine ⟨21, (glueL out s).map spC, by decide, ?_, ?_, rfl⟩
           · rw [glue_t (by omega) (by omega), List.map_append]; rfl
           · rw [glue_t (by omega) (by omega), List.map_append, List.length_append]
             show some (AV.own 21 2 0 (0 + ((out.take (out.length - 1)).map spC).length + 1)) = _
             rw [Nat.zero_add]; rfl
       ·
        refine ⟨_, rfl, rfl, ?_⟩
        refine aop_of_aops (ops := #[]) rfl ?_
        refine x_step hf rfl (r_buildSlice Try.ap31 rfl rfl rfl rfl (by simp [spC, AV.cells, AV.leaf, Value.oneCell', splice, AV.kill, AV.clean, cleanL, AV.only])) ?_
        refine aops_any ?_
        refine aany_step 5 [] (by kernel_rfl) ⟨?_, trivial⟩
        ·
         refine ⟨_, rfl, rfl, ?_⟩
         refine aop_of_aops (ops := #[]) rfl ?_
         refine x_append hf rfl Try.ap31 rfl rfl rfl (.inl rfl) (by first | rfl | (simp only [List.length_map, List.length_nil]; omega) | simp) rfl (asrc_view (l := out) (j := out.length - 1) rfl (by omega) (by omega) (by omega)) (by first | (simp only [maxLen, List.length_map, List.length_append, List.length_cons, List.length_nil]; omega) | (simp [maxLen] <;> omega)) (by first | (simp only [List.length_map, List.length_append, List.length_cons, List.length_nil]; omega) | (simp <;> omega)) ?_
         refine aops_le (le_of (sl' := [(26, _), (36, _)]) ⟨rfl, rfl, trivial⟩) ?_
         refine aops_any ?_
         refine aany_step 16 [] (by kernel_rfl) ⟨?_, trivial⟩
         ·
          refine ⟨_, rfl, rfl, ?_⟩
          refine aop_of_aops (ops := #[]) rfl ?_
          refine x_append hf rfl Try.ap31 rfl rfl rfl (.inl rfl) (by first | rfl | (simp only [List.length_map, List.length_nil]; omega) | simp) rfl (by first | rfl | simp [asrc, look]) (by first | (simp only [maxLen, List.length_map, List.length_append, List.length_cons, List.length_nil]; omega) | (simp [maxLen] <;> omega)) (by first | (simp only [List.length_map, List.length_append, List.length_cons, List.length_nil]; omega) | (simp <;> omega)) ?_
          refine aops_le (le_of (sl' := [(37, _)]) ⟨rfl, trivial⟩) ?_
          refine aops_any ?_
          refine aany_step 17 [] (by kernel_rfl) ⟨?_, trivial⟩
          ·
           refine ⟨_, rfl, rfl, ?_⟩
           refine aop_of_aops (ops := #[]) rfl ?_
           refine x_pure rfl (p_assign rfl) ?_
           refine aops_any ?_
           refine aany_end (by kernel_rfl) ?_
           refine hK5 _ ?_
           refine aw_ret ?_
           refine ⟨21, (glueL out s).map spC, by decide, ?_, ?_, rfl⟩
           · rw [glue_t (by omega) (by omega), List.map_append]; rfl
           · rw [glue_t (by omega) (by omega), List.map_append, List.length_append]
             show some (AV.own 21 2 0 (0 + ((out.take (out.length - 1)).map spC).length + 1)) = _
             rw [Nat.zero_add]; rfl
   ·
    refine ⟨_, rfl, rfl, ?_⟩
    refine aop_of_aops (ops := #[]) rfl ?_
    refine x_pure rfl (p_load1r rfl Try.g3 rfl (c := .s (.int .i64 (out[out.length - 1]'(by omega)).1)) (own_cell (c := 2) (k := out.length - 1) (enc := spC) (by omega) (by omega) 0)) ?_
    refine aops_any ?_
    refine aany_step 0 [13] (by kernel_rfl) ⟨?_, ?_, trivial⟩
    ·
     refine ⟨_, rfl, rfl, ?_⟩
     refine aop_of_aops (ops := #[]) rfl ?_
     refine y_buildSlice hf rfl rfl rfl Try.ap31 rfl rfl rfl rfl (by simp [spC, AV.cells, AV.leaf, Value.oneCell', splice, AV.kill, AV.clean, cleanL, AV.only]) ?_
     refine aops_any ?_
     refine aany_step 5 [13] (by kernel_rfl) ⟨?_, ?_, trivial⟩
     ·
      refine ⟨_, rfl, rfl, ?_⟩
      refine aop_of_aops (ops := #[]) rfl ?_
      refine x_append hf rfl Try.ap31 rfl rfl rfl (.inl rfl) (by first | rfl | (simp only [List.length_map, List.length_nil]; omega) | simp) rfl (asrc_view (l := out) (j := out.length - 1) rfl (by omega) (by omega) (by omega)) (by first | (simp only [maxLen, List.length_map, List.length_append, List.length_cons, List.length_nil]; omega) | (simp [maxLen] <;> omega)) (by first | (simp only [List.length_map, List.length_append, List.length_cons, List.length_nil]; omega) | (simp <;> omega)) ?_
      refine aops_le (le_of (sl' := [(26, _), (32, _), (33, _)]) ⟨rfl, rfl, rfl, trivial⟩) ?_
      refine aops_any ?_
      refine aany_step 13 [] (by kernel_rfl) ⟨?_, trivial⟩
      ·
       refine ⟨_, rfl, rfl, ?_⟩
       refine aop_of_aops (ops := #[]) rfl ?_
       first | refine x_pure rfl (p_load1 rfl Try.g3 rfl) ?_ | refine x_pure rfl (p_load1r rfl Try.g3 rfl rfl) ?_ | refine x_pure rfl (p_load1r rfl Try.g3 rfl (strs_ref (by simp only [List.length_cons] at *; omega))) ?_ | refine x_pure rfl (p_load1r rfl Try.g3 rfl (strs_ref (by omega))) ?_
       refine aops_any ?_
       refine aany_step 14 [] (by kernel_rfl) ⟨?_, trivial⟩
       ·
        refine ⟨_, rfl, rfl, ?_⟩
        refine aop_of_aops (ops := #[]) rfl ?_
        refine x_pure rfl (p_build rfl Try.z42 Try.pl42 (by simp [spC, AV.cells, AV.one, Value.oneCell', splice, AV.kill, AV.clean, cleanL, AV.only]) rfl) ?_
        refine aops_any ?_
        refine aany_step 15 [] (by kernel_rfl) ⟨?_, trivial⟩
        ·
         refine ⟨_, rfl, rfl, ?_⟩
         refine aop_of_aops (ops := #[]) rfl ?_
         refine x_step hf rfl (r_buildSlice Try.ap31 rfl rfl rfl rfl (by simp [spC, AV.cells, AV.leaf, Value.oneCell', splice, AV.kill, AV.clean, cleanL, AV.only])) ?_
         refine aops_any ?_
         refine aany_step 16 [] (by kernel_rfl) ⟨?_, trivial⟩
         ·
          refine ⟨_, rfl, rfl, ?_⟩
          refine aop_of_aops (ops := #[]) rfl ?_
          refine x_append hf rfl Try.ap31 rfl rfl rfl (.inl rfl) (by first | rfl | (simp only [List.length_map, List.length_nil]; omega) | simp) rfl (by first | rfl | simp [asrc, look]) (by first | (simp only [maxLen, List.length_map, List.length_append, List.length_cons, List.length_nil]; omega) | (simp [maxLen] <;> omega)) (by first | (simp only [List.length_map, List.length_append, List.length_cons, List.length_nil]; omega) | (simp <;> omega)) ?_
          refine aops_le (le_of (sl' := [(37, _)]) ⟨rfl, trivial⟩) ?_
          refine aops_any ?_
          refine aany_step 17 [] (by kernel_rfl) ⟨?_, trivial⟩
          ·
           refine ⟨_, rfl, rfl, ?_⟩
           refine aop_of_aops (ops := #[]) rfl ?_
           refine x_pure rfl (p_assign rfl) ?_
           refine aops_any ?_
           refine aany_end (by kernel_rfl) ?_
           refine hK5 _ ?_
           refine aw_ret ?_
           refine ⟨21, (glueL out s).map spC, by decide, ?_, ?_, rfl⟩
           · rw [glue_t (by omega) (by omega), List.map_append]; rfl
           · rw [glue_t (by omega) (by omega), List.map_append, List.length_append]
             show some (AV.own 21 2 0 (0 + ((out.take (out.length - 1)).map spC).length + 1)) = _
             rw [Nat.zero_add]; rfl
     ·
      refine ⟨_, rfl, rfl, ?_⟩
      refine aop_of_aops (ops := #[]) rfl ?_
      first | refine x_pure rfl (p_load1 rfl Try.g3 rfl) ?_ | refine x_pure rfl (p_load1r rfl Try.g3 rfl rfl) ?_ | refine x_pure rfl (p_load1r rfl Try.g3 rfl (strs_ref (by simp only [List.length_cons] at *; omega))) ?_ | refine x_pure rfl (p_load1r rfl Try.g3 rfl (strs_ref (by omega))) ?_
      refine aops_any ?_
      refine aany_step 5 [14] (by kernel_rfl) ⟨?_, ?_, trivial⟩
      ·
       refine ⟨_, rfl, rfl, ?_⟩
       refine aop_of_aops (ops := #[]) rfl ?_
       refine x_append hf rfl Try.ap31 rfl rfl rfl (.inl rfl) (by first | rfl | (simp only [List.length_map, List.length_nil]; omega) | simp) rfl (asrc_view (l := out) (j := out.length - 1) rfl (by omega) (by omega) (by omega)) (by first | (simp only [maxLen, List.length_map, List.length_append, List.length_cons, List.length_nil]; omega) | (simp [maxLen] <;> omega)) (by first | (simp only [List.length_map, List.length_append, List.length_cons, List.length_nil]; omega) | (simp <;> omega)) ?_
       refine aops_le (le_of (sl' := [(26, _), (32, _), (34, _)]) ⟨rfl, rfl, rfl, trivial⟩) ?_
       refine aops_any ?_
       refine aany_step 14 [] (by kernel_rfl) ⟨?_, trivial⟩
       ·
        refine ⟨_, rfl, rfl, ?_⟩
        refine aop_of_aops (ops := #[]) rfl ?_
        refine x_pure rfl (p_build rfl Try.z42 Try.pl42 (by simp [spC, AV.cells, AV.one, Value.oneCell', splice, AV.kill, AV.clean, cleanL, AV.only]) rfl) ?_
        refine aops_any ?_
        refine aany_step 15 [] (by kernel_rfl) ⟨?_, trivial⟩
        ·
         refine ⟨_, rfl, rfl, ?_⟩
         refine aop_of_aops (ops := #[]) rfl ?_
         refine x_step hf rfl (r_buildSlice Try.ap31 rfl rfl rfl rfl (by simp [spC, AV.cells, AV.leaf, Value.oneCell', splice, AV.kill, AV.clean, cleanL, AV.only])) ?_
         refine aops_any ?_
         refine aany_step 16 [] (by kernel_rfl) ⟨?_, trivial⟩
         ·
          refine ⟨_, rfl, rfl, ?_⟩
          refine aop_of_aops (ops := #[]) rfl ?_
          refine x_append hf rfl Try.ap31 rfl rfl rfl (.inl rfl) (by first | rfl | (simp only [List.length_map, List.length_nil]; omega) | simp) rfl (by first | rfl | simp [asrc, look]) (by first | (simp only [maxLen, List.length_map, List.length_append, List.length_cons, List.length_nil]; omega) | (simp [maxLen] <;> omega)) (by first | (simp only [List.length_map, List.length_append, List.length_cons, List.length_nil]; omega) | (simp <;> omega)) ?_
          refine aops_le (le_of (sl' := [(37, _)]) ⟨rfl, trivial⟩) ?_
          refine aops_any ?_
          refine aany_step 17 [] (by kernel_rfl) ⟨?_, trivial⟩
          ·
           refine ⟨_, rfl, rfl, ?_⟩
           refine aop_of_aops (ops := #[]) rfl ?_
           refine x_pure rfl (p_assign rfl) ?_
           refine aops_any ?_
           refine aany_end (by kernel_rfl) ?_
           refine hK5 _ ?_
           refine aw_ret ?_
           refine ⟨21, (glueL out s).map spC, by decide, ?_, ?_, rfl⟩
           · rw [glue_t (by omega) (by omega), List.map_append]; rfl
           · rw [glue_t (by omega) (by omega), List.map_append, List.length_append]
             show some (AV.own 21 2 0 (0 + ((out.take (out.length - 1)).map spC).length + 1)) = _
             rw [Nat.zero_add]; rfl
      ·
       refine ⟨_, rfl, rfl, ?_⟩
       refine aop_of_aops (ops := #[]) rfl ?_
       refine x_pure rfl (p_build rfl Try.z42 Try.pl42 (by simp [spC, AV.cells, AV.one, Value.oneCell', splice, AV.kill, AV.clean, cleanL, AV.only]) rfl) ?_
       refine aops_any ?_
       refine aany_step 5 [15] (by kernel_rfl) ⟨?_, ?_, trivial⟩
       ·
        refine ⟨_, rfl, rfl, ?_⟩
        refine aop_of_aops (ops := #[]) rfl ?_
        refine x_append hf rfl Try.ap31 rfl rfl rfl (.inl rfl) (by first | rfl | (simp only [List.length_map, List.length_nil]; omega) | simp) rfl (asrc_view (l := out) (j := out.length - 1) rfl (by omega) (by omega) (by omega)) (by first | (simp only [maxLen, List.length_map, List.length_append, List.length_cons, List.length_nil]; omega) | (simp [maxLen] <;> omega)) (by first | (simp only [List.length_map, List.length_append, List.length_cons, List.length_nil]; omega) | (simp <;> omega)) ?_
        refine aops_le (le_of (sl' := [(26, _), (35, _)]) ⟨rfl, rfl, trivial⟩) ?_
        refine aops_any ?_
        refine aany_step 15 [] (by kernel_rfl) ⟨?_, trivial⟩
        ·
         refine ⟨_, rfl, rfl, ?_⟩
         refine aop_of_aops (ops := #[]) rfl ?_
         refine x_step hf rfl (r_buildSlice Try.ap31 rfl rfl rfl rfl (by simp [spC, AV.cells, AV.leaf, Value.oneCell', splice, AV.kill, AV.clean, cleanL, AV.only])) ?_
         refine aops_any ?_
         refine aany_step 16 [] (by kernel_rfl) ⟨?_, trivial⟩
         ·
          refine ⟨_, rfl, rfl, ?_⟩
          refine aop_of_aops (ops := #[]) rfl ?_
          refine x_append hf rfl Try.ap31 rfl rfl rfl (.inl rfl) (by first | rfl | (simp only [List.length_map, List.length_nil]; omega) | simp) rfl (by first | rfl | simp [asrc, look]) (by first | (simp only [maxLen, List.length_map, List.length_append, List.length_cons, List.length_nil]; omega) | (simp [maxLen] <;> omega)) (by first | (simp only [List.length_map, List.length_append, List.length_cons, List.length_nil]; omega) | (simp <;> omega)) ?_
          refine aops_le (le_of (sl' := [(37, _)]) ⟨rfl, trivial⟩) ?_
          refine aops_any ?_
          refine aany_step 17 [] (by kernel_rfl) ⟨?_, trivial⟩
          ·
           refine ⟨_, rfl, rfl, ?_⟩
           refine aop_of_aops (ops := #[]) rfl ?_
           refine x_pure rfl (p_assign rfl) ?_
           refine aops_any ?_
           refine aany_end (by kernel_rfl) ?_
           refine hK5 _ ?_
           refine aw_ret ?_
           refine ⟨21, (glueL out s).map spC, by decide, ?_, ?_, rfl⟩
           · rw [glue_t (by omega) (by omega), List.map_append]; rfl
           · rw [glue_t (by omega) (by omega), List.map_append, List.length_append]
             show some (AV.own 21 2 0 (0 + ((out.take (out.length - 1)).map spC).length + 1)) = _
             rw [Nat.zero_add]; rfl
       ·
        refine ⟨_, rfl, rfl, ?_⟩
        refine aop_of_aops (ops := #[]) rfl ?_
        refine x_step hf rfl (r_buildSlice Try.ap31 rfl rfl rfl rfl (by simp [spC, AV.cells, AV.leaf, Value.oneCell', splice, AV.kill, AV.clean, cleanL, AV.only])) ?_
        refine aops_any ?_
        refine aany_step 5 [] (by kernel_rfl) ⟨?_, trivial⟩
        ·
         refine ⟨_, rfl, rfl, ?_⟩
         refine aop_of_aops (ops := #[]) rfl ?_
         refine x_append hf rfl Try.ap31 rfl rfl rfl (.inl rfl) (by first | rfl | (simp only [List.length_map, List.length_nil]; omega) | simp) rfl (asrc_view (l := out) (j := out.length - 1) rfl (by omega) (by omega) (by omega)) (by first | (simp only [maxLen, List.length_map, List.length_append, List.length_cons, List.length_nil]; omega) | (simp [maxLen] <;> omega)) (by first | (simp only [List.length_map, List.length_append, List.length_cons, List.length_nil]; omega) | (simp <;> omega)) ?_
         refine aops_le (le_of (sl' := [(26, _), (36, _)]) ⟨rfl, rfl, trivial⟩) ?_
         refine aops_any ?_
         refine aany_step 16 [] (by kernel_rfl) ⟨?_, trivial⟩
         ·
          refine ⟨_, rfl, rfl, ?_⟩
          refine aop_of_aops (ops := #[]) rfl ?_
          refine x_append hf rfl Try.ap31 rfl rfl rfl (.inl rfl) (by first | rfl | (simp only [List.length_map, List.length_nil]; omega) | simp) rfl (by first | rfl | simp [asrc, look]) (by first | (simp only [maxLen, List.length_map, List.length_append, List.length_cons, List.length_nil]; omega) | (simp [maxLen] <;> omega)) (by first | (simp only [List.length_map, List.length_append, List.length_cons, List.length_nil]; omega) | (simp <;> omega)) ?_
          refine aops_le (le_of (sl' := [(37, _)]) ⟨rfl, trivial⟩) ?_
          refine aops_any ?_
          refine aany_step 17 [] (by kernel_rfl) ⟨?_, trivial⟩
          ·
           refine ⟨_, rfl, rfl, ?_⟩
           refine aop_of_aops (ops := #[]) rfl ?_
           refine x_pure rfl (p_assign rfl) ?_
           refine aops_any ?_
           refine aany_end (by kernel_rfl) ?_
           refine hK5 _ ?_
           refine aw_ret ?_
           refine ⟨21, (glueL out s).map spC, by decide, ?_, ?_, rfl⟩
           · rw [glue_t (by omega) (by omega), List.map_append]; rfl
           · rw [glue_t (by omega) (by omega), List.map_append, List.length_append]
             show some (AV.own 21 2 0 (0 + ((out.take (out.length - 1)).map spC).length + 1)) = _
             rw [Nat.zero_add]; rfl
    ·
     refine ⟨_, rfl, rfl, ?_⟩
     refine aop_of_aops (ops := #[]) rfl ?_
     first | refine x_pure rfl (p_load1 rfl Try.g3 rfl) ?_ | refine x_pure rfl (p_load1r rfl Try.g3 rfl rfl) ?_ | refine x_pure rfl (p_load1r rfl Try.g3 rfl (strs_ref (by simp only [List.length_cons] at *; omega))) ?_ | refine x_pure rfl (p_load1r rfl Try.g3 rfl (strs_ref (by omega))) ?_
     refine aops_any ?_
     refine aany_step 0 [14] (by kernel_rfl) ⟨?_, ?_, trivial⟩
     ·
      refine ⟨_, rfl, rfl, ?_⟩
      refine aop_of_aops (ops := #[]) rfl ?_
      refine y_buildSlice hf rfl rfl rfl Try.ap31 rfl rfl rfl rfl (by simp [spC, AV.cells, AV.leaf, Value.oneCell', splice, AV.kill, AV.clean, cleanL, AV.only]) ?_
      refine aops_any ?_
      refine aany_step 5 [14] (by kernel_rfl) ⟨?_, ?_, trivial⟩
      ·
       refine ⟨_, rfl, rfl, ?_⟩
       refine aop_of_aops (ops := #[]) rfl ?_
       refine x_append hf rfl Try.ap31 rfl rfl rfl (.inl rfl) (by first | rfl | (simp only [List.length_map, List.length_nil]; omega) | simp) rfl (asrc_view (l := out) (j := out.length - 1) rfl (by omega) (by omega) (by omega)) (by first | (simp only [maxLen, List.length_map, List.length_append, List.length_cons, List.length_nil]; omega) | (simp [maxLen] <;> omega)) (by first | (simp only [List.length_map, List.length_append, List.length_cons, List.length_nil]; omega) | (simp <;> omega)) ?_
       refine aops_le (le_of (sl' := [(26, _), (32, _), (34, _)]) ⟨rfl, rfl, rfl, trivial⟩) ?_
       refine aops_any ?_
       refine aany_step 14 [] (by kernel_rfl) ⟨?_, trivial⟩
       ·
        refine ⟨_, rfl, rfl, ?_⟩
        refine aop_of_aops (ops := #[]) rfl ?_
        refine x_pure rfl (p_build rfl Try.z42 Try.pl42 (by simp [spC, AV.cells, AV.one, Value.oneCell', splice, AV.kill, AV.clean, cleanL, AV.only]) rfl) ?_
        refine aops_any ?_
        refine aany_step 15 [] (by kernel_rfl) ⟨?_, trivial⟩
        ·
         refine ⟨_, rfl, rfl, ?_⟩
         refine aop_of_aops (ops := #[]) rfl ?_
         refine x_step hf rfl (r_buildSlice Try.ap31 rfl rfl rfl rfl (by simp [spC, AV.cells, AV.leaf, Value.oneCell', splice, AV.kill, AV.clean, cleanL, AV.only])) ?_
         refine aops_any ?_
         refine aany_step 16 [] (by kernel_rfl) ⟨?_, trivial⟩
         ·
          refine ⟨_, rfl, rfl, ?_⟩
          refine aop_of_aops (ops := #[]) rfl ?_
          refine x_append hf rfl Try.ap31 rfl rfl rfl (.inl rfl) (by first | rfl | (simp only [List.length_map, List.length_nil]; omega) | simp) rfl (by first | rfl | simp [asrc, look]) (by first | (simp only [maxLen, List.length_map, List.length_append, List.length_cons, List.length_nil]; omega) | (simp [maxLen] <;> omega)) (by first | (simp only [List.length_map, List.length_append, List.length_cons, List.length_nil]; omega) | (simp <;> omega)) ?_
          refine aops_le (le_of (sl' := [(37, _)]) ⟨rfl, trivial⟩) ?_
          refine aops_any ?_
          refine aany_step 17 [] (by kernel_rfl) ⟨?_, trivial⟩
          ·
           refine ⟨_, rfl, rfl, ?_⟩
           refine aop_of_aops (ops := #[]) rfl ?_
           refine x_pure rfl (p_assign rfl) ?_
           refine aops_any ?_
           refine aany_end (by kernel_rfl) ?_
           refine hK5 _ ?_
           refine aw_ret ?_
           refine ⟨21, (glueL out s).map spC, by decide, ?_, ?_, rfl⟩
           · rw [glue_t (by omega) (by omega), List.map_append]; rfl
           · rw [glue_t (by omega) (by omega), List.map_append, List.length_append]
             show some (AV.own 21 2 0 (0 + ((out.take (out.length - 1)).map spC).length + 1)) = _
             rw [Nat.zero_add]; rfl
      ·
       refine ⟨_, rfl, rfl, ?_⟩
       refine aop_of_aops (ops := #[]) rfl ?_
       refine x_pure rfl (p_build rfl Try.z42 Try.pl42 (by simp [spC, AV.cells, AV.one, Value.oneCell', splice, AV.kill, AV.clean, cleanL, AV.only]) rfl) ?_
       refine aops_any ?_
       refine aany_step 5 [15] (by kernel_rfl) ⟨?_, ?_, trivial⟩
       ·
        refine ⟨_, rfl, rfl, ?_⟩
        refine aop_of_aops (ops := #[]) rfl ?_
        refine x_append hf rfl Try.ap31 rfl rfl rfl (.inl rfl) (by first | rfl | (simp only [List.length_map, List.length_nil]; omega) | simp) rfl (asrc_view (l := out) (j := out.length - 1) rfl (by omega) (by omega) (by omega)) (by first | (simp only [maxLen, List.length_map, List.length_append, List.length_cons, List.length_nil]; omega) | (simp [maxLen] <;> omega)) (by first | (simp only [List.length_map, List.length_append, List.length_cons, List.length_nil]; omega) | (simp <;> omega)) ?_
        refine aops_le (le_of (sl' := [(26, _), (35, _)]) ⟨rfl, rfl, trivial⟩) ?_
        refine aops_any ?_
        refine aany_step 15 [] (by kernel_rfl) ⟨?_, trivial⟩
        ·
         refine ⟨_, rfl, rfl, ?_⟩
         refine aop_of_aops (ops := #[]) rfl ?_
         refine x_step hf rfl (r_buildSlice Try.ap31 rfl rfl rfl rfl (by simp [spC, AV.cells, AV.leaf, Value.oneCell', splice, AV.kill, AV.clean, cleanL, AV.only])) ?_
         refine aops_any ?_
         refine aany_step 16 [] (by kernel_rfl) ⟨?_, trivial⟩
         ·
          refine ⟨_, rfl, rfl, ?_⟩
          refine aop_of_aops (ops := #[]) rfl ?_
          refine x_append hf rfl Try.ap31 rfl rfl rfl (.inl rfl) (by first | rfl | (simp only [List.length_map, List.length_nil]; omega) | simp) rfl (by first | rfl | simp [asrc, look]) (by first | (simp only [maxLen, List.length_map, List.length_append, List.length_cons, List.length_nil]; omega) | (simp [maxLen] <;> omega)) (by first | (simp only [List.length_map, List.length_append, List.length_cons, List.length_nil]; omega) | (simp <;> omega)) ?_
          refine aops_le (le_of (sl' := [(37, _)]) ⟨rfl, trivial⟩) ?_
          refine aops_any ?_
          refine aany_step 17 [] (by kernel_rfl) ⟨?_, trivial⟩
          ·
           refine ⟨_, rfl, rfl, ?_⟩
           refine aop_of_aops (ops := #[]) rfl ?_
           refine x_pure rfl (p_assign rfl) ?_
           refine aops_any ?_
           refine aany_end (by kernel_rfl) ?_
           refine hK5 _ ?_
           refine aw_ret ?_
           refine ⟨21, (glueL out s).map spC, by decide, ?_, ?_, rfl⟩
           · rw [glue_t (by omega) (by omega), List.map_append]; rfl
           · rw [glue_t (by omega) (by omega), List.map_append, List.length_append]
             show some (AV.own 21 2 0 (0 + ((out.take (out.length - 1)).map spC).length + 1)) = _
             rw [Nat.zero_add]; rfl
       ·
        refine ⟨_, rfl, rfl, ?_⟩
        refine aop_of_aops (ops := #[]) rfl ?_
        refine x_step hf rfl (r_buildSlice Try.ap31 rfl rfl rfl rfl (by simp [spC, AV.cells, AV.leaf, Value.oneCell', splice, AV.kill, AV.clean, cleanL, AV.only])) ?_
        refine aops_any ?_
        refine aany_step 5 [] (by kernel_rfl) ⟨?_, trivial⟩
        ·
         refine ⟨_, rfl, rfl, ?_⟩
         refine aop_of_aops (ops := #[]) rfl ?_
         refine x_append hf rfl Try.ap31 rfl rfl rfl (.inl rfl) (by first | rfl | (simp only [List.length_map, List.length_nil]; omega) | simp) rfl (asrc_view (l := out) (j := out.length - 1) rfl (by omega) (by omega) (by omega)) (by first | (simp only [maxLen, List.length_map, List.length_append, List.length_cons, List.length_nil]; omega) | (simp [maxLen] <;> omega)) (by first | (simp only [List.length_map, List.length_append, List.length_cons, List.length_nil]; omega) | (simp <;> omega)) ?_
         refine aops_le (le_of (sl' := [(26, _), (36, _)]) ⟨rfl, rfl, trivial⟩) ?_
         refine aops_any ?_
         refine aany_step 16 [] (by kernel_rfl) ⟨?_, trivial⟩
         ·
          refine ⟨_, rfl, rfl, ?_⟩
          refine aop_of_aops (ops := #[]) rfl ?_
          refine x_append hf rfl Try.ap31 rfl rfl rfl (.inl rfl) (by first | rfl | (simp only [List.length_map, List.length_nil]; omega) | simp) rfl (by first | rfl | simp [asrc, look]) (by first | (simp only [maxLen, List.length_map, List.length_append, List.length_cons, List.length_nil]; omega) | (simp [maxLen] <;> omega)) (by first | (simp only [List.length_map, List.length_append, List.length_cons, List.length_nil]; omega) | (simp <;> omega)) ?_
          refine aops_le (le_of (sl' := [(37, _)]) ⟨rfl, trivial⟩) ?_
          refine aops_any ?_
          refine aany_step 17 [] (by kernel_rfl) ⟨?_, trivial⟩
          ·
           refine ⟨_, rfl, rfl, ?_⟩
           refine aop_of_aops (ops := #[]) rfl ?_
           refine x_pure rfl (p_assign rfl) ?_
           refine aops_any ?_
           refine aany_end (by kernel_rfl) ?_
           refine hK5 _ ?_
           refine aw_ret ?_
           refine ⟨21, (glueL out s).map spC, by decide, ?_, ?_, rfl⟩
           · rw [glue_t (by omega) (by omega), List.map_append]; rfl
           · rw [glue_t (by omega) (by omega), List.map_append, List.length_append]
             show some (AV.own 21 2 0 (0 + ((out.take (out.length - 1)).map spC).length + 1)) = _
             rw [Nat.zero_add]; rfl
     ·
      refine ⟨_, rfl, rfl, ?_⟩
      refine aop_of_aops (ops := #[]) rfl ?_
      refine x_pure rfl (p_build rfl Try.z42 Try.pl42 (by simp [spC, AV.cells, AV.one, Value.oneCell', splice, AV.kill, AV.clean, cleanL, AV.only]) rfl) ?_
      refine aops_any ?_
      refine aany_step 0 [15] (by kernel_rfl) ⟨?_, ?_, trivial⟩
      ·
       refine ⟨_, rfl, rfl, ?_⟩
       refine aop_of_aops (ops := #[]) rfl ?_
       refine y_buildSlice hf rfl rfl rfl Try.ap31 rfl rfl rfl rfl (by simp [spC, AV.cells, AV.leaf, Value.oneCell', splice, AV.kill, AV.clean, cleanL, AV.only]) ?_
       refine aops_any ?_
       refine aany_step 5 [15] (by kernel_rfl) ⟨?_, ?_, trivial⟩
       ·
        refine ⟨_, rfl, rfl, ?_⟩
        refine aop_of_aops (ops := #[]) rfl ?_
        refine x_append hf rfl Try.ap31 rfl rfl rfl (.inl rfl) (by first | rfl | (simp only [List.length_map, List.length_nil]; omega) | simp) rfl (asrc_view (l := out) (j := out.length - 1) rfl (by omega) (by omega) (by omega)) (by first | (simp only [maxLen, List.length_map, List.length_append, List.length_cons, List.length_nil]; omega) | (simp [maxLen] <;> omega)) (by first | (simp only [List.length_map, List.length_append, List.length_cons, List.length_nil]; omega) | (simp <;> omega)) ?_
        refine aops_le (le_of (sl' := [(26, _), (35, _)]) ⟨rfl, rfl, trivial⟩) ?_
        refine aops_any ?_
        refine aany_step 15 [] (by kernel_rfl) ⟨?_, trivial⟩
        ·
         refine ⟨_, rfl, rfl, ?_⟩
         refine aop_of_aops (ops := #[]) rfl ?_
         refine x_step hf rfl (r_buildSlice Try.ap31 rfl rfl rfl rfl (by simp [spC, AV.cells, AV.leaf, Value.oneCell', splice, AV.kill, AV.clean, cleanL, AV.only])) ?_
         refine aops_any ?_
         refine aany_step 16 [] (by kernel_rfl) ⟨?_, trivial⟩
         ·
          refine ⟨_, rfl, rfl, ?_⟩
          refine aop_of_aops (ops := #[]) rfl ?_
          refine x_append hf rfl Try.ap31 rfl rfl rfl (.inl rfl) (by first | rfl | (simp only [List.length_map, List.length_nil]; omega) | simp) rfl (by first | rfl | simp [asrc, look]) (by first | (simp only [maxLen, List.length_map, List.length_append, List.length_cons, List.length_nil]; omega) | (simp [maxLen] <;> omega)) (by first | (simp only [List.length_map, List.length_append, List.length_cons, List.length_nil]; omega) | (simp <;> omega)) ?_
          refine aops_le (le_of (sl' := [(37, _)]) ⟨rfl, trivial⟩) ?_
          refine aops_any ?_
          refine aany_step 17 [] (by kernel_rfl) ⟨?_, trivial⟩
          ·
           refine ⟨_, rfl, rfl, ?_⟩
           refine aop_of_aops (ops := #[]) rfl ?_
           refine x_pure rfl (p_assign rfl) ?_
           refine aops_any ?_
           refine aany_end (by kernel_rfl) ?_
           refine hK5 _ ?_
           refine aw_ret ?_
           refine ⟨21, (glueL out s).map spC, by decide, ?_, ?_, rfl⟩
           · rw [glue_t (by omega) (by omega), List.map_append]; rfl
           · rw [glue_t (by omega) (by omega), List.map_append, List.length_append]
             show some (AV.own 21 2 0 (0 + ((out.take (out.length - 1)).map spC).length + 1)) = _
             rw [Nat.zero_add]; rfl
       ·
        refine ⟨_, rfl, rfl, ?_⟩
        refine aop_of_aops (ops := #[]) rfl ?_
        refine x_step hf rfl (r_buildSlice Try.ap31 rfl rfl rfl rfl (by simp [spC, AV.cells, AV.leaf, Value.oneCell', splice, AV.kill, AV.clean, cleanL, AV.only])) ?_
        refine aops_any ?_
        refine aany_step 5 [] (by kernel_rfl) ⟨?_, trivial⟩
        ·
         refine ⟨_, rfl, rfl, ?_⟩
         refine aop_of_aops (ops := #[]) rfl ?_
         refine x_append hf rfl Try.ap31 rfl rfl rfl (.inl rfl) (by first | rfl | (simp only [List.length_map, List.length_nil]; omega) | simp) rfl (asrc_view (l := out) (j := out.length - 1) rfl (by omega) (by omega) (by omega)) (by first | (simp only [maxLen, List.length_map, List.length_append, List.length_cons, List.length_nil]; omega) | (simp [maxLen] <;> omega)) (by first | (simp only [List.length_map, List.length_append, List.length_cons, List.length_nil]; omega) | (simp <;> omega)) ?_
         refine aops_le (le_of (sl' := [(26, _), (36, _)]) ⟨rfl, rfl, trivial⟩) ?_
         refine aops_any ?_
         refine aany_step 16 [] (by kernel_rfl) ⟨?_, trivial⟩
         ·
          refine ⟨_, rfl, rfl, ?_⟩
          refine aop_of_aops (ops := #[]) rfl ?_
          refine x_append hf rfl Try.ap31 rfl rfl rfl (.inl rfl) (by first | rfl | (simp only [List.length_map, List.length_nil]; omega) | simp) rfl (by first | rfl | simp [asrc, look]) (by first | (simp only [maxLen, List.length_map, List.length_append, List.length_cons, List.length_nil]; omega) | (simp [maxLen] <;> omega)) (by first | (simp only [List.length_map, List.length_append, List.length_cons, List.length_nil]; omega) | (simp <;> omega)) ?_
          refine aops_le (le_of (sl' := [(37, _)]) ⟨rfl, trivial⟩) ?_
          refine aops_any ?_
          refine aany_step 17 [] (by kernel_rfl) ⟨?_, trivial⟩
          ·
           refine ⟨_, rfl, rfl, ?_⟩
           refine aop_of_aops (ops := #[]) rfl ?_
           refine x_pure rfl (p_assign rfl) ?_
           refine aops_any ?_
           refine aany_end (by kernel_rfl) ?_
           refine hK5 _ ?_
           refine aw_ret ?_
           refine ⟨21, (glueL out s).map spC, by decide, ?_, ?_, rfl⟩
           · rw [glue_t (by omega) (by omega), List.map_append]; rfl
           · rw [glue_t (by omega) (by omega), List.map_append, List.length_append]
             show some (AV.own 21 2 0 (0 + ((out.take (out.length - 1)).map spC).length + 1)) = _
             rw [Nat.zero_add]; rfl
      ·
       refine ⟨_, rfl, rfl, ?_⟩
       refine aop_of_aops (ops := #[]) rfl ?_
       refine x_step hf rfl (r_buildSlice Try.ap31 rfl rfl rfl rfl (by simp [spC, AV.cells, AV.leaf, Value.oneCell', splice, AV.kill, AV.clean, cleanL, AV.only])) ?_
       refine aops_any ?_
       refine aany_step 0 [] (by kernel_rfl) ⟨?_, trivial⟩
       ·
        refine ⟨_, rfl, rfl, ?_⟩
        refine aop_of_aops (ops := #[]) rfl ?_
        refine y_buildSlice hf rfl rfl rfl Try.ap31 rfl rfl rfl rfl (by simp [spC, AV.cells, AV.leaf, Value.oneCell', splice, AV.kill, AV.clean, cleanL, AV.only]) ?_
        refine aops_any ?_
        refine aany_step 5 [] (by kernel_rfl) ⟨?_, trivial⟩
        ·
         refine ⟨_, rfl, rfl, ?_⟩
         refine aop_of_aops (ops := #[]) rfl ?_
         refine x_append hf rfl Try.ap31 rfl rfl rfl (.inl rfl) (by first | rfl | (simp only [List.length_map, List.length_nil]; omega) | simp) rfl (asrc_view (l := out) (j := out.length - 1) rfl (by omega) (by omega) (by omega)) (by first | (simp only [maxLen, List.length_map, List.length_append, List.length_cons, List.length_nil]; omega) | (simp [maxLen] <;> omega)) (by first | (simp only [List.length_map, List.length_append, List.length_cons, List.length_nil]; omega) | (simp <;> omega)) ?_
         refine aops_le (le_of (sl' := [(26, _), (36, _)]) ⟨rfl, rfl, trivial⟩) ?_
         refine aops_any ?_
         refine aany_step 16 [] (by kernel_rfl) ⟨?_, trivial⟩
         ·
          refine ⟨_, rfl, rfl, ?_⟩
          refine aop_of_aops (ops := #[]) rfl ?_
          refine x_append hf rfl Try.ap31 rfl rfl rfl (.inl rfl) (by first | rfl | (simp only [List.length_map, List.length_nil]; omega) | simp) rfl (by first | rfl | simp [asrc, look]) (by first | (simp only [maxLen, List.length_map, List.length_append, List.length_cons, List.length_nil]; omega) | (simp [maxLen] <;> omega)) (by first | (simp only [List.length_map, List.length_append, List.length_cons, List.length_nil]; omega) | (simp <;> omega)) ?_
          refine aops_le (le_of (sl' := [(37, _)]) ⟨rfl, trivial⟩) ?_
          refine aops_any ?_
          refine aany_step 17 [] (by kernel_rfl) ⟨?_, trivial⟩
          ·
           refine ⟨_, rfl, rfl, ?_⟩
           refine aop_of_aops (ops := #[]) rfl ?_
           refine x_pure rfl (p_assign rfl) ?_
           refine aops_any ?_
           refine aany_end (by kernel_rfl) ?_
           refine hK5 _ ?_
           refine aw_ret ?_
           refine ⟨21, (glueL out s).map spC, by decide, ?_, ?_, rfl⟩
           · rw [glue_t (by omega) (by omega), List.map_append]; rfl
           · rw [glue_t (by omega) (by omega), List.map_append, List.length_append]
             show some (AV.own 21 2 0 (0 + ((out.take (out.length - 1)).map spC).length + 1)) = _
             rw [Nat.zero_add]; rfl
   ·
    refine ⟨_, rfl, rfl, ?_⟩
    refine aop_of_aops (ops := #[]) rfl ?_
    first | refine x_pure rfl (p_load1 rfl Try.g3 rfl) ?_ | refine x_pure rfl (p_load1r rfl Try.g3 rfl rfl) ?_ | refine x_pure rfl (p_load1r rfl Try.g3 rfl (strs_ref (by simp only [List.length_cons] at *; omega))) ?_ | refine x_pure rfl (p_load1r rfl Try.g3 rfl (strs_ref (by omega))) ?_
    refine aops_any ?_
    refine aany_step 0 [11] (by kernel_rfl) ⟨?_, ?_, trivial⟩
    ·
     refine ⟨_, rfl, rfl, ?_⟩
     refine aop_of_aops (ops := #[]) rfl ?_
     refine y_buildSlice hf rfl rfl rfl Try.ap31 rfl rfl rfl rfl (by simp [spC, AV.cells, AV.leaf, Value.oneCell', splice, AV.kill, AV.clean, cleanL, AV.only]) ?_
     refine aops_any ?_
     refine aany_step 5 [11] (by kernel_rfl) ⟨?_, ?_, trivial⟩
     ·
      refine ⟨_, rfl, rfl, ?_⟩
      refine aop_of_aops (ops := #[]) rfl ?_
      refine x_append hf rfl Try.ap31 rfl rfl rfl (.inl rfl) (by first | rfl | (simp only [List.length_map, List.length_nil]; omega) | simp) rfl (asrc_view (l := out) (j := out.length - 1) rfl (by omega) (by omega) (by omega)) (by first | (simp only [maxLen, List.length_map, List.length_append, List.length_cons, List.length_nil]; omega) | (simp [maxLen] <;> omega)) (by first | (simp only [List.length_map, List.length_append, List.length_cons, List.length_nil]; omega) | (simp <;> omega)) ?_
      refine aops_le (le_of (sl' := [(26, _), (31, _), (34, _)]) ⟨rfl, rfl, rfl, trivial⟩) ?_
      refine aops_any ?_
      refine aany_step 11 [] (by kernel_rfl) ⟨?_, trivial⟩
      ·
       refine ⟨_, rfl, rfl, ?_⟩
       refine aop_of_aops (ops := #[]) rfl ?_
       refine x_pure rfl (p_load1r rfl Try.g3 rfl (c := .s (.int .i64 (out[out.length - 1]'(by omega)).1)) (own_cell (c := 2) (k := out.length - 1) (enc := spC) (by omega) (by omega) 0)) ?_
       refine aops_any ?_
       refine aany_step 14 [] (by kernel_rfl) ⟨?_, trivial⟩
       ·
        refine ⟨_, rfl, rfl, ?_⟩
        refine aop_of_aops (ops := #[]) rfl ?_
        refine x_pure rfl (p_build rfl Try.z42 Try.pl42 (by simp [spC, AV.cells, AV.one, Value.oneCell', splice, AV.kill, AV.clean, cleanL, AV.only]) rfl) ?_
        refine aops_any ?_
        refine aany_step 15 [] (by kernel_rfl) ⟨?_, trivial⟩
        ·
         refine ⟨_, rfl, rfl, ?_⟩
         refine aop_of_aops (ops := #[]) rfl ?_
         refine x_step hf rfl (r_buildSlice Try.ap31 rfl rfl rfl rfl (by simp [spC, AV.cells, AV.leaf, Value.oneCell', splice, AV.kill, AV.clean, cleanL, AV.only])) ?_
         refine aops_any ?_
         refine aany_step 16 [] (by kernel_rfl) ⟨?_, trivial⟩
         ·
          refine ⟨_, rfl, rfl, ?_⟩
          refine aop_of_aops (ops := #[]) rfl ?_
          refine x_append hf rfl Try.ap31 rfl rfl rfl (.inl rfl) (by first | rfl | (simp only [List.length_map, List.length_nil]; omega) | simp) rfl (by first | rfl | simp [asrc, look]) (by first | (simp only [maxLen, List.length_map, List.length_append, List.length_cons, List.length_nil]; omega) | (simp [maxLen] <;> omega)) (by first | (simp only [List.length_map, List.length_append, List.length_cons, List.length_nil]; omega) | (simp <;> omega)) ?_
          refine aops_le (le_of (sl' := [(37, _)]) ⟨rfl, trivial⟩) ?_
          refine aops_any ?_
          refine aany_step 17 [] (by kernel_rfl) ⟨?_, trivial⟩
          ·
           refine ⟨_, rfl, rfl, ?_⟩
           refine aop_of_aops (ops := #[]) rfl ?_
           refine x_pure rfl (p_assign rfl) ?_
           refine aops_any ?_
           refine aany_end (by kernel_rfl) ?_
           refine hK5 _ ?_
           refine aw_ret ?_
           refine ⟨21, (glueL out s).map spC, by decide, ?_, ?_, rfl⟩
           · rw [glue_t (by omega) (by omega), List.map_append]; rfl
           · rw [glue_t (by omega) (by omega), List.map_append, List.length_append]
             show some (AV.own 21 2 0 (0 + ((out.take (out.length - 1)).map spC).length + 1)) = _
             rw [Nat.zero_add]; rfl
     ·
      refine ⟨_, rfl, rfl, ?_⟩
      refine aop_of_aops (ops := #[]) rfl ?_
      refine x_pure rfl (p_load1r rfl Try.g3 rfl (c := .s (.int .i64 (out[out.length - 1]'(by omega)).1)) (own_cell (c := 2) (k := out.length - 1) (enc := spC) (by omega) (by omega) 0)) ?_
      refine aops_any ?_
      refine aany_step 5 [14] (by kernel_rfl) ⟨?_, ?_, trivial⟩
      ·
       refine ⟨_, rfl, rfl, ?_⟩
       refine aop_of_aops (ops := #[]) rfl ?_
       refine x_append hf rfl Try.ap31 rfl rfl rfl (.inl rfl) (by first | rfl | (simp only [List.length_map, List.length_nil]; omega) | simp) rfl (asrc_view (l := out) (j := out.length - 1) rfl (by omega) (by omega) (by omega)) (by first | (simp only [maxLen, List.length_map, List.length_append, List.length_cons, List.length_nil]; omega) | (simp [maxLen] <;> omega)) (by first | (simp only [List.length_map, List.length_append, List.length_cons, List.length_nil]; omega) | (simp <;> omega)) ?_
       refine aops_le (le_of (sl' := [(26, _), (32, _), (34, _)]) ⟨rfl, rfl, rfl, trivial⟩) ?_
       refine aops_any ?_
       refine aany_step 14 [] (by kernel_rfl) ⟨?_, trivial⟩
       ·
        refine ⟨_, rfl, rfl, ?_⟩
        refine aop_of_aops (ops := #[]) rfl ?_
        refine x_pure rfl (p_build rfl Try.z42 Try.pl42 (by simp [spC, AV.cells, AV.one, Value.oneCell', splice, AV.kill, AV.clean, cleanL, AV.only]) rfl) ?_
        refine aops_any ?_
        refine aany_step 15 [] (by kernel_rfl) ⟨?_, trivial⟩
        ·
         refine ⟨_, rfl, rfl, ?_⟩
         refine aop_of_aops (ops := #[]) rfl ?_
         refine x_step hf rfl (r_buildSlice Try.ap31 rfl rfl rfl rfl (by simp [spC, AV.cells, AV.leaf, Value.oneCell', splice, AV.kill, AV.clean, cleanL, AV.only])) ?_
         refine aops_any ?_
         refine aany_step 16 [] (by kernel_rfl) ⟨?_, trivial⟩
         ·
          refine ⟨_, rfl, rfl, ?_⟩
          refine aop_of_aops (ops := #[]) rfl ?_
          refine x_append hf rfl Try.ap31 rfl rfl rfl (.inl rfl) (by first | rfl | (simp only [List.length_map, List.length_nil]; omega) | simp) rfl (by first | rfl | simp [asrc, look]) (by first | (simp only [maxLen, List.length_map, List.length_append, List.length_cons, List.length_nil]; omega) | (simp [maxLen] <;> omega)) (by first | (simp only [List.length_map, List.length_append, List.length_cons, List.length_nil]; omega) | (simp <;> omega)) ?_
          refine aops_le (le_of (sl' := [(37, _)]) ⟨rfl, trivial⟩) ?_
          refine aops_any ?_
          refine aany_step 17 [] (by kernel_rfl) ⟨?_, trivial⟩
          ·
           refine ⟨_, rfl, rfl, ?_⟩
           refine aop_of_aops (ops := #[]) rfl ?_
           refine x_pure rfl (p_assign rfl) ?_
           refine aops_any ?_
           refine aany_end (by kernel_rfl) ?_
           refine hK5 _ ?_
           refine aw_ret ?_
           refine ⟨21, (glueL out s).map spC, by decide, ?_, ?_, rfl⟩
           · rw [glue_t (by omega) (by omega), List.map_append]; rfl
           · rw [glue_t (by omega) (by omega), List.map_append, List.length_append]
             show some (AV.own 21 2 0 (0 + ((out.take (out.length - 1)).map spC).length + 1)) = _
             rw [Nat.zero_add]; rfl
      ·
       refine ⟨_, rfl, rfl, ?_⟩
       refine aop_of_aops (ops := #[]) rfl ?_
       refine x_pure rfl (p_build rfl Try.z42 Try.pl42 (by simp [spC, AV.cells, AV.one, Value.oneCell', splice, AV.kill, AV.clean, cleanL, AV.only]) rfl) ?_
       refine aops_any ?_
       refine aany_step 5 [15] (by kernel_rfl) ⟨?_, ?_, trivial⟩
       ·
        refine ⟨_, rfl, rfl, ?_⟩
        refine aop_of_aops (ops := #[]) rfl ?_
        refine x_append hf rfl Try.ap31 rfl rfl rfl (.inl rfl) (by first | rfl | (simp only [List.length_map, List.length_nil]; omega) | simp) rfl (asrc_view (l := out) (j := out.length - 1) rfl (by omega) (by omega) (by omega)) (by first | (simp only [maxLen, List.length_map, List.length_append, List.length_cons, List.length_nil]; omega) | (simp [maxLen] <;> omega)) (by first | (simp only [List.length_map, List.length_append, List.length_cons, List.length_nil]; omega) | (simp <;> omega)) ?_
        refine aops_le (le_of (sl' := [(26, _), (35, _)]) ⟨rfl, rfl, trivial⟩) ?_
        refine aops_any ?_
        refine aany_step 15 [] (by kernel_rfl) ⟨?_, trivial⟩
        ·
         refine ⟨_, rfl, rfl, ?_⟩
         refine aop_of_aops (ops := #[]) rfl ?_
         refine x_step hf rfl (r_buildSlice Try.ap31 rfl rfl rfl rfl (by simp [spC, AV.cells, AV.leaf, Value.oneCell', splice, AV.kill, AV.clean, cleanL, AV.only])) ?_
         refine aops_any ?_
         refine aany_step 16 [] (by kernel_rfl) ⟨?_, trivial⟩
         ·
          refine ⟨_, rfl, rfl, ?_⟩
          refine aop_of_aops (ops := #[]) rfl ?_
          refine x_append hf rfl Try.ap31 rfl rfl rfl (.inl rfl) (by first | rfl | (simp only [List.length_map, List.length_nil]; omega) | simp) rfl (by first | rfl | simp [asrc, look]) (by first | (simp only [maxLen, List.length_map, List.length_append, List.length_cons, List.length_nil]; omega) | (simp [maxLen] <;> omega)) (by first | (simp only [List.length_map, List.length_append, List.length_cons, List.length_nil]; omega) | (simp <;> omega)) ?_
          refine aops_le (le_of (sl' := [(37, _)]) ⟨rfl, trivial⟩) ?_
          refine aops_any ?_
          refine aany_step 17 [] (by kernel_rfl) ⟨?_, trivial⟩
          ·
           refine ⟨_, rfl, rfl, ?_⟩
           refine aop_of_aops (ops := #[]) rfl ?_
           refine x_pure rfl (p_assign rfl) ?_
           refine aops_any ?_
           refine aany_end (by kernel_rfl) ?_
           refine hK5 _ ?_
           refine aw_ret ?_
           refine ⟨21, (glueL out s).map spC, by decide, ?_, ?_, rfl⟩
           · rw [glue_t (by omega) (by omega), List.map_append]; rfl
           · rw [glue_t (by omega) (by omega), List.map_append, List.length_append]
             show some (AV.own 21 2 0 (0 + ((out.take (out.length - 1)).map spC).length + 1)) = _
             rw [Nat.zero_add]; rfl
       ·
        refine ⟨_, rfl, rfl, ?_⟩
        refine aop_of_aops (ops := #[]) rfl ?_
        refine x_step hf rfl (r_buildSlice Try.ap31 rfl rfl rfl rfl (by simp [spC, AV.cells, AV.leaf, Value.oneCell', splice, AV.kill, AV.clean, cleanL, AV.only])) ?_
        refine aops_any ?_
        refine aany_step 5 [] (by kernel_rfl) ⟨?_, trivial⟩
        ·
         refine ⟨_, rfl, rfl, ?_⟩
         refine aop_of_aops (ops := #[]) rfl ?_
         refine x_append hf rfl Try.ap31 rfl rfl rfl (.inl rfl) (by first | rfl | (simp only [List.length_map, List.length_nil]; omega) | simp) rfl (asrc_view (l := out) (j := out.length - 1) rfl (by omega) (by omega) (by omega)) (by first | (simp only [maxLen, List.length_map, List.length_append, List.length_cons, List.length_nil]; omega) | (simp [maxLen] <;> omega)) (by first | (simp only [List.length_map, List.length_append, List.length_cons, List.length_nil]; omega) | (simp <;> omega)) ?_
         refine aops_le (le_of (sl' := [(26, _), (36, _)]) ⟨rfl, rfl, trivial⟩) ?_
         refine aops_any ?_
         refine aany_step 16 [] (by kernel_rfl) ⟨?_, trivial⟩
         ·
          refine ⟨_, rfl, rfl, ?_⟩
          refine aop_of_aops (ops := #[]) rfl ?_
          refine x_append hf rfl Try.ap31 rfl rfl rfl (.inl rfl) (by first | rfl | (simp only [List.length_map, List.length_nil]; omega) | simp) rfl (by first | rfl | simp [asrc, look]) (by first | (simp only [maxLen, List.length_map, List.length_append, List.length_cons, List.length_nil]; omega) | (simp [maxLen] <;> omega)) (by first | (simp only [List.length_map, List.length_append, List.length_cons, List.length_nil]; omega) | (simp <;> omega)) ?_
          refine aops_le (le_of (sl' := [(37, _)]) ⟨rfl, trivial⟩) ?_
          refine aops_any ?_
          refine aany_step 17 [] (by kernel_rfl) ⟨?_, trivial⟩
          ·
           refine ⟨_, rfl, rfl, ?_⟩
           refine aop_of_aops (ops := #[]) rfl ?_
           refine x_pure rfl (p_assign rfl) ?_
           refine aops_any ?_
           refine aany_end (by kernel_rfl) ?_
           refine hK5 _ ?_
           refine aw_ret ?_
           refine ⟨21, (glueL out s).map spC, by decide, ?_, ?_, rfl⟩
           · rw [glue_t (by omega) (by omega), List.map_append]; rfl
           · rw [glue_t (by omega) (by omega), List.map_append, List.length_append]
             show some (AV.own 21 2 0 (0 + ((out.take (out.length - 1)).map spC).length + 1)) = _
             rw [Nat.zero_add]; rfl
    ·
     refine ⟨_, rfl, rfl, ?_⟩
     refine aop_of_aops (ops := #[]) rfl ?_
     refine x_pure rfl (p_load1r rfl Try.g3 rfl (c := .s (.int .i64 (out[out.length - 1]'(by omega)).1)) (own_cell (c := 2) (k := out.length - 1) (enc := spC) (by omega) (by omega) 0)) ?_
     refine aops_any ?_
     refine aany_step 0 [14] (by kernel_rfl) ⟨?_, ?_, trivial⟩
     ·
      refine ⟨_, rfl, rfl, ?_⟩
      refine aop_of_aops (ops := #[]) rfl ?_
      refine y_buildSlice hf rfl rfl rfl Try.ap31 rfl rfl rfl rfl (by simp [spC, AV.cells, AV.leaf, Value.oneCell', splice, AV.kill, AV.clean, cleanL, AV.only]) ?_
      refine aops_any ?_
      refine aany_step 5 [14] (by kernel_rfl) ⟨?_, ?_, trivial⟩
      ·
       refine ⟨_, rfl, rfl, ?_⟩
       refine aop_of_aops (ops := #[]) rfl ?_
       refine x_append hf rfl Try.ap31 rfl rfl rfl (.inl rfl) (by first | rfl | (simp only [List.length_map, List.length_nil]; omega) | simp) rfl (asrc_view (l := out) (j := out.length - 1) rfl (by omega) (by omega) (by omega)) (by first | (simp only [maxLen, List.length_map, List.length_append, List.length_cons, List.length_nil]; omega) | (simp [maxLen] <;> omega)) (by first | (simp only [List.length_map, List.length_append, List.length_cons, List.length_nil]; omega) | (simp <;> omega)) ?_
       refine aops_le (le_of (sl' := [(26, _), (32, _), (34, _)]) ⟨rfl, rfl, rfl, trivial⟩) ?_
       refine aops_any ?_
       refine aany_step 14 [] (by kernel_rfl) ⟨?_, trivial⟩
       ·
        refine ⟨_, rfl, rfl, ?_⟩
        refine aop_of_aops (ops := #[]) rfl ?_
        refine x_pure rfl (p_build rfl Try.z42 Try.pl42 (by simp [spC, AV.cells, AV.one, Value.oneCell', splice, AV.kill, AV.clean, cleanL, AV.only]) rfl) ?_
        refine aops_any ?_
        refine aany_step 15 [] (by kernel_rfl) ⟨?_, trivial⟩
        ·
         refine ⟨_, rfl, rfl, ?_⟩
         refine aop_of_aops (ops := #[]) rfl ?_
         refine x_step hf rfl (r_buildSlice Try.ap31 rfl rfl rfl rfl (by simp [spC, AV.cells, AV.leaf, Value.oneCell', splice, AV.kill, AV.clean, cleanL, AV.only])) ?_
         refine aops_any ?_
         refine aany_step 16 [] (by kernel_rfl) ⟨?_, trivial⟩
         ·
          refine ⟨_, rfl, rfl, ?_⟩
          refine aop_of_aops (ops := #[]) rfl ?_
          refine x_append hf rfl Try.ap31 rfl rfl rfl (.inl rfl) (by first | rfl | (simp only [List.length_map, List.length_nil]; omega) | simp) rfl (by first | rfl | simp [asrc, look]) (by first | (simp only [maxLen, List.length_map, List.length_append, List.length_cons, List.length_nil]; omega) | (simp [maxLen] <;> omega)) (by first | (simp only [List.length_map, List.length_append, List.length_cons, List.length_nil]; omega) | (simp <;> omega)) ?_
          refine aops_le (le_of (sl' := [(37, _)]) ⟨rfl, trivial⟩) ?_
          refine aops_any ?_
          refine aany_step 17 [] (by kernel_rfl) ⟨?_, trivial⟩
          ·
           refine ⟨_, rfl, rfl, ?_⟩
           refine aop_of_aops (ops := #[]) rfl ?_
           refine x_pure rfl (p_assign rfl) ?_
           refine aops_any ?_
           refine aany_end (by kernel_rfl) ?_
           refine hK5 _ ?_
           refine aw_ret ?_
           refine ⟨21, (glueL out s).map spC, by decide, ?_, ?_, rfl⟩
           · rw [glue_t (by omega) (by omega), List.map_append]; rfl
           · rw [glue_t (by omega) (by omega), List.map_append, List.length_append]
             show some (AV.own 21 2 0 (0 + ((out.take (out.length - 1)).map spC).length + 1)) = _
             rw [Nat.zero_add]; rfl
      ·
       refine ⟨_, rfl, rfl, ?_⟩
       refine aop_of_aops (ops := #[]) rfl ?_
       refine x_pure rfl (p_build rfl Try.z42 Try.pl42 (by simp [spC, AV.cells, AV.one, Value.oneCell', splice, AV.kill, AV.clean, cleanL, AV.only]) rfl) ?_
       refine aops_any ?_
       refine aany_step 5 [15] (by kernel_rfl) ⟨?_, ?_, trivial⟩
       ·
        refine ⟨_, rfl, rfl, ?_⟩
        refine aop_of_aops (ops := #[]) rfl ?_
        refine x_append hf rfl Try.ap31 rfl rfl rfl (.inl rfl) (by first | rfl | (simp only [List.length_map, List.length_nil]; omega) | simp) rfl (asrc_view (l := out) (j := out.length - 1) rfl (by omega) (by omega) (by omega)) (by first | (simp only [maxLen, List.length_map, List.length_append, List.length_cons, List.length_nil]; omega) | (simp [maxLen] <;> omega)) (by first | (simp only [List.length_map, List.length_append, List.length_cons, List.length_nil]; omega) | (simp <;> omega)) ?_
        refine aops_le (le_of (sl' := [(26, _), (35, _)]) ⟨rfl, rfl, trivial⟩) ?_
        refine aops_any ?_
        refine aany_step 15 [] (by kernel_rfl) ⟨?_, trivial⟩
        ·
         refine ⟨_, rfl, rfl, ?_⟩
         refine aop_of_aops (ops := #[]) rfl ?_
         refine x_step hf rfl (r_buildSlice Try.ap31 rfl rfl rfl rfl (by simp [spC, AV.cells, AV.leaf, Value.oneCell', splice, AV.kill, AV.clean, cleanL, AV.only])) ?_
         refine aops_any ?_
         refine aany_step 16 [] (by kernel_rfl) ⟨?_, trivial⟩
         ·
          refine ⟨_, rfl, rfl, ?_⟩
          refine aop_of_aops (ops := #[]) rfl ?_
          refine x_append hf rfl Try.ap31 rfl rfl rfl (.inl rfl) (by first | rfl | (simp only [List.length_map, List.length_nil]; omega) | simp) rfl (by first | rfl | simp [asrc, look]) (by first | (simp only [maxLen, List.length_map, List.length_append, List.length_cons, List.length_nil]; omega) | (simp [maxLen] <;> omega)) (by first | (simp only [List.length_map, List.length_append, List.length_cons, List.length_nil]; omega) | (simp <;> omega)) ?_
          refine aops_le (le_of (sl' := [(37, _)]) ⟨rfl, trivial⟩) ?_
          refine aops_any ?_
          refine aany_step 17 [] (by kernel_rfl) ⟨?_, trivial⟩
          ·
           refine ⟨_, rfl, rfl, ?_⟩
           refine aop_of_aops (ops := #[]) rfl ?_
           refine x_pure rfl (p_assign rfl) ?_
           refine aops_any ?_
           refine aany_end (by kernel_rfl) ?_
           refine hK5 _ ?_
           refine aw_ret ?_
           refine ⟨21, (glueL out s).map spC, by decide, ?_, ?_, rfl⟩
           · rw [glue_t (by omega) (by omega), List.map_append]; rfl
           · rw [glue_t (by omega) (by omega), List.map_append, List.length_append]
             show some (AV.own 21 2 0 (0 + ((out.take (out.length - 1)).map spC).length + 1)) = _
             rw [Nat.zero_add]; rfl
       ·
        refine ⟨_, rfl, rfl, ?_⟩
        refine aop_of_aops (ops := #[]) rfl ?_
        refine x_step hf rfl (r_buildSlice Try.ap31 rfl rfl rfl rfl (by simp [spC, AV.cells, AV.leaf, Value.oneCell', splice, AV.kill, AV.clean, cleanL, AV.only])) ?_
        refine aops_any ?_
        refine aany_step 5 [] (by kernel_rfl) ⟨?_, trivial⟩
        ·
         refine ⟨_, rfl, rfl, ?_⟩
         refine aop_of_aops (ops := #[]) rfl ?_
         refine x_append hf rfl Try.ap31 rfl rfl rfl (.inl rfl) (by first | rfl | (simp only [List.length_map, List.length_nil]; omega) | simp) rfl (asrc_view (l := out) (j := out.length - 1) rfl (by omega) (by omega) (by omega)) (by first | (simp only [maxLen, List.length_map, List.length_append, List.length_cons, List.length_nil]; omega) | (simp [maxLen] <;> omega)) (by first | (simp only [List.length_map, List.length_append, List.length_cons, List.length_nil]; omega) | (simp <;> omega)) ?_
         refine aops_le (le_of (sl' := [(26, _), (36, _)]) ⟨rfl, rfl, trivial⟩) ?_
         refine aops_any ?_
         refine aany_step 16 [] (by kernel_rfl) ⟨?_, trivial⟩
         ·
          refine ⟨_, rfl, rfl, ?_⟩
          refine aop_of_aops (ops := #[]) rfl ?_
          refine x_append hf rfl Try.ap31 rfl rfl rfl (.inl rfl) (by first | rfl | (simp only [List.length_map, List.length_nil]; omega) | simp) rfl (by first | rfl | simp [asrc, look]) (by first | (simp only [maxLen, List.length_map, List.length_append, List.length_cons, List.length_nil]; omega) | (simp [maxLen] <;> omega)) (by first | (simp only [List.length_map, List.length_append, List.length_cons, List.length_nil]; omega) | (simp <;> omega)) ?_
          refine aops_le (le_of (sl' := [(37, _)]) ⟨rfl, trivial⟩) ?_
          refine aops_any ?_
          refine aany_step 17 [] (by kernel_rfl) ⟨?_, trivial⟩
          ·
           refine ⟨_, rfl, rfl, ?_⟩
           refine aop_of_aops (ops := #[]) rfl ?_
           refine x_pure rfl (p_assign rfl) ?_
           refine aops_any ?_
           refine aany_end (by kernel_rfl) ?_
           refine hK5 _ ?_
           refine aw_ret ?_
           refine ⟨21, (glueL out s).map spC, by decide, ?_, ?_, rfl⟩
           · rw [glue_t (by omega) (by omega), List.map_append]; rfl
           · rw [glue_t (by omega) (by omega), List.map_append, List.length_append]
             show some (AV.own 21 2 0 (0 + ((out.take (out.length - 1)).map spC).length + 1)) = _
             rw [Nat.zero_add]; rfl
     ·
      refine ⟨_, rfl, rfl, ?_⟩
      refine aop_of_aops (ops := #[]) rfl ?_
      refine x_pure rfl (p_build rfl Try.z42 Try.pl42 (by simp [spC, AV.cells, AV.one, Value.oneCell', splice, AV.kill, AV.clean, cleanL, AV.only]) rfl) ?_
      refine aops_any ?_
      refine aany_step 0 [15] (by kernel_rfl) ⟨?_, ?_, trivial⟩
      ·
       refine ⟨_, rfl, rfl, ?_⟩
       refine aop_of_aops (ops := #[]) rfl ?_
       refine y_buildSlice hf rfl rfl rfl Try.ap31 rfl rfl rfl rfl (by simp [spC, AV.cells, AV.leaf, Value.oneCell', splice, AV.kill, AV.clean, cleanL, AV.only]) ?_
       refine aops_any ?_
       refine aany_step 5 [15] (by kernel_rfl) ⟨?_, ?_, trivial⟩
       ·
        refine ⟨_, rfl, rfl, ?_⟩
        refine aop_of_aops (ops := #[]) rfl ?_
        refine x_append hf rfl Try.ap31 rfl rfl rfl (.inl rfl) (by first | rfl | (simp only [List.length_map, List.length_nil]; omega) | simp) rfl (asrc_view (l := out) (j := out.length - 1) rfl (by omega) (by omega) (by omega)) (by first | (simp only [maxLen, List.length_map, List.length_append, List.length_cons, List.length_nil]; omega) | (simp [maxLen] <;> omega)) (by first | (simp only [List.length_map, List.length_append, List.length_cons, List.length_nil]; omega) | (simp <;> omega)) ?_
        refine aops_le (le_of (sl' := [(26, _), (35, _)]) ⟨rfl, rfl, trivial⟩) ?_
        refine aops_any ?_
        refine aany_step 15 [] (by kernel_rfl) ⟨?_, trivial⟩
        ·
         refine ⟨_, rfl, rfl, ?_⟩
         refine aop_of_aops (ops := #[]) rfl ?_
         refine x_step hf rfl (r_buildSlice Try.ap31 rfl rfl rfl rfl (by simp [spC, AV.cells, AV.leaf, Value.oneCell', splice, AV.kill, AV.clean, cleanL, AV.only])) ?_
         refine aops_any ?_
         refine aany_step 16 [] (by kernel_rfl) ⟨?_, trivial⟩
         ·
          refine ⟨_, rfl, rfl, ?_⟩
          refine aop_of_aops (ops := #[]) rfl ?_
          refine x_append hf rfl Try.ap31 rfl rfl rfl (.inl rfl) (by first | rfl | (simp only [List.length_map, List.length_nil]; omega) | simp) rfl (by first | rfl | simp [asrc, look]) (by first | (simp only [maxLen, List.length_map, List.length_append, List.length_cons, List.length_nil]; omega) | (simp [maxLen] <;> omega)) (by first | (simp only [List.length_map, List.length_append, List.length_cons, List.length_nil]; omega) | (simp <;> omega)) ?_
          refine aops_le (le_of (sl' := [(37, _)]) ⟨rfl, trivial⟩) ?_
          refine aops_any ?_
          refine aany_step 17 [] (by kernel_rfl) ⟨?_, trivial⟩
          ·
           refine ⟨_, rfl, rfl, ?_⟩
           refine aop_of_aops (ops := #[]) rfl ?_
           refine x_pure rfl (p_assign rfl) ?_
           refine aops_any ?_
           refine aany_end (by kernel_rfl) ?_
           refine hK5 _ ?_
           refine aw_ret ?_
           refine ⟨21, (glueL out s).map spC, by decide, ?_, ?_, rfl⟩
           · rw [glue_t (by omega) (by omega), List.map_append]; rfl
           · rw [glue_t (by omega) (by omega), List.map_append, List.length_append]
             show some (AV.own 21 2 0 (0 + ((out.take (out.length - 1)).map spC).length + 1)) = _
             rw [Nat.zero_add]; rfl
       ·
        refine ⟨_, rfl, rfl, ?_⟩
        refine aop_of_aops (ops := #[]) rfl ?_
        refine x_step hf rfl (r_buildSlice Try.ap31 rfl rfl rfl rfl (by simp [spC, AV.cells, AV.leaf, Value.oneCell', splice, AV.kill, AV.clean, cleanL, AV.only])) ?_
        refine aops_any ?_
        refine aany_step 5 [] (by kernel_rfl) ⟨?_, trivial⟩
        ·
         refine ⟨_, rfl, rfl, ?_⟩
         refine aop_of_aops (ops := #[]) rfl ?_
         refine x_append hf rfl Try.ap31 rfl rfl rfl (.inl rfl) (by first | rfl | (simp only [List.length_map, List.length_nil]; omega) | simp) rfl (asrc_view (l := out) (j := out.length - 1) rfl (by omega) (by omega) (by omega)) (by first | (simp only [maxLen, List.length_map, List.length_append, List.length_cons, List.length_nil]; omega) | (simp [maxLen] <;> omega)) (by first | (simp only [List.length_map, List.length_append, List.length_cons, List.length_nil]; omega) | (simp <;> omega)) ?_
         refine aops_le (le_of (sl' := [(26, _), (36, _)]) ⟨rfl, rfl, trivial⟩) ?_
         refine aops_any ?_
         refine aany_step 16 [] (by kernel_rfl) ⟨?_, trivial⟩
         ·
          refine ⟨_, rfl, rfl, ?_⟩
          refine aop_of_aops (ops := #[]) rfl ?_
          refine x_append hf rfl Try.ap31 rfl rfl rfl (.inl rfl) (by first | rfl | (simp only [List.length_map, List.length_nil]; omega) | simp) rfl (by first | rfl | simp [asrc, look]) (by first | (simp only [maxLen, List.length_map, List.length_append, List.length_cons, List.length_nil]; omega) | (simp [maxLen] <;> omega)) (by first | (simp only [List.length_map, List.length_append, List.length_cons, List.length_nil]; omega) | (simp <;> omega)) ?_
          refine aops_le (le_of (sl' := [(37, _)]) ⟨rfl, trivial⟩) ?_
          refine aops_any ?_
          refine aany_step 17 [] (by kernel_rfl) ⟨?_, trivial⟩
          ·
           refine ⟨_, rfl, rfl, ?_⟩
           refine aop_of_aops (ops := #[]) rfl ?_
           refine x_pure rfl (p_assign rfl) ?_
           refine aops_any ?_
           refine aany_end (by kernel_rfl) ?_
           refine hK5 _ ?_
           refine aw_ret ?_
           refine ⟨21, (glueL out s).map spC, by decide, ?_, ?_, rfl⟩
           · rw [glue_t (by omega) (by omega), List.map_append]; rfl
           · rw [glue_t (by omega) (by omega), List.map_append, List.length_append]
             show some (AV.own 21 2 0 (0 + ((out.take (out.length - 1)).map spC).length + 1)) = _
             rw [Nat.zero_add]; rfl
      ·
       refine ⟨_, rfl, rfl, ?_⟩
       refine aop_of_aops (ops := #[]) rfl ?_
       refine x_step hf rfl (r_buildSlice Try.ap31 rfl rfl rfl rfl (by simp [spC, AV.cells, AV.leaf, Value.oneCell', splice, AV.kill, AV.clean, cleanL, AV.only])) ?_
       refine aops_any ?_
       refine aany_step 0 [] (by kernel_rfl) ⟨?_, trivial⟩
       ·
        refine ⟨_, rfl, rfl, ?_⟩
        refine aop_of_aops (ops := #[]) rfl ?_
        refine y_buildSlice hf rfl rfl rfl Try.ap31 rfl rfl rfl rfl (by simp [spC, AV.cells, AV.leaf, Value.oneCell', splice, AV.kill, AV.clean, cleanL, AV.only]) ?_
        refine aops_any ?_
        refine aany_step 5 [] (by kernel_rfl) ⟨?_, trivial⟩
        ·
         refine ⟨_, rfl, rfl, ?_⟩
         refine aop_of_aops (ops := #[]) rfl ?_
         refine x_append hf rfl Try.ap31 rfl rfl rfl (.inl rfl) (by first | rfl | (simp only [List.length_map, List.length_nil]; omega) | simp) rfl (asrc_view (l := out) (j := out.length - 1) rfl (by omega) (by omega) (by omega)) (by first | (simp only [maxLen, List.length_map, List.length_append, List.length_cons, List.length_nil]; omega) | (simp [maxLen] <;> omega)) (by first | (simp only [List.length_map, List.length_append, List.length_cons, List.length_nil]; omega) | (simp <;> omega)) ?_
         refine aops_le (le_of (sl' := [(26, _), (36, _)]) ⟨rfl, rfl, trivial⟩) ?_
         refine aops_any ?_
         refine aany_step 16 [] (by kernel_rfl) ⟨?_, trivial⟩
         ·
          refine ⟨_, rfl, rfl, ?_⟩
          refine aop_of_aops (ops := #[]) rfl ?_
          refine x_append hf rfl Try.ap31 rfl rfl rfl (.inl rfl) (by first | rfl | (simp only [List.length_map, List.length_nil]; omega) | simp) rfl (by first | rfl | simp [asrc, look]) (by first | (simp only [maxLen, List.length_map, List.length_append, List.length_cons, List.length_nil]; omega) | (simp [maxLen] <;> omega)) (by first | (simp only [List.length_map, List.length_append, List.length_cons, List.length_nil]; omega) | (simp <;> omega)) ?_
          refine aops_le (le_of (sl' := [(37, _)]) ⟨rfl, trivial⟩) ?_
          refine aops_any ?_
          refine aany_step 17 [] (by kernel_rfl) ⟨?_, trivial⟩
          ·
           refine ⟨_, rfl, rfl, ?_⟩
           refine aop_of_aops (ops := #[]) rfl ?_
           refine x_pure rfl (p_assign rfl) ?_
           refine aops_any ?_
           refine aany_end (by kernel_rfl) ?_
           refine hK5 _ ?_
           refine aw_ret ?_
           refine ⟨21, (glueL out s).map spC, by decide, ?_, ?_, rfl⟩
           · rw [glue_t (by omega) (by omega), List.map_append]; rfl
           · rw [glue_t (by omega) (by omega), List.map_append, List.length_append]
             show some (AV.own 21 2 0 (0 + ((out.take (out.length - 1)).map spC).length + 1)) = _
             rw [Nat.zero_add]; rfl
  ·
   try simp only [bs] at hc2
   refine aw_skip ?_
   refine hK3 _ ?_
   refine aw_seq_k (fun K6 hK6 => ?_)
   refine aw_region ?_
   refine x_pure rfl (p_move rfl) ?_
   first | refine x_pure rfl (p_loads rfl Try.g42 Try.c42 rfl rfl) ?_ | refine x_pure rfl (p_loadsr rfl Try.g42 Try.c42 rfl rfl rfl) ?_
   refine x_step hf rfl (r_buildSlice Try.ap31 rfl rfl rfl rfl (by simp [spC, AV.cells, AV.leaf, Value.oneCell', splice, AV.kill, AV.clean, cleanL, AV.only])) ?_
   refine x_append hf rfl Try.ap31 rfl rfl rfl (.inl rfl) (by first | rfl | (simp only [List.length_map, List.length_nil]; omega) | simp) rfl (by first | rfl | simp [asrc, look]) (by first | (simp only [maxLen, List.length_map, List.length_append, List.length_cons, List.length_nil]; omega) | (simp [maxLen] <;> omega)) (by first | (simp only [List.length_map, List.length_append, List.length_cons, List.length_nil]; omega) | (simp <;> omega)) ?_
   refine aops_le (le_of (sl' := [(41, _)]) ⟨rfl, trivial⟩) ?_
   refine x_pure rfl (p_assign rfl) ?_
   first | refine aops_end ?_ | refine aops_nil ?_
   refine hK6 _ ?_
   refine aw_ret ?_
   refine ⟨G0, (glueL out s).map spC, by decide, ?_, ?_, rfl⟩
   · first | (rw [glue_f (by omega) (by omega), List.map_append]; rfl) | (obtain rfl : out = [] := List.eq_nil_of_length_eq_zero (by omega); rfl)
   · show some (AV.own G0 2 0 (n + 1)) = _
     first | (rw [glue_f (by omega) (by omega), hn, List.length_map, List.length_append]; rfl) | (obtain rfl : out = [] := List.eq_nil_of_length_eq_zero (by omega); rw [hn]; rfl)
 ·
  try simp only [bs] at hg1
  refine d_skip rfl rfl ?_
  refine d_skip rfl rfl ?_
  refine d_skip rfl rfl ?_
  refine d_skip rfl rfl ?_
  refine d_skip rfl rfl ?_
  refine d_skip rfl rfl ?_
  refine d_skip rfl rfl ?_
  refine d_skip rfl rfl ?_
  refine d_skip rfl rfl ?_
  refine d_pure [(10, _), (19, _)] rfl rfl ⟨⟨rfl, rfl⟩, ⟨rfl, rfl⟩, trivial⟩ rfl (p_pick_f rfl rfl) ?_
  refine lex_end (sl' := [(0, _), (3, _), (5, _), (20, _)]) rfl ⟨rfl, rfl, rfl, rfl, trivial⟩ rfl ?_
  refine hK4 _ ?_
  refine aw_cond_f rfl ?_
  refine aw_skip ?_
  refine hK3 _ ?_
  refine aw_seq_k (fun K7 hK7 => ?_)
  refine aw_region ?_
  refine x_pure rfl (p_move rfl) ?_
  first | refine x_pure rfl (p_loads rfl Try.g42 Try.c42 rfl rfl) ?_ | refine x_pure rfl (p_loadsr rfl Try.g42 Try.c42 rfl rfl rfl) ?_
  refine x_step hf rfl (r_buildSlice Try.ap31 rfl rfl rfl rfl (by simp [spC, AV.cells, AV.leaf, Value.oneCell', splice, AV.kill, AV.clean, cleanL, AV.only])) ?_
  refine x_append hf rfl Try.ap31 rfl rfl rfl (.inl rfl) (by first | rfl | (simp only [List.length_map, List.length_nil]; omega) | simp) rfl (by first | rfl | simp [asrc, look]) (by first | (simp only [maxLen, List.length_map, List.length_append, List.length_cons, List.length_nil]; omega) | (simp [maxLen] <;> omega)) (by first | (simp only [List.length_map, List.length_append, List.length_cons, List.length_nil]; omega) | (simp <;> omega)) ?_
  refine aops_le (le_of (sl' := [(41, _)]) ⟨rfl, trivial⟩) ?_
  refine x_pure rfl (p_assign rfl) ?_
  first | refine aops_end ?_ | refine aops_nil ?_
  refine hK7 _ ?_
  refine aw_ret ?_
  refine ⟨G0, (glueL out s).map spC, by decide, ?_, ?_, rfl⟩
  · first | (rw [glue_f (by omega) (by omega), List.map_append]; rfl) | (obtain rfl : out = [] := List.eq_nil_of_length_eq_zero (by omega); rfl)
  · show some (AV.own G0 2 0 (n + 1)) = _
    first | (rw [glue_f (by omega) (by omega), hn, List.length_map, List.length_append]; rfl) | (obtain rfl : out = [] := List.eq_nil_of_length_eq_zero (by omega); rw [hn]; rfl)
end Go.Proofs.Ytkjniggdldpnoaa
