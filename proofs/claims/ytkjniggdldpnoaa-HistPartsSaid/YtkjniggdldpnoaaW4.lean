import Derived.Test.YtkjniggdldpnoaaW3
import Derived.Test.YtkjniggdldpnoaaQ4
set_option linter.unusedVariables false
set_option linter.unusedSimpArgs false
namespace Go.Proofs.Ytkjniggdldpnoaa
open Go Go.Abs

set_option maxRecDepth 20000 in
set_option maxHeartbeats 400000 in
theorem join_den (rows : List (List Sp)) (hl : rows.length ≤ 9223372036854775807) (hb : rows.flatten.length * 16 ≤ 140737488355328)  : Den Try.prog 24 [.sl 1 ((rows).map fun r => [AV.sl 2 (r.map spC)])]  (· = .sl 2 (normL rows.flatten |>.map spC)) := by
 refine den_of_aw Try.func24 rfl (Nat.le_of_ble_eq_true rfl) (fun w0 A hf => ?_)
 refine aw_seq_k (fun K1 hK1 => ?_)
 refine aw_region ?_
 refine x_pure rfl (p_assign_bad) ?_
 first | refine aops_end ?_ | refine aops_nil ?_
 refine hK1 _ ?_
 refine aw_seq_k (fun K2 hK2 => ?_)
 refine aw_region ?_
 refine x_pure rfl (p_move rfl) ?_
 refine x_step hf rfl (r_call rfl rfl Try.ent63 rfl (den_of_deno' (concat_den rows hl hb))) ?_
 refine x_step hf rfl (r_call rfl rfl Try.ent30 rfl (norm_den _ (by omega))) ?_
 refine x_pure rfl (p_assign rfl) ?_
 first | refine aops_end ?_ | refine aops_nil ?_
 refine hK2 _ ?_
 refine aw_ret ?_
 refine ⟨_, rfl, ?_⟩
 rfl

set_option maxRecDepth 20000 in
set_option maxHeartbeats 400000 in
theorem has1_den (s : Sp) (t : Int)  : Den Try.prog 83 [.agg (spC s), .adr [.s (.int .i64 t)]]  (· = .s (.bool (decide (s.1 ≤ t) && decide (t < s.2)))) := by
 refine den_of_aw Try.func83 rfl (Nat.le_of_ble_eq_true rfl) (fun w0 A hf => ?_)
 refine aw_seq_k (fun K1 hK1 => ?_)
 refine aw_region ?_
 refine x_step hf rfl (r_box rfl rfl (by simp [spC, AV.cells, AV.leaf, Value.oneCell', splice, AV.kill, AV.clean, cleanL, AV.only])) ?_
 refine x_pure rfl (p_assign_bad) ?_
 first | refine aops_end ?_ | refine aops_nil ?_
 refine hK1 _ ?_
 refine aw_seq_k (fun K2 hK2 => ?_)
 refine aw_region ?_
 first | refine x_pure rfl (p_loads rfl Try.g43 Try.c43 rfl rfl) ?_ | refine x_pure rfl (p_loadsr rfl Try.g43 Try.c43 rfl rfl rfl) ?_
 first | refine x_pure rfl (p_load1 rfl Try.g3 rfl) ?_ | refine x_pure rfl (p_load1r rfl Try.g3 rfl rfl) ?_ | refine x_pure rfl (p_load1r rfl Try.g3 rfl (strs_ref (by simp only [List.length_cons] at *; omega))) ?_ | refine x_pure rfl (p_load1r rfl Try.g3 rfl (strs_ref (by omega))) ?_
 refine x_step hf rfl (r_call rfl rfl Try.ent52 rfl (has_den _ _)) ?_
 refine x_pure rfl (p_assign rfl) ?_
 first | refine aops_end ?_ | refine aops_nil ?_
 refine hK2 _ ?_
 refine aw_ret ?_
 refine ⟨_, rfl, ?_⟩
 rfl

set_option maxRecDepth 20000 in
set_option maxHeartbeats 400000 in
theorem hasAny_den (l : List Sp) (t : Int) (hl : l.length ≤ 9223372036854775807)  : Den Try.prog 53 [.sl 2 (l.map spC), .s (.int .i64 t)]  (· = .s (.bool (hasB l t))) := by
 refine den_of_aw Try.func53 rfl (Nat.le_of_ble_eq_true rfl) (fun w0 A hf => ?_)
 refine aw_seq_k (fun K1 hK1 => ?_)
 refine aw_region ?_
 refine x_step hf rfl (r_box rfl rfl (by simp [AV.cells, AV.leaf, Value.oneCell', splice, AV.kill, AV.clean, cleanL, AV.only])) ?_
 refine x_pure rfl (p_assign_bad) ?_
 first | refine aops_end ?_ | refine aops_nil ?_
 refine hK1 _ ?_
 refine aw_seq_k (fun K2 hK2 => ?_)
 refine aw_region ?_
 refine x_pure rfl (p_move rfl) ?_
 refine x_pure rfl (p_makeFunc rfl) ?_
 refine x_step hf rfl (r_call rfl rfl Try.ent82 rfl (containsFunc_den Try.ent83 rfl (fun s => decide (s.1 ≤ t) && decide (t < s.2)) l hl (fun x _ => has1_den x t))) ?_
 refine x_pure rfl (p_assign rfl) ?_
 first | refine aops_end ?_ | refine aops_nil ?_
 refine hK2 _ ?_
 refine aw_ret ?_
 refine ⟨_, rfl, ?_⟩
 rfl

set_option maxRecDepth 20000 in
set_option maxHeartbeats 1000000 in
theorem meet_den (a b : List Sp) (ha : a.length ≤ 9223372036854775807) (hb0 : b.length ≤ 9223372036854775807) (hab : a.length * b.length * 16 ≤ 140737488355328)  : Den Try.prog 31 [.sl 2 (a.map spC), .sl 2 (b.map spC)]  (· = .sl 2 (meetL a b |>.map spC)) := by
 refine den_of_aw Try.func31 rfl (Nat.le_of_ble_eq_true rfl) (fun w0 A hf => ?_)
 refine aw_seq_k (fun K1 hK1 => ?_)
 refine aw_region ?_
 refine x_pure rfl (p_assign_bad) ?_
 first | refine aops_end ?_ | refine aops_nil ?_
 refine hK1 _ ?_
 refine aw_seq_k (fun K2 hK2 => ?_)
 refine aw_region ?_
 refine x_nil hf 2 rfl rfl rfl ?_
 first | refine aops_end ?_ | refine aops_nil ?_
 refine hK2 _ ?_
 refine aw_seq_k (fun K3 hK3 => ?_)
 refine aw_seq_k (fun K4 hK4 => ?_)
 refine aw_region ?_
 refine x_pure rfl (p_move rfl) ?_
 first | refine x_pure rfl (p_len_sl rfl Try.e33) ?_ | refine x_pure rfl (p_len_own rfl Try.e33) ?_ | refine x_pure rfl (p_len_nil rfl Try.e33) ?_
 refine x_pure rfl (p_move rfl) ?_
 first | refine aops_end ?_ | refine aops_nil ?_
 refine hK4 _ ?_
 refine aw_block ?_
 refine aw_loop (ι := Nat × List Sp) (fun (⟨k, out⟩ : Nat × List Sp) => ⟨32, [(1, .sl 2 (b.map spC)), (5, .own 5 2 0 out.length), (10, .sl 2 (a.map spC)), (11, .s (.int .i64 ((a.map spC).length : Nat))), (12, .s (.int .i64 (k : Nat)))], [(5, .buf 2 (out.map spC))]⟩) (fun (⟨k, out⟩ : Nat × List Sp) => k ≤ a.length ∧ out = meetsL (a.take k) b ∧ out.length = k * b.length) (fun (⟨k, out⟩ : Nat × List Sp) => a.length - k) (0, []) ?_ ?_ ?_
 · exact ⟨Nat.zero_le _, rfl, by simp⟩
 · exact le_of ⟨rfl, rfl, rfl, rfl, rfl, trivial⟩
 ·
  rintro ⟨k, out⟩ hC
  obtain ⟨h1, h2, h3⟩ := hC
  refine aw_seq_k (fun K5 hK5 => ?_)
  refine aw_region ?_
  refine x_pure rfl (p_bin rfl rfl rfl) ?_
  first | refine aops_end ?_ | refine aops_nil ?_
  refine hK5 _ ?_
  refine aw_seq_k (fun K6 hK6 => ?_)
  refine aw_cond_s rfl (fun hc1 => ?_) (fun hc1 => ?_)
  ·
   try simp only [bs] at hc1
   refine aw_skip ?_
   refine hK6 _ ?_
   refine aw_seq_k (fun K7 hK7 => ?_)
   refine aw_block ?_
   refine aw_seq_k (fun K8 hK8 => ?_)
   refine aw_region ?_
   first | refine x_pure rfl (p_idx_sl rfl rfl Try.e33 Try.c43 (by first | assumption | (refine ⟨by omega, ?_⟩; first | assumption | exact strs_at (by omega) | exact strs_at (by simp only [List.length_cons] at *; omega) | exact ints_at (by omega) | exact map_at (by omega) | exact list_at (by omega)) | exact ⟨by decide, rfl⟩)) ?_ | refine x_pure rfl (p_idx_own rfl rfl Try.e33 Try.c43 (by omega)) ?_
   first | refine x_pure rfl (p_loads rfl Try.g43 Try.c43 rfl rfl) ?_ | refine x_pure rfl (p_loadsr rfl Try.g43 Try.c43 rfl rfl rfl) ?_
   refine x_allocst hf rfl Try.z43 rfl Try.c43 rfl rfl rfl rfl (by simp [spC, AV.cells, AV.leaf, Value.oneCell', splice, AV.kill, AV.clean, cleanL, AV.only]) ?_
   first | refine aops_end ?_ | refine aops_nil ?_
   refine hK8 _ ?_
   refine aw_seq_k (fun K9 hK9 => ?_)
   refine aw_region ?_
   refine x_pure rfl (p_move rfl) ?_
   first | refine x_pure rfl (p_len_sl rfl Try.e33) ?_ | refine x_pure rfl (p_len_own rfl Try.e33) ?_ | refine x_pure rfl (p_len_nil rfl Try.e33) ?_
   refine x_pure rfl (p_move rfl) ?_
   first | refine aops_end ?_ | refine aops_nil ?_
   refine hK9 _ ?_
   refine aw_block ?_
   refine aw_loop (ι := Nat × List Sp) (fun (⟨j, o⟩ : Nat × List Sp) => ⟨32, [(1, .sl 2 (b.map spC)), (5, .own 5 2 0 o.length), (7, .adr (spC a[k])), (10, .sl 2 (a.map spC)), (11, .s (.int .i64 ((a.map spC).length : Nat))), (12, .s (.int .i64 (k : Nat))), (16, .sl 2 (b.map spC)), (17, .s (.int .i64 ((b.map spC).length : Nat))), (18, .s (.int .i64 (j : Nat)))], [(5, .buf 2 (o.map spC))]⟩) (fun (⟨j, o⟩ : Nat × List Sp) => j ≤ b.length ∧ o = out ++ (b.take j).map (meet1 a[k]) ∧ o.length = k * b.length + j) (fun (⟨j, o⟩ : Nat × List Sp) => b.length - j) (0, out) ?_ ?_ ?_
   · exact ⟨Nat.zero_le _, by simp, by omega⟩
   · exact le_of ⟨rfl, rfl, rfl, rfl, rfl, rfl, rfl, rfl, rfl, trivial⟩
   ·
    rintro ⟨j, o⟩ hC
    obtain ⟨h4, h5, h6⟩ := hC
    refine aw_seq_k (fun K10 hK10 => ?_)
    refine aw_region ?_
    refine x_pure rfl (p_bin rfl rfl rfl) ?_
    first | refine aops_end ?_ | refine aops_nil ?_
    refine hK10 _ ?_
    refine aw_seq_k (fun K11 hK11 => ?_)
    refine aw_cond_s rfl (fun hc2 => ?_) (fun hc2 => ?_)
    ·
     try simp only [bs] at hc2
     refine aw_skip ?_
     refine hK11 _ ?_
     refine aw_seq_k (fun K12 hK12 => ?_)
     refine aw_block ?_
     refine aw_seq_k (fun K13 hK13 => ?_)
     refine aw_region ?_
     first | refine x_pure rfl (p_idx_sl rfl rfl Try.e33 Try.c43 (by first | assumption | (refine ⟨by omega, ?_⟩; first | assumption | exact strs_at (by omega) | exact strs_at (by simp only [List.length_cons] at *; omega) | exact ints_at (by omega) | exact map_at (by omega) | exact list_at (by omega)) | exact ⟨by decide, rfl⟩)) ?_ | refine x_pure rfl (p_idx_own rfl rfl Try.e33 Try.c43 (by omega)) ?_
     first | refine x_pure rfl (p_loads rfl Try.g43 Try.c43 rfl rfl) ?_ | refine x_pure rfl (p_loadsr rfl Try.g43 Try.c43 rfl rfl rfl) ?_
     refine x_allocst hf rfl Try.z43 rfl Try.c43 rfl rfl rfl rfl (by simp [spC, AV.cells, AV.leaf, Value.oneCell', splice, AV.kill, AV.clean, cleanL, AV.only]) ?_
     first | refine aops_end ?_ | refine aops_nil ?_
     refine hK13 _ ?_
     refine aw_region ?_
     refine x_pure rfl (p_move rfl) ?_
     first | refine x_pure rfl (p_loads rfl Try.g43 Try.c43 rfl rfl) ?_ | refine x_pure rfl (p_loadsr rfl Try.g43 Try.c43 rfl rfl rfl) ?_
     first | refine x_pure rfl (p_loads rfl Try.g43 Try.c43 rfl rfl) ?_ | refine x_pure rfl (p_loadsr rfl Try.g43 Try.c43 rfl rfl rfl) ?_
     refine x_step hf rfl (r_call rfl rfl Try.ent62 rfl (meet1_den _ _)) ?_
     have hm := Nat.mul_le_mul_right b.length (show k + 1 ≤ a.length by omega)
     rw [Nat.add_mul, Nat.one_mul] at hm
     refine x_step hf rfl (r_buildSlice Try.ap33 rfl rfl rfl rfl (by simp [spC, AV.cells, AV.leaf, Value.oneCell', splice, AV.kill, AV.clean, cleanL, AV.only])) ?_
     refine x_append hf rfl Try.ap33 rfl rfl rfl (.inl rfl) (by rw [List.length_map]) rfl (by first | rfl | simp [asrc, look]) (by first | (simp only [maxLen, List.length_map, List.length_append, List.length_cons, List.length_nil]; omega) | (simp [maxLen] <;> omega)) (by first | (simp only [List.length_map, List.length_append, List.length_cons, List.length_nil]; omega) | (simp <;> omega)) ?_
     refine aops_le (le_of (sl' := [(1, _), (7, _), (10, _), (11, _), (12, _), (16, _), (17, _), (18, _), (27, _)]) ⟨rfl, rfl, rfl, rfl, rfl, rfl, rfl, rfl, rfl, trivial⟩) ?_
     refine x_pure rfl (p_assign rfl) ?_
     first | refine aops_end ?_ | refine aops_nil ?_
     refine hK12 _ ?_
     refine aw_region ?_
     first | refine x_pure rfl (p_add rfl rfl (by omega) (by omega)) ?_ | refine x_pure rfl (p_bin rfl rfl rfl) ?_
     refine x_pure rfl (p_move rfl) ?_
     first | refine aops_end ?_ | refine aops_nil ?_
     refine ⟨(j + 1, o ++ [meet1 a[k] b[j]]), ⟨by omega, by rw [h5, take_map b (meet1 a[k]) j (by omega), List.append_assoc], by rw [List.length_append, h6]; simp only [List.length_cons, List.length_nil]; omega⟩, by simp only; omega, ?_⟩
     exact le_to ⟨rfl, (by rw [List.length_append]; rfl), rfl, rfl, rfl, rfl, rfl, rfl, rfl, trivial⟩ (by rw [List.map_append]; rfl)
    ·
     try simp only [bs] at hc2
     refine aw_exit ?_
     refine hK7 _ ?_
     refine aw_region ?_
     first | refine x_pure rfl (p_add rfl rfl (by omega) (by omega)) ?_ | refine x_pure rfl (p_bin rfl rfl rfl) ?_
     refine x_pure rfl (p_move rfl) ?_
     first | refine aops_end ?_ | refine aops_nil ?_
     exact ⟨(k + 1, o), ⟨by omega, by rw [h5, h2, List.take_of_length_le (show b.length ≤ j by omega), meets_next a b k (by omega)], by rw [h6, Nat.add_mul, show j = b.length from by omega]; omega⟩, by simp only; omega, le_of ⟨rfl, rfl, rfl, rfl, rfl, trivial⟩⟩
  ·
   try simp only [bs] at hc1
   refine aw_exit ?_
   refine hK3 _ ?_
   refine aw_seq_k (fun K14 hK14 => ?_)
   refine aw_region ?_
   refine x_pure rfl (p_move rfl) ?_
   have hk : k = a.length := by omega
   refine aops_le (le_freeze (sl' := [(30, .sl 2 (out.map spC))]) ⟨⟨_, rfl, only_whole (g := 5) rfl (by rw [List.length_map])⟩, trivial⟩) ?_
   refine x_step hf rfl (r_call rfl rfl Try.ent30 rfl ((norm_den out (by rw [h3, hk]; exact hab)).mono (fun r h => h.trans (by rw [h2, List.take_of_length_le (by omega), meets_norm])))) ?_
   refine x_pure rfl (p_assign rfl) ?_
   first | refine aops_end ?_ | refine aops_nil ?_
   refine hK14 _ ?_
   refine aw_ret ?_
   refine ⟨_, rfl, ?_⟩
   rfl

set_option maxRecDepth 20000 in
set_option maxHeartbeats 2000000 in
theorem less_den (a b : List Sp) (hab : (a.length + b.length) * 128 ≤ 140737488355328)  : Den Try.prog 32 [.sl 2 (a.map spC), .sl 2 (b.map spC)]  (· = .sl 2 (lessL a b |>.map spC)) := by
 have hlen : ∀ k, ((b.take k).foldl lessStep (normL a)).length ≤ 2 * a.length + b.length := fun k => lessAt_len a b k
 refine den_of_aw Try.func32 rfl (Nat.le_of_ble_eq_true rfl) (fun w0 A hf => ?_)
 refine aw_seq_k (fun K1 hK1 => ?_)
 refine aw_region ?_
 refine x_pure rfl (p_assign_bad) ?_
 first | refine aops_end ?_ | refine aops_nil ?_
 refine hK1 _ ?_
 refine aw_seq_k (fun K2 hK2 => ?_)
 refine aw_region ?_
 refine x_pure rfl (p_move rfl) ?_
 refine x_step hf rfl (r_call rfl rfl Try.ent30 rfl (norm_den _ (by omega))) ?_
 refine x_pure rfl (p_assign rfl) ?_
 first | refine aops_end ?_ | refine aops_nil ?_
 refine hK2 _ ?_
 refine aw_seq_k (fun K3 hK3 => ?_)
 refine aw_seq_k (fun K4 hK4 => ?_)
 refine aw_region ?_
 refine x_pure rfl (p_move rfl) ?_
 first | refine x_pure rfl (p_len_sl rfl Try.e33) ?_ | refine x_pure rfl (p_len_own rfl Try.e33) ?_ | refine x_pure rfl (p_len_nil rfl Try.e33) ?_
 refine x_pure rfl (p_move rfl) ?_
 first | refine aops_end ?_ | refine aops_nil ?_
 refine hK4 _ ?_
 refine aw_block ?_
 refine aw_loop (ι := Nat × List Sp) (fun (⟨k, out⟩ : Nat × List Sp) => ⟨57, [(5, .sl 2 (out.map spC)), (13, .sl 2 (b.map spC)), (14, .s (.int .i64 ((b.map spC).length : Nat))), (15, .s (.int .i64 (k : Nat)))], []⟩) (fun (⟨k, out⟩ : Nat × List Sp) => k ≤ b.length ∧ out = (b.take k).foldl lessStep (normL a)) (fun (⟨k, out⟩ : Nat × List Sp) => b.length - k) (0, normL a) ?_ ?_ ?_
 · exact ⟨Nat.zero_le _, rfl⟩
 · exact le_of ⟨rfl, rfl, rfl, rfl, trivial⟩
 ·
  rintro ⟨k, out⟩ hC
  obtain ⟨h1, h2⟩ := hC
  have h3 := hlen k
  rw [← h2] at h3
  refine aw_seq_k (fun K5 hK5 => ?_)
  refine aw_region ?_
  refine x_pure rfl (p_bin rfl rfl rfl) ?_
  first | refine aops_end ?_ | refine aops_nil ?_
  refine hK5 _ ?_
  refine aw_seq_k (fun K6 hK6 => ?_)
  refine aw_cond_s rfl (fun hc1 => ?_) (fun hc1 => ?_)
  ·
   try simp only [bs] at hc1
   refine aw_skip ?_
   refine hK6 _ ?_
   refine aw_seq_k (fun K7 hK7 => ?_)
   refine aw_block ?_
   refine aw_seq_k (fun K8 hK8 => ?_)
   refine aw_region ?_
   first | refine x_pure rfl (p_idx_sl rfl rfl Try.e33 Try.c43 (by first | assumption | (refine ⟨by omega, ?_⟩; first | assumption | exact strs_at (by omega) | exact strs_at (by simp only [List.length_cons] at *; omega) | exact ints_at (by omega) | exact map_at (by omega) | exact list_at (by omega)) | exact ⟨by decide, rfl⟩)) ?_ | refine x_pure rfl (p_idx_own rfl rfl Try.e33 Try.c43 (by omega)) ?_
   first | refine x_pure rfl (p_loads rfl Try.g43 Try.c43 rfl rfl) ?_ | refine x_pure rfl (p_loadsr rfl Try.g43 Try.c43 rfl rfl rfl) ?_
   refine x_allocst hf rfl Try.z43 rfl Try.c43 rfl rfl rfl rfl (by simp [spC, AV.cells, AV.leaf, Value.oneCell', splice, AV.kill, AV.clean, cleanL, AV.only]) ?_
   first | refine aops_end ?_ | refine aops_nil ?_
   refine hK8 _ ?_
   refine aw_seq_k (fun K9 hK9 => ?_)
   refine aw_seq_k (fun K10 hK10 => ?_)
   refine aw_region ?_
   first | refine x_pure rfl (p_loads rfl Try.g43 Try.c43 rfl rfl) ?_ | refine x_pure rfl (p_loadsr rfl Try.g43 Try.c43 rfl rfl rfl) ?_
   refine x_step hf rfl (r_call rfl rfl Try.ent61 rfl (none_den _)) ?_
   first | refine aops_end ?_ | refine aops_nil ?_
   refine hK10 _ ?_
   refine aw_cond_s rfl (fun hc2 => ?_) (fun hc2 => ?_)
   ·
    try simp only [bs] at hc2
    refine aw_exit ?_
    refine hK7 _ ?_
    refine aw_region ?_
    first | refine x_pure rfl (p_add rfl rfl (by omega) (by omega)) ?_ | refine x_pure rfl (p_bin rfl rfl rfl) ?_
    refine x_pure rfl (p_move rfl) ?_
    first | refine aops_end ?_ | refine aops_nil ?_
    first
    | exact ⟨(k + 1, out), ⟨by omega, by rw [take_foldl b lessStep (normL a) k (by omega), ← h2, lessStep, if_pos (by assumption)]⟩, by simp only; omega, le_of ⟨rfl, rfl, rfl, rfl, trivial⟩⟩
    | exact ⟨(k + 1, left.filter fun x => !noTime x), ⟨by omega, by rw [take_foldl b lessStep (normL a) k (by omega), ← h2, lessStep, if_neg (by omega), noTime_filter, h5, List.take_of_length_le (show out.length ≤ j by omega)]⟩, by simp only; omega, le_of ⟨rfl, rfl, rfl, rfl, trivial⟩⟩
   ·
    try simp only [bs] at hc2
    refine aw_skip ?_
    refine hK9 _ ?_
    refine aw_seq_k (fun K11 hK11 => ?_)
    refine aw_region ?_
    refine x_nil hf 2 rfl rfl rfl ?_
    first | refine aops_end ?_ | refine aops_nil ?_
    refine hK11 _ ?_
    refine aw_seq_k (fun K12 hK12 => ?_)
    refine aw_seq_k (fun K13 hK13 => ?_)
    refine aw_region ?_
    refine x_pure rfl (p_move rfl) ?_
    first | refine x_pure rfl (p_len_sl rfl Try.e33) ?_ | refine x_pure rfl (p_len_own rfl Try.e33) ?_ | refine x_pure rfl (p_len_nil rfl Try.e33) ?_
    refine x_pure rfl (p_move rfl) ?_
    first | refine aops_end ?_ | refine aops_nil ?_
    refine hK13 _ ?_
    refine aw_block ?_
    refine aw_loop (ι := Nat × List Sp) (fun (⟨j, left⟩ : Nat × List Sp) => ⟨57, [(7, .adr (spC b[k])), (8, .own 8 2 0 left.length), (13, .sl 2 (b.map spC)), (14, .s (.int .i64 ((b.map spC).length : Nat))), (15, .s (.int .i64 (k : Nat))), (21, .sl 2 (out.map spC)), (22, .s (.int .i64 ((out.map spC).length : Nat))), (23, .s (.int .i64 (j : Nat)))], [(8, .buf 2 (left.map spC))]⟩) (fun (⟨j, left⟩ : Nat × List Sp) => j ≤ out.length ∧ left = (out.take j).flatMap (less1 b[k]) ∧ left.length = 2 * j) (fun (⟨j, left⟩ : Nat × List Sp) => out.length - j) (0, []) ?_ ?_ ?_
    · exact ⟨Nat.zero_le _, rfl, rfl⟩
    · exact le_of ⟨rfl, rfl, rfl, rfl, rfl, rfl, rfl, rfl, trivial⟩
    ·
     rintro ⟨j, left⟩ hC
     obtain ⟨h4, h5, h6⟩ := hC
     refine aw_seq_k (fun K14 hK14 => ?_)
     refine aw_region ?_
     refine x_pure rfl (p_bin rfl rfl rfl) ?_
     first | refine aops_end ?_ | refine aops_nil ?_
     refine hK14 _ ?_
     refine aw_seq_k (fun K15 hK15 => ?_)
     refine aw_cond_s rfl (fun hc3 => ?_) (fun hc3 => ?_)
     ·
      try simp only [bs] at hc3
      refine aw_skip ?_
      refine hK15 _ ?_
      refine aw_seq_k (fun K16 hK16 => ?_)
      refine aw_block ?_
      refine aw_seq_k (fun K17 hK17 => ?_)
      refine aw_region ?_
      first | refine x_pure rfl (p_idx_sl rfl rfl Try.e33 Try.c43 (by first | assumption | (refine ⟨by omega, ?_⟩; first | assumption | exact strs_at (by omega) | exact strs_at (by simp only [List.length_cons] at *; omega) | exact ints_at (by omega) | exact map_at (by omega) | exact list_at (by omega)) | exact ⟨by decide, rfl⟩)) ?_ | refine x_pure rfl (p_idx_own rfl rfl Try.e33 Try.c43 (by omega)) ?_
      first | refine x_pure rfl (p_loads rfl Try.g43 Try.c43 rfl rfl) ?_ | refine x_pure rfl (p_loadsr rfl Try.g43 Try.c43 rfl rfl rfl) ?_
      refine x_allocst hf rfl Try.z43 rfl Try.c43 rfl rfl rfl rfl (by simp [spC, AV.cells, AV.leaf, Value.oneCell', splice, AV.kill, AV.clean, cleanL, AV.only]) ?_
      first | refine aops_end ?_ | refine aops_nil ?_
      refine hK17 _ ?_
      refine aw_draw_tail hf (L := #[true, true, true, true, true, true, true, true, true, true, true, true, true, true, true, true, true, true, true, true, true, true, true, false, false]) 23 2 Try.mixed (by kernel_rfl) rfl (by kernel_rfl) rfl ?_
      refine d_pure [(8, _)] rfl rfl ⟨⟨rfl, rfl⟩, trivial⟩ rfl (p_move rfl) ?_
      refine d_pure [(8, _)] rfl rfl ⟨⟨rfl, rfl⟩, trivial⟩ rfl (p_move rfl) ?_
      first | refine d_pure [(28, _)] rfl rfl ⟨⟨rfl, rfl⟩, trivial⟩ rfl (p_len_sl rfl Try.e33) ?_ | refine d_pure [(28, _)] rfl rfl ⟨⟨rfl, rfl⟩, trivial⟩ rfl (p_len_own rfl Try.e33) ?_ | refine d_pure [(28, _)] rfl rfl ⟨⟨rfl, rfl⟩, trivial⟩ rfl (p_len_nil rfl Try.e33) ?_
      refine d_pure [(8, _)] rfl rfl ⟨⟨rfl, rfl⟩, trivial⟩ rfl (p_move rfl) ?_
      first | refine d_pure [(30, _)] rfl rfl ⟨⟨rfl, rfl⟩, trivial⟩ rfl (p_len_sl rfl Try.e33) ?_ | refine d_pure [(30, _)] rfl rfl ⟨⟨rfl, rfl⟩, trivial⟩ rfl (p_len_own rfl Try.e33) ?_ | refine d_pure [(30, _)] rfl rfl ⟨⟨rfl, rfl⟩, trivial⟩ rfl (p_len_nil rfl Try.e33) ?_
      refine d_pure [(27, _), (29, _), (31, _)] rfl rfl ⟨⟨rfl, rfl⟩, ⟨rfl, rfl⟩, ⟨rfl, rfl⟩, trivial⟩ rfl (p_slice3_own rfl Try.e33 Try.c43 rfl rfl rfl (by omega) (by omega) (by omega)) ?_
      first | refine d_pure [(10, _)] rfl rfl ⟨⟨rfl, rfl⟩, trivial⟩ rfl (p_fld_adr rfl Try.fd43_0 Try.c3 rfl) ?_ | refine d_pure [(10, _)] rfl rfl ⟨⟨rfl, rfl⟩, trivial⟩ rfl (p_fld_ref rfl Try.fd43_0 Try.c3 rfl) ?_
      first | refine d_pure [(33, _)] rfl rfl ⟨⟨rfl, rfl⟩, trivial⟩ rfl (p_load1 rfl Try.g3 rfl) ?_ | refine d_pure [(33, _)] rfl rfl ⟨⟨rfl, rfl⟩, trivial⟩ rfl (p_load1r rfl Try.g3 rfl rfl) ?_ | refine d_pure [(33, _)] rfl rfl ⟨⟨rfl, rfl⟩, trivial⟩ rfl (p_load1r rfl Try.g3 rfl (strs_ref (by simp only [List.length_cons] at *; omega))) ?_ | refine d_pure [(33, _)] rfl rfl ⟨⟨rfl, rfl⟩, trivial⟩ rfl (p_load1r rfl Try.g3 rfl (strs_ref (by omega))) ?_
      first | refine d_pure [(10, _)] rfl rfl ⟨⟨rfl, rfl⟩, trivial⟩ rfl (p_fld_adr rfl Try.fd43_1 Try.c3 rfl) ?_ | refine d_pure [(10, _)] rfl rfl ⟨⟨rfl, rfl⟩, trivial⟩ rfl (p_fld_ref rfl Try.fd43_1 Try.c3 rfl) ?_
      first | refine d_pure [(35, _)] rfl rfl ⟨⟨rfl, rfl⟩, trivial⟩ rfl (p_load1 rfl Try.g3 rfl) ?_ | refine d_pure [(35, _)] rfl rfl ⟨⟨rfl, rfl⟩, trivial⟩ rfl (p_load1r rfl Try.g3 rfl rfl) ?_ | refine d_pure [(35, _)] rfl rfl ⟨⟨rfl, rfl⟩, trivial⟩ rfl (p_load1r rfl Try.g3 rfl (strs_ref (by simp only [List.length_cons] at *; omega))) ?_ | refine d_pure [(35, _)] rfl rfl ⟨⟨rfl, rfl⟩, trivial⟩ rfl (p_load1r rfl Try.g3 rfl (strs_ref (by omega))) ?_
      first | refine d_pure [(7, _)] rfl rfl ⟨⟨rfl, rfl⟩, trivial⟩ rfl (p_fld_adr rfl Try.fd43_0 Try.c3 rfl) ?_ | refine d_pure [(7, _)] rfl rfl ⟨⟨rfl, rfl⟩, trivial⟩ rfl (p_fld_ref rfl Try.fd43_0 Try.c3 rfl) ?_
      first | refine d_pure [(37, _)] rfl rfl ⟨⟨rfl, rfl⟩, trivial⟩ rfl (p_load1 rfl Try.g3 rfl) ?_ | refine d_pure [(37, _)] rfl rfl ⟨⟨rfl, rfl⟩, trivial⟩ rfl (p_load1r rfl Try.g3 rfl rfl) ?_ | refine d_pure [(37, _)] rfl rfl ⟨⟨rfl, rfl⟩, trivial⟩ rfl (p_load1r rfl Try.g3 rfl (strs_ref (by simp only [List.length_cons] at *; omega))) ?_ | refine d_pure [(37, _)] rfl rfl ⟨⟨rfl, rfl⟩, trivial⟩ rfl (p_load1r rfl Try.g3 rfl (strs_ref (by omega))) ?_
      refine d_pure [(36, _), (38, _)] rfl rfl ⟨⟨rfl, rfl⟩, ⟨rfl, rfl⟩, trivial⟩ rfl (p_min rfl rfl) ?_
      refine d_pure [(34, _), (39, _)] rfl rfl ⟨⟨rfl, rfl⟩, ⟨rfl, rfl⟩, trivial⟩ rfl (p_build rfl Try.z43 Try.pl43 (by simp [spC, AV.cells, AV.one, Value.oneCell', splice, AV.kill, AV.clean, cleanL, AV.only]) rfl) ?_
      first | refine d_pure [(10, _)] rfl rfl ⟨⟨rfl, rfl⟩, trivial⟩ rfl (p_fld_adr rfl Try.fd43_0 Try.c3 rfl) ?_ | refine d_pure [(10, _)] rfl rfl ⟨⟨rfl, rfl⟩, trivial⟩ rfl (p_fld_ref rfl Try.fd43_0 Try.c3 rfl) ?_
      first | refine d_pure [(41, _)] rfl rfl ⟨⟨rfl, rfl⟩, trivial⟩ rfl (p_load1 rfl Try.g3 rfl) ?_ | refine d_pure [(41, _)] rfl rfl ⟨⟨rfl, rfl⟩, trivial⟩ rfl (p_load1r rfl Try.g3 rfl rfl) ?_ | refine d_pure [(41, _)] rfl rfl ⟨⟨rfl, rfl⟩, trivial⟩ rfl (p_load1r rfl Try.g3 rfl (strs_ref (by simp only [List.length_cons] at *; omega))) ?_ | refine d_pure [(41, _)] rfl rfl ⟨⟨rfl, rfl⟩, trivial⟩ rfl (p_load1r rfl Try.g3 rfl (strs_ref (by omega))) ?_
      first | refine d_pure [(7, _)] rfl rfl ⟨⟨rfl, rfl⟩, trivial⟩ rfl (p_fld_adr rfl Try.fd43_1 Try.c3 rfl) ?_ | refine d_pure [(7, _)] rfl rfl ⟨⟨rfl, rfl⟩, trivial⟩ rfl (p_fld_ref rfl Try.fd43_1 Try.c3 rfl) ?_
      first | refine d_pure [(43, _)] rfl rfl ⟨⟨rfl, rfl⟩, trivial⟩ rfl (p_load1 rfl Try.g3 rfl) ?_ | refine d_pure [(43, _)] rfl rfl ⟨⟨rfl, rfl⟩, trivial⟩ rfl (p_load1r rfl Try.g3 rfl rfl) ?_ | refine d_pure [(43, _)] rfl rfl ⟨⟨rfl, rfl⟩, trivial⟩ rfl (p_load1r rfl Try.g3 rfl (strs_ref (by simp only [List.length_cons] at *; omega))) ?_ | refine d_pure [(43, _)] rfl rfl ⟨⟨rfl, rfl⟩, trivial⟩ rfl (p_load1r rfl Try.g3 rfl (strs_ref (by omega))) ?_
      refine d_pure [(42, _), (44, _)] rfl rfl ⟨⟨rfl, rfl⟩, ⟨rfl, rfl⟩, trivial⟩ rfl (p_max rfl rfl) ?_
      first | refine d_pure [(10, _)] rfl rfl ⟨⟨rfl, rfl⟩, trivial⟩ rfl (p_fld_adr rfl Try.fd43_1 Try.c3 rfl) ?_ | refine d_pure [(10, _)] rfl rfl ⟨⟨rfl, rfl⟩, trivial⟩ rfl (p_fld_ref rfl Try.fd43_1 Try.c3 rfl) ?_
      first | refine d_pure [(46, _)] rfl rfl ⟨⟨rfl, rfl⟩, trivial⟩ rfl (p_load1 rfl Try.g3 rfl) ?_ | refine d_pure [(46, _)] rfl rfl ⟨⟨rfl, rfl⟩, trivial⟩ rfl (p_load1r rfl Try.g3 rfl rfl) ?_ | refine d_pure [(46, _)] rfl rfl ⟨⟨rfl, rfl⟩, trivial⟩ rfl (p_load1r rfl Try.g3 rfl (strs_ref (by simp only [List.length_cons] at *; omega))) ?_ | refine d_pure [(46, _)] rfl rfl ⟨⟨rfl, rfl⟩, trivial⟩ rfl (p_load1r rfl Try.g3 rfl (strs_ref (by omega))) ?_
      refine d_pure [(45, _), (47, _)] rfl rfl ⟨⟨rfl, rfl⟩, ⟨rfl, rfl⟩, trivial⟩ rfl (p_build rfl Try.z43 Try.pl43 (by simp [spC, AV.cells, AV.one, Value.oneCell', splice, AV.kill, AV.clean, cleanL, AV.only]) rfl) ?_
      refine d_rstep [(40, _), (48, _)] rfl rfl ⟨⟨rfl, rfl⟩, ⟨rfl, rfl⟩, trivial⟩ rfl (r_buildSlice Try.ap33 rfl rfl rfl rfl (by simp [spC, AV.cells, AV.leaf, Value.oneCell', splice, AV.kill, AV.clean, cleanL, AV.only])) ?_
      refine lex_tail (sl' := [(7, _), (8, _), (13, _), (14, _), (15, _), (21, _), (22, _), (23, _), (32, _), (49, _)]) rfl ⟨rfl, rfl, rfl, rfl, rfl, rfl, rfl, rfl, rfl, rfl, trivial⟩ rfl ?_
      refine aany_step 23 [] (by kernel_rfl) ⟨?_, trivial⟩
      ·
       refine ⟨_, rfl, rfl, ?_⟩
       refine aop_of_aops (ops := #[]) rfl ?_
       refine x_append hf rfl Try.ap33 rfl rfl rfl (.inl rfl) (by rw [List.length_map]; omega) rfl (by first | rfl | simp [asrc, look]) (by first | (simp only [maxLen, List.length_map, List.length_append, List.length_cons, List.length_nil]; omega) | (simp [maxLen] <;> omega)) (by first | (simp only [List.length_map, List.length_append, List.length_cons, List.length_nil]; omega) | (simp <;> omega)) ?_
       refine aops_le (le_of (sl' := [(7, _), (8, _), (13, _), (14, _), (15, _), (21, _), (22, _), (23, _), (50, _)]) ⟨rfl, rfl, rfl, rfl, rfl, rfl, rfl, rfl, rfl, trivial⟩) ?_
       refine aops_any ?_
       refine aany_step 24 [] (by kernel_rfl) ⟨?_, trivial⟩
       ·
        refine ⟨_, rfl, rfl, ?_⟩
        refine aop_of_aops (ops := #[]) rfl ?_
        refine x_pure rfl (p_assign rfl) ?_
        refine aops_any ?_
        refine aany_end (by kernel_rfl) ?_
        refine hK16 _ ?_
        refine aw_region ?_
        first | refine x_pure rfl (p_add rfl rfl (by omega) (by omega)) ?_ | refine x_pure rfl (p_bin rfl rfl rfl) ?_
        refine x_pure rfl (p_move rfl) ?_
        first | refine aops_end ?_ | refine aops_nil ?_
        refine ⟨(j + 1, left ++ less1 b[k] out[j]), ⟨by omega, by rw [h5, take_flatMap out (less1 b[k]) j (by omega)], by rw [List.length_append, h6]; simp only [less1, List.length_cons, List.length_nil]; omega⟩, by simp only; omega, ?_⟩
        exact le_to ⟨rfl, (by rw [List.length_append]; rfl), rfl, rfl, rfl, rfl, rfl, rfl, trivial⟩ (by rw [List.map_append]; rfl)
     ·
      try simp only [bs] at hc3
      refine aw_exit ?_
      refine hK12 _ ?_
      refine aw_region ?_
      refine x_pure rfl (p_move rfl) ?_
      refine y_callM hf 8 rfl rfl rfl rfl rfl Try.ent68 (deleteFunc_den Try.ent61 rfl (fun _ => rfl) noTime left _ rfl (by omega) (fun x _ => none_den x)) ?_
      rintro r zs ⟨rfl, rfl⟩
      refine aops_le (le_freeze (sl' := [(53, .sl 2 ((left.filter fun x => !noTime x).map spC)), (13, _), (14, _), (15, _)]) ⟨⟨_, rfl, only_whole (g := 8) rfl (by rw [List.length_map])⟩, ⟨_, rfl, rfl⟩, ⟨_, rfl, rfl⟩, ⟨_, rfl, rfl⟩, trivial⟩) ?_
      refine x_pure rfl (p_assign rfl) ?_
      first | refine aops_end ?_ | refine aops_nil ?_
      refine hK7 _ ?_
      refine aw_region ?_
      first | refine x_pure rfl (p_add rfl rfl (by omega) (by omega)) ?_ | refine x_pure rfl (p_bin rfl rfl rfl) ?_
      refine x_pure rfl (p_move rfl) ?_
      first | refine aops_end ?_ | refine aops_nil ?_
      first
      | exact ⟨(k + 1, out), ⟨by omega, by rw [take_foldl b lessStep (normL a) k (by omega), ← h2, lessStep, if_pos (by assumption)]⟩, by simp only; omega, le_of ⟨rfl, rfl, rfl, rfl, trivial⟩⟩
      | exact ⟨(k + 1, left.filter fun x => !noTime x), ⟨by omega, by rw [take_foldl b lessStep (normL a) k (by omega), ← h2, lessStep, if_neg (by omega), noTime_filter, h5, List.take_of_length_le (show out.length ≤ j by omega)]⟩, by simp only; omega, le_of ⟨rfl, rfl, rfl, rfl, trivial⟩⟩
  ·
   try simp only [bs] at hc1
   refine aw_exit ?_
   refine hK3 _ ?_
   refine aw_seq_k (fun K18 hK18 => ?_)
   refine aw_region ?_
   refine x_pure rfl (p_move rfl) ?_
   refine x_step hf rfl (r_call rfl rfl Try.ent30 rfl (norm_den _ (by omega))) ?_
   refine x_pure rfl (p_assign rfl) ?_
   first | refine aops_end ?_ | refine aops_nil ?_
   refine hK18 _ ?_
   refine aw_ret ?_
   refine ⟨_, rfl, ?_⟩
   show AV.sl 2 ((normL out).map spC) = _
   rw [h2, List.take_of_length_le (by omega), lesses_norm]
end Go.Proofs.Ytkjniggdldpnoaa
