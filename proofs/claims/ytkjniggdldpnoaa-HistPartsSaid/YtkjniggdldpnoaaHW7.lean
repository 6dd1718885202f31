import Derived.Test.YtkjniggdldpnoaaHW6
import Derived.Test.YtkjniggdldpnoaaH3
import Derived.Test.YtkjniggdldpnoaaW4
set_option linter.unusedVariables false
set_option linter.unusedSimpArgs false
namespace Go.Proofs.Ytkjniggdldpnoaa
open Go Go.Abs

theorem cutN_den (l : List Stay) (b : List Sp) (h1 : l.length ≤ 100000) (h2 : b.length ≤ 100000) : Den Try.prog 49 [.sl 4 (l.map stC), .sl 2 (b.map spC)] (· = .sl 4 ((cutS l b).map stC)) :=
  cutS_den l b (by omega) (by omega) (by have := norm_len b; have := Nat.mul_le_mul (show l.length ≤ 100000 by omega) (show (normL b).length ≤ 200000 by omega); omega)
theorem refCutN_den (l : List Stay) (b : List Sp) (h1 : l.length ≤ 100000) (h2 : b.length ≤ 100000) : Den Try.prog 50 [.sl 4 (l.map stC), .sl 2 (b.map spC)] (· = .sl 4 ((cutS l b).map stC)) :=
  refCutS_den l b (by omega) (by omega) (by have := norm_len b; have := Nat.mul_le_mul (show l.length ≤ 100000 by omega) (show (normL b).length ≤ 200000 by omega); omega)
theorem cutN_len (l : List Stay) (b : List Sp) (h1 : l.length ≤ 30) (h2 : b.length ≤ 30) : (cutS l b).length ≤ 1800 := by
  have := cut_len l b
  have := norm_len b
  have := Nat.mul_le_mul h1 (show (normL b).length ≤ 60 by omega)
  omega

set_option maxRecDepth 20000 in
set_option maxHeartbeats 8000000 in
theorem histCuts_den (l : List Stay) (b : List Sp) (hl : l.length * 32 ≤ 140737488351232) (hb : b.length * 16 ≤ 140737488351232)  : Den Try.prog 12 [.sl 4 (l.map stC), .sl 2 (b.map spC)]  (· = .s (.bool true)) := by
 refine den_of_aw Try.func12 rfl (Nat.le_of_ble_eq_true rfl) (fun w0 A hf => ?_)
 refine aw_seq_k (fun K1 hK1 => ?_)
 refine aw_region ?_
 refine x_pure rfl (p_assign_bad) ?_
 first | refine aops_end ?_ | refine aops_nil ?_
 refine hK1 _ ?_
 refine aw_seq_k (fun K2 hK2 => ?_)
 refine aw_seq_k (fun K3 hK3 => ?_)
 refine aw_region ?_
 refine x_pure rfl (p_move rfl) ?_
 first | refine x_pure rfl (p_len_sl rfl Try.e54) ?_ | refine x_pure rfl (p_len_own rfl Try.e54) ?_ | refine x_pure rfl (p_len_nil rfl Try.e54) ?_
 refine x_pure rfl (p_bin rfl rfl rfl) ?_
 refine x_pure rfl (p_move rfl) ?_
 refine y_guard_s rfl rfl rfl (fun hg1 => ?_) (fun hg1 => ?_)
 ·
  try simp only [bs] at hg1
  refine x_pure rfl (p_move rfl) ?_
  refine x_guard_t rfl rfl rfl ?_
  first | refine x_pure rfl (p_len_sl rfl Try.e31) ?_ | refine x_pure rfl (p_len_own rfl Try.e31) ?_ | refine x_pure rfl (p_len_nil rfl Try.e31) ?_
  refine x_guard_t rfl rfl rfl ?_
  refine x_pure rfl (p_bin rfl rfl rfl) ?_
  refine x_pure rfl (p_pick_f rfl rfl) ?_
  first | refine aops_end ?_ | refine aops_nil ?_
  refine hK3 _ ?_
  refine aw_cond_s rfl (fun hc2 => ?_) (fun hc2 => ?_)
  ·
   try simp only [bs] at hc2
   refine aw_seq_k (fun K4 hK4 => ?_)
   refine aw_region ?_
   refine x_step hf rfl (r_call rfl rfl Try.ent33 rfl (alive8_den)) ?_
   refine x_pure rfl (p_assign rfl) ?_
   first | refine aops_end ?_ | refine aops_nil ?_
   refine hK4 _ ?_
   refine aw_ret ?_
   refine ⟨_, rfl, ?_⟩
   rfl
  ·
   try simp only [bs] at hc2
   refine aw_skip ?_
   refine hK2 _ ?_
   refine aw_seq_k (fun K5 hK5 => ?_)
   refine aw_region ?_
   refine x_pure rfl (p_move rfl) ?_
   refine x_step hf rfl (r_call rfl rfl Try.ent21 rfl (news_den _ (by omega))) ?_
   refine x_pure rfl (p_assign rfl) ?_
   first | refine aops_end ?_ | refine aops_nil ?_
   refine hK5 _ ?_
   refine aw_seq_k (fun K6 hK6 => ?_)
   refine aw_region ?_
   have hcl := cutN_len l b (by omega) (by omega)
   refine x_pure rfl (p_move rfl) ?_
   refine x_step hf rfl (r_call rfl rfl Try.ent38 rfl (newsS_den _ (by omega))) ?_
   refine x_pure rfl (p_move rfl) ?_
   refine x_step hf rfl (r_call rfl rfl Try.ent49 rfl (cutN_den _ _ (by omega) (by omega))) ?_
   refine x_pure rfl (p_assign rfl) ?_
   first | refine aops_end ?_ | refine aops_nil ?_
   refine hK6 _ ?_
   refine aw_seq_k (fun K7 hK7 => ?_)
   refine aw_seq_k (fun K8 hK8 => ?_)
   refine aw_region ?_
   refine x_pure rfl (p_move rfl) ?_
   refine x_step hf rfl (r_call rfl rfl Try.ent42 rfl (oldsS_den _ (by omega))) ?_
   refine x_pure rfl (p_move rfl) ?_
   refine x_pure rfl (p_move rfl) ?_
   refine x_step hf rfl (r_call rfl rfl Try.ent50 rfl (refCutN_den _ _ (by omega) (by omega))) ?_
   refine x_step hf rfl (r_call rfl rfl Try.ent41 rfl (refSame8T_den _ _ rfl (by omega))) ?_
   refine x_pure rfl (p_not rfl) ?_
   first | refine aops_end ?_ | refine aops_nil ?_
   refine hK8 _ ?_
   refine aw_cond_f rfl ?_
   refine aw_skip ?_
   refine hK7 _ ?_
   refine aw_seq_k (fun K9 hK9 => ?_)
   refine aw_seq_k (fun K10 hK10 => ?_)
   refine aw_region ?_
   refine x_pure rfl (p_move rfl) ?_
   first | refine x_pure rfl (p_len_sl rfl Try.e61) ?_ | refine x_pure rfl (p_len_own rfl Try.e61) ?_ | refine x_pure rfl (p_len_nil rfl Try.e61) ?_
   refine x_pure rfl (p_move rfl) ?_
   first | refine aops_end ?_ | refine aops_nil ?_
   refine hK10 _ ?_
   refine aw_block ?_
   refine aw_loop (ι := Nat) (fun k => ⟨53, [(5, .sl 2 (b.map spC)), (6, .sl 4 ((cutS l b).map stC)), (31, .sl 4 ((cutS l b).map stC)), (32, .s (.int .i64 (((cutS l b).map stC).length : Nat))), (33, .s (.int .i64 (k : Nat)))], []⟩) (fun k => k ≤ (cutS l b).length) (fun k => (cutS l b).length - k) 0 ?_ ?_ ?_
   · exact Nat.zero_le _
   · exact le_of ⟨rfl, rfl, rfl, rfl, rfl, trivial⟩
   ·
    rintro k hC
    refine aw_seq_k (fun K11 hK11 => ?_)
    refine aw_region ?_
    refine x_pure rfl (p_bin rfl rfl rfl) ?_
    first | refine aops_end ?_ | refine aops_nil ?_
    refine hK11 _ ?_
    refine aw_seq_k (fun K12 hK12 => ?_)
    refine aw_cond_s rfl (fun hc4 => ?_) (fun hc4 => ?_)
    ·
     try simp only [bs] at hc4
     refine aw_skip ?_
     refine hK12 _ ?_
     refine aw_seq_k (fun K13 hK13 => ?_)
     refine aw_block ?_
     refine aw_seq_k (fun K14 hK14 => ?_)
     refine aw_region ?_
     first | refine x_pure rfl (p_idx_sl rfl rfl Try.e61 Try.c57 (by first | assumption | (refine ⟨by omega, ?_⟩; first | assumption | exact strs_at (by omega) | exact strs_at (by simp only [List.length_cons] at *; omega) | exact ints_at (by omega) | exact map_at (by omega) | exact list_at (by omega)) | exact ⟨by decide, rfl⟩)) ?_ | refine x_pure rfl (p_idx_own rfl rfl Try.e61 Try.c57 (by omega)) ?_
     first | refine x_pure rfl (p_loads rfl Try.g57 Try.c57 rfl rfl) ?_ | refine x_pure rfl (p_loadsr rfl Try.g57 Try.c57 rfl rfl rfl) ?_
     refine x_allocst hf rfl Try.z57 rfl Try.c57 rfl rfl rfl rfl (by simp [stC, spC, AV.cells, AV.leaf, Value.oneCell', splice, AV.kill, AV.clean, cleanL, AV.only]) ?_
     first | refine aops_end ?_ | refine aops_nil ?_
     refine hK14 _ ?_
     refine aw_seq_k (fun K15 hK15 => ?_)
     refine aw_region ?_
     first | refine x_pure rfl (p_fld_adr rfl Try.fd57_0 Try.c43 rfl) ?_ | refine x_pure rfl (p_fld_ref rfl Try.fd57_0 Try.c43 rfl) ?_
     first | refine x_pure rfl (p_loads rfl Try.g43 Try.c43 rfl rfl) ?_ | refine x_pure rfl (p_loadsr rfl Try.g43 Try.c43 rfl rfl rfl) ?_
     refine x_step hf rfl (r_buildSlice Try.ap33 rfl rfl rfl rfl (by simp [stC, spC, AV.cells, AV.leaf, Value.oneCell', splice, AV.kill, AV.clean, cleanL, AV.only])) ?_
     refine x_pure rfl (p_move rfl) ?_
     refine x_step hf rfl (r_call rfl rfl Try.ent32 rfl (less_den [(cutS l b)[k].1] b (by simp only [List.length_cons, List.length_nil]; omega))) ?_
     rw [cut_less (List.getElem_mem (show k < (cutS l b).length by omega))]
     first | refine x_pure rfl (p_len_sl rfl Try.e33) ?_ | refine x_pure rfl (p_len_own rfl Try.e33) ?_ | refine x_pure rfl (p_len_nil rfl Try.e33) ?_
     refine x_pure rfl (p_bin rfl rfl rfl) ?_
     first | refine aops_end ?_ | refine aops_nil ?_
     refine hK15 _ ?_
     refine aw_cond_f rfl ?_
     refine aw_skip ?_
     refine hK13 _ ?_
     refine aw_region ?_
     first | refine x_pure rfl (p_add rfl rfl (by omega) (by omega)) ?_ | refine x_pure rfl (p_bin rfl rfl rfl) ?_
     refine x_pure rfl (p_move rfl) ?_
     first | refine aops_end ?_ | refine aops_nil ?_
     exact ⟨k+1, (by omega), by omega, le_of ⟨rfl, rfl, rfl, rfl, rfl, trivial⟩⟩
    ·
     try simp only [bs] at hc4
     refine aw_exit ?_
     refine hK9 _ ?_
     refine aw_seq_k (fun K16 hK16 => ?_)
     refine aw_region ?_
     refine x_step hf rfl (r_call rfl rfl Try.ent33 rfl (alive8_den)) ?_
     refine x_pure rfl (p_move rfl) ?_
     refine x_guard_t rfl rfl rfl ?_
     refine x_pure rfl (p_move rfl) ?_
     refine x_guard_t rfl rfl rfl ?_
     refine x_pure rfl (p_move rfl) ?_
     refine x_guard_t rfl rfl rfl ?_
     refine x_step hf rfl (r_call rfl rfl Try.ent49 rfl (cutN_den _ _ (by omega) (by omega))) ?_
     refine x_guard_t rfl rfl rfl ?_
     refine x_pure rfl (p_move rfl) ?_
     refine x_guard_t rfl rfl rfl ?_
     refine x_step hf rfl (r_call rfl rfl Try.ent48 rfl (same8T_den _ _ (cut_again l b) (by rw [cut_again]; omega))) ?_
     refine x_pure rfl (p_pick_t rfl rfl) ?_
     refine x_pure rfl (p_assign rfl) ?_
     first | refine aops_end ?_ | refine aops_nil ?_
     refine hK16 _ ?_
     refine aw_ret ?_
     refine ⟨_, rfl, ?_⟩
     rfl
 ·
  try simp only [bs] at hg1
  refine x_guard_f rfl rfl rfl ?_
  refine x_guard_f rfl rfl rfl ?_
  refine x_pure rfl (p_pick_t rfl rfl) ?_
  first | refine aops_end ?_ | refine aops_nil ?_
  refine hK3 _ ?_
  refine aw_cond_t rfl ?_
  refine aw_seq_k (fun K17 hK17 => ?_)
  refine aw_region ?_
  refine x_step hf rfl (r_call rfl rfl Try.ent33 rfl (alive8_den)) ?_
  refine x_pure rfl (p_assign rfl) ?_
  first | refine aops_end ?_ | refine aops_nil ?_
  refine hK17 _ ?_
  refine aw_ret ?_
  refine ⟨_, rfl, ?_⟩
  rfl

set_option maxRecDepth 20000 in
set_option maxHeartbeats 8000000 in
theorem histNarrows_den (l : List Stay) (a b : List Sp) (hl : l.length * 32 ≤ 140737488351232) (ha : a.length * 16 ≤ 140737488351232) (hb : b.length * 16 ≤ 140737488351232)  : Den Try.prog 11 [.sl 4 (l.map stC), .sl 2 (a.map spC), .sl 2 (b.map spC)]  (· = .s (.bool true)) := by
 refine den_of_aw Try.func11 rfl (Nat.le_of_ble_eq_true rfl) (fun w0 A hf => ?_)
 refine aw_seq_k (fun K1 hK1 => ?_)
 refine aw_region ?_
 refine x_pure rfl (p_assign_bad) ?_
 first | refine aops_end ?_ | refine aops_nil ?_
 refine hK1 _ ?_
 refine aw_seq_k (fun K2 hK2 => ?_)
 refine aw_seq_k (fun K3 hK3 => ?_)
 refine aw_region ?_
 refine x_pure rfl (p_move rfl) ?_
 first | refine x_pure rfl (p_len_sl rfl Try.e54) ?_ | refine x_pure rfl (p_len_own rfl Try.e54) ?_ | refine x_pure rfl (p_len_nil rfl Try.e54) ?_
 refine x_pure rfl (p_bin rfl rfl rfl) ?_
 refine x_pure rfl (p_move rfl) ?_
 refine y_guard_s rfl rfl rfl (fun hg1 => ?_) (fun hg1 => ?_)
 ·
  try simp only [bs] at hg1
  refine x_pure rfl (p_move rfl) ?_
  refine x_guard_t rfl rfl rfl ?_
  first | refine x_pure rfl (p_len_sl rfl Try.e31) ?_ | refine x_pure rfl (p_len_own rfl Try.e31) ?_ | refine x_pure rfl (p_len_nil rfl Try.e31) ?_
  refine x_guard_t rfl rfl rfl ?_
  refine x_pure rfl (p_bin rfl rfl rfl) ?_
  refine x_pure rfl (p_pick_f rfl rfl) ?_
  refine x_pure rfl (p_move rfl) ?_
  refine y_guard_s rfl rfl rfl (fun hg2 => ?_) (fun hg2 => ?_)
  ·
   try simp only [bs] at hg2
   refine x_pure rfl (p_move rfl) ?_
   refine x_guard_t rfl rfl rfl ?_
   first | refine x_pure rfl (p_len_sl rfl Try.e31) ?_ | refine x_pure rfl (p_len_own rfl Try.e31) ?_ | refine x_pure rfl (p_len_nil rfl Try.e31) ?_
   refine x_guard_t rfl rfl rfl ?_
   refine x_pure rfl (p_bin rfl rfl rfl) ?_
   refine x_pure rfl (p_pick_f rfl rfl) ?_
   first | refine aops_end ?_ | refine aops_nil ?_
   refine hK3 _ ?_
   refine aw_cond_s rfl (fun hc3 => ?_) (fun hc3 => ?_)
   ·
    try simp only [bs] at hc3
    refine aw_seq_k (fun K4 hK4 => ?_)
    refine aw_region ?_
    refine x_step hf rfl (r_call rfl rfl Try.ent33 rfl (alive8_den)) ?_
    refine x_pure rfl (p_assign rfl) ?_
    first | refine aops_end ?_ | refine aops_nil ?_
    refine hK4 _ ?_
    refine aw_ret ?_
    refine ⟨_, rfl, ?_⟩
    rfl
   ·
    try simp only [bs] at hc3
    refine aw_skip ?_
    refine hK2 _ ?_
    refine aw_seq_k (fun K5 hK5 => ?_)
    refine aw_region ?_
    refine x_pure rfl (p_move rfl) ?_
    refine x_step hf rfl (r_call rfl rfl Try.ent21 rfl (news_den _ (by omega))) ?_
    refine x_pure rfl (p_move rfl) ?_
    refine x_step hf rfl (r_call rfl rfl Try.ent21 rfl (news_den _ (by omega))) ?_
    refine x_pure rfl (p_assign rfl) ?_
    refine x_pure rfl (p_assign rfl) ?_
    first | refine aops_end ?_ | refine aops_nil ?_
    refine hK5 _ ?_
    refine aw_seq_k (fun K6 hK6 => ?_)
    refine aw_region ?_
    have hcl := cutN_len l a (by omega) (by omega)
    have hcl2 := cut_len (cutS l a) b
    have hnb := norm_len b
    have hml := meet_len a b
    have hm1 := Nat.mul_le_mul (show (cutS l a).length ≤ 1800 by omega) (show (normL b).length ≤ 30 by omega)
    have hm2 := Nat.mul_le_mul (show a.length ≤ 15 by omega) (show b.length ≤ 15 by omega)
    refine x_pure rfl (p_move rfl) ?_
    refine x_step hf rfl (r_call rfl rfl Try.ent38 rfl (newsS_den _ (by omega))) ?_
    refine x_pure rfl (p_move rfl) ?_
    refine x_step hf rfl (r_call rfl rfl Try.ent49 rfl (cutN_den _ _ (by omega) (by omega))) ?_
    refine x_pure rfl (p_move rfl) ?_
    refine x_step hf rfl (r_call rfl rfl Try.ent49 rfl (cutN_den _ _ (by omega) (by omega))) ?_
    refine x_pure rfl (p_move rfl) ?_
    refine x_step hf rfl (r_call rfl rfl Try.ent38 rfl (newsS_den _ (by omega))) ?_
    refine x_pure rfl (p_move rfl) ?_
    refine x_pure rfl (p_move rfl) ?_
    refine x_step hf rfl (r_call rfl rfl Try.ent31 rfl (meet_den a b (by omega) (by omega) (by omega))) ?_
    refine x_step hf rfl (r_call rfl rfl Try.ent49 rfl (cutN_den _ _ (by omega) (by omega))) ?_
    refine x_step hf rfl (r_call rfl rfl Try.ent48 rfl (same8T_den _ _ (cut_narrow l a b) (by omega))) ?_
    refine x_pure rfl (p_move rfl) ?_
    refine x_guard_t rfl rfl rfl ?_
    refine x_step hf rfl (r_call rfl rfl Try.ent33 rfl (alive8_den)) ?_
    refine x_pure rfl (p_pick_t rfl rfl) ?_
    refine x_pure rfl (p_assign rfl) ?_
    first | refine aops_end ?_ | refine aops_nil ?_
    refine hK6 _ ?_
    refine aw_ret ?_
    refine ⟨_, rfl, ?_⟩
    rfl
  ·
   try simp only [bs] at hg2
   refine x_guard_f rfl rfl rfl ?_
   refine x_guard_f rfl rfl rfl ?_
   refine x_pure rfl (p_pick_t rfl rfl) ?_
   first | refine aops_end ?_ | refine aops_nil ?_
   refine hK3 _ ?_
   refine aw_cond_t rfl ?_
   refine aw_seq_k (fun K7 hK7 => ?_)
   refine aw_region ?_
   refine x_step hf rfl (r_call rfl rfl Try.ent33 rfl (alive8_den)) ?_
   refine x_pure rfl (p_assign rfl) ?_
   first | refine aops_end ?_ | refine aops_nil ?_
   refine hK7 _ ?_
   refine aw_ret ?_
   refine ⟨_, rfl, ?_⟩
   rfl
 ·
  try simp only [bs] at hg1
  refine x_guard_f rfl rfl rfl ?_
  refine x_guard_f rfl rfl rfl ?_
  refine x_pure rfl (p_pick_t rfl rfl) ?_
  refine x_pure rfl (p_move rfl) ?_
  refine x_guard_f rfl rfl rfl ?_
  refine x_guard_f rfl rfl rfl ?_
  refine x_guard_f rfl rfl rfl ?_
  refine x_pure rfl (p_pick_t rfl rfl) ?_
  first | refine aops_end ?_ | refine aops_nil ?_
  refine hK3 _ ?_
  refine aw_cond_t rfl ?_
  refine aw_seq_k (fun K8 hK8 => ?_)
  refine aw_region ?_
  refine x_step hf rfl (r_call rfl rfl Try.ent33 rfl (alive8_den)) ?_
  refine x_pure rfl (p_assign rfl) ?_
  first | refine aops_end ?_ | refine aops_nil ?_
  refine hK8 _ ?_
  refine aw_ret ?_
  refine ⟨_, rfl, ?_⟩
  rfl

set_option maxRecDepth 20000 in
set_option maxHeartbeats 400000 in
theorem histCnt_den (l : List Stay) (t : Int) (hl : l.length ≤ 9223372036854775807)  : Den Try.prog 51 [.sl 4 (l.map stC), .adr [.s (.int .i64 t)]]  (· = .s (.int .i64 (cntS l t : Nat))) := by
 refine den_of_aw Try.func51 rfl (Nat.le_of_ble_eq_true rfl) (fun w0 A hf => ?_)
 refine aw_seq_k (fun K1 hK1 => ?_)
 refine aw_region ?_
 refine x_pure rfl (p_assign_bad) ?_
 first | refine aops_end ?_ | refine aops_nil ?_
 refine hK1 _ ?_
 refine aw_seq_k (fun K2 hK2 => ?_)
 refine aw_region ?_
 refine x_pure rfl (p_assign rfl) ?_
 first | refine aops_end ?_ | refine aops_nil ?_
 refine hK2 _ ?_
 refine aw_seq_k (fun K3 hK3 => ?_)
 refine aw_seq_k (fun K4 hK4 => ?_)
 refine aw_region ?_
 refine x_pure rfl (p_move rfl) ?_
 first | refine x_pure rfl (p_len_sl rfl Try.e61) ?_ | refine x_pure rfl (p_len_own rfl Try.e61) ?_ | refine x_pure rfl (p_len_nil rfl Try.e61) ?_
 refine x_pure rfl (p_move rfl) ?_
 first | refine aops_end ?_ | refine aops_nil ?_
 refine hK4 _ ?_
 refine aw_block ?_
 refine aw_loop (ι := Nat) (fun k => ⟨21, [(1, .adr [.s (.int .i64 t)]), (4, .s (.int .i64 (cntS (l.take k) t : Nat))), (7, .sl 4 (l.map stC)), (8, .s (.int .i64 ((l.map stC).length : Nat))), (9, .s (.int .i64 (k : Nat)))], []⟩) (fun k => k ≤ l.length) (fun k => l.length - k) 0 ?_ ?_ ?_
 · exact Nat.zero_le _
 · exact le_of ⟨rfl, rfl, rfl, rfl, rfl, trivial⟩
 ·
  rintro k hC
  refine aw_seq_k (fun K5 hK5 => ?_)
  refine aw_region ?_
  refine x_pure rfl (p_bin rfl rfl rfl) ?_
  first | refine aops_end ?_ | refine aops_nil ?_
  refine hK5 _ ?_
  refine aw_seq_k (fun K6 hK6 => ?_)
  refine aw_cond_s rfl (fun hc1 => ?_) (fun hc1 => ?_)
  ·
   try simp only [bs] at hc1
   refine aw_skip ?_
   refine hK6 _ ?_
   refine aw_seq_k (fun K7 hK7 => ?_)
   refine aw_block ?_
   refine aw_seq_k (fun K8 hK8 => ?_)
   refine aw_region ?_
   first | refine x_pure rfl (p_idx_sl rfl rfl Try.e61 Try.c57 (by first | assumption | (refine ⟨by omega, ?_⟩; first | assumption | exact strs_at (by omega) | exact strs_at (by simp only [List.length_cons] at *; omega) | exact ints_at (by omega) | exact map_at (by omega) | exact list_at (by omega)) | exact ⟨by decide, rfl⟩)) ?_ | refine x_pure rfl (p_idx_own rfl rfl Try.e61 Try.c57 (by omega)) ?_
   first | refine x_pure rfl (p_loads rfl Try.g57 Try.c57 rfl rfl) ?_ | refine x_pure rfl (p_loadsr rfl Try.g57 Try.c57 rfl rfl rfl) ?_
   refine x_allocst hf rfl Try.z57 rfl Try.c57 rfl rfl rfl rfl (by simp [stC, spC, AV.cells, AV.leaf, Value.oneCell', splice, AV.kill, AV.clean, cleanL, AV.only]) ?_
   first | refine aops_end ?_ | refine aops_nil ?_
   refine hK8 _ ?_
   refine aw_seq_k (fun K9 hK9 => ?_)
   refine aw_region ?_
   first | refine x_pure rfl (p_fld_adr rfl Try.fd57_0 Try.c43 rfl) ?_ | refine x_pure rfl (p_fld_ref rfl Try.fd57_0 Try.c43 rfl) ?_
   first | refine x_pure rfl (p_loads rfl Try.g43 Try.c43 rfl rfl) ?_ | refine x_pure rfl (p_loadsr rfl Try.g43 Try.c43 rfl rfl rfl) ?_
   first | refine x_pure rfl (p_load1 rfl Try.g3 rfl) ?_ | refine x_pure rfl (p_load1r rfl Try.g3 rfl rfl) ?_ | refine x_pure rfl (p_load1r rfl Try.g3 rfl (strs_ref (by simp only [List.length_cons] at *; omega))) ?_ | refine x_pure rfl (p_load1r rfl Try.g3 rfl (strs_ref (by omega))) ?_
   refine x_step hf rfl (r_call rfl rfl Try.ent52 rfl (has_den l[k].1 t)) ?_
   first | refine aops_end ?_ | refine aops_nil ?_
   refine hK9 _ ?_
   refine aw_cond_s rfl (fun hc2 => ?_) (fun hc2 => ?_)
   ·
    try simp only [bs] at hc2
    refine aw_region ?_
    have hck := cnt_le (l.take k) t
    have htl : (l.take k).length ≤ k := by rw [List.length_take]; omega
    refine x_pure rfl (p_move rfl) ?_
    first | refine x_pure rfl (p_add rfl rfl (by omega) (by omega)) ?_ | refine x_pure rfl (p_bin rfl rfl rfl) ?_
    refine x_pure rfl (p_assign rfl) ?_
    first | refine aops_end ?_ | refine aops_nil ?_
    refine hK7 _ ?_
    refine aw_region ?_
    first | refine x_pure rfl (p_add rfl rfl (by omega) (by omega)) ?_ | refine x_pure rfl (p_bin rfl rfl rfl) ?_
    refine x_pure rfl (p_move rfl) ?_
    first | refine aops_end ?_ | refine aops_nil ?_
    first
    | exact ⟨k + 1, by omega, by omega, le_to ⟨rfl, slot_int (by rw [cnt_next_t (by omega) (by simp_all)]; omega), rfl, rfl, rfl, trivial⟩ rfl⟩
    | exact ⟨k + 1, by omega, by omega, le_to ⟨rfl, slot_int (by rw [cnt_next_f (by omega) (by simp_all)]), rfl, rfl, rfl, trivial⟩ rfl⟩
   ·
    try simp only [bs] at hc2
    refine aw_skip ?_
    refine hK7 _ ?_
    refine aw_region ?_
    first | refine x_pure rfl (p_add rfl rfl (by omega) (by omega)) ?_ | refine x_pure rfl (p_bin rfl rfl rfl) ?_
    refine x_pure rfl (p_move rfl) ?_
    first | refine aops_end ?_ | refine aops_nil ?_
    first
    | exact ⟨k + 1, by omega, by omega, le_to ⟨rfl, slot_int (by rw [cnt_next_t (by omega) (by simp_all)]; omega), rfl, rfl, rfl, trivial⟩ rfl⟩
    | exact ⟨k + 1, by omega, by omega, le_to ⟨rfl, slot_int (by rw [cnt_next_f (by omega) (by simp_all)]), rfl, rfl, rfl, trivial⟩ rfl⟩
  ·
   try simp only [bs] at hc1
   refine aw_exit ?_
   refine hK3 _ ?_
   refine aw_seq_k (fun K10 hK10 => ?_)
   refine aw_region ?_
   refine x_pure rfl (p_move rfl) ?_
   refine x_pure rfl (p_assign rfl) ?_
   first | refine aops_end ?_ | refine aops_nil ?_
   refine hK10 _ ?_
   refine aw_ret ?_
   refine ⟨_, rfl, ?_⟩
   refine ret_int ?_
   rw [List.take_of_length_le (by omega)]

set_option maxRecDepth 20000 in
set_option maxHeartbeats 8000000 in
theorem histParts_den (l : List Stay) (a b : List Sp) (t : Int) (hl : l.length * 32 ≤ 140737488351232) (ha : a.length * 16 ≤ 140737488351232) (hb : b.length * 16 ≤ 140737488351232)  : Den Try.prog 13 [.sl 4 (l.map stC), .agg [.sl 2 (a.map spC), .sl 2 (b.map spC)], .s (.int .i64 t)]  (· = .s (.bool true)) := by
 refine den_of_aw Try.func13 rfl (Nat.le_of_ble_eq_true rfl) (fun w0 A hf => ?_)
 refine aw_seq_k (fun K1 hK1 => ?_)
 refine aw_region ?_
 refine x_step hf rfl (r_box rfl rfl (by simp [stC, spC, AV.cells, AV.leaf, Value.oneCell', splice, AV.kill, AV.clean, cleanL, AV.only])) ?_
 refine x_step hf rfl (r_box rfl rfl (by simp [stC, spC, AV.cells, AV.leaf, Value.oneCell', splice, AV.kill, AV.clean, cleanL, AV.only])) ?_
 refine x_pure rfl (p_assign_bad) ?_
 first | refine aops_end ?_ | refine aops_nil ?_
 refine hK1 _ ?_
 refine aw_seq_k (fun K2 hK2 => ?_)
 refine aw_draw hf Try.mixed (by kernel_rfl) rfl ?_
 refine d_pure [(4, _)] rfl rfl ⟨⟨rfl, rfl⟩, trivial⟩ rfl (p_idx_arr rfl rfl Try.ar83 Try.c31 (by first | decide | omega) rfl) ?_
 first | refine d_pure [(15, _)] rfl rfl ⟨⟨rfl, rfl⟩, trivial⟩ rfl (p_load1 rfl Try.g31 rfl) ?_ | refine d_pure [(15, _)] rfl rfl ⟨⟨rfl, rfl⟩, trivial⟩ rfl (p_load1r rfl Try.g31 rfl rfl) ?_ | refine d_pure [(15, _)] rfl rfl ⟨⟨rfl, rfl⟩, trivial⟩ rfl (p_load1r rfl Try.g31 rfl (strs_ref (by simp only [List.length_cons] at *; omega))) ?_ | refine d_pure [(15, _)] rfl rfl ⟨⟨rfl, rfl⟩, trivial⟩ rfl (p_load1r rfl Try.g31 rfl (strs_ref (by omega))) ?_
 refine d_pure [(4, _)] rfl rfl ⟨⟨rfl, rfl⟩, trivial⟩ rfl (p_idx_arr rfl rfl Try.ar83 Try.c31 (by first | decide | omega) rfl) ?_
 first | refine d_pure [(17, _)] rfl rfl ⟨⟨rfl, rfl⟩, trivial⟩ rfl (p_load1 rfl Try.g31 rfl) ?_ | refine d_pure [(17, _)] rfl rfl ⟨⟨rfl, rfl⟩, trivial⟩ rfl (p_load1r rfl Try.g31 rfl rfl) ?_ | refine d_pure [(17, _)] rfl rfl ⟨⟨rfl, rfl⟩, trivial⟩ rfl (p_load1r rfl Try.g31 rfl (strs_ref (by simp only [List.length_cons] at *; omega))) ?_ | refine d_pure [(17, _)] rfl rfl ⟨⟨rfl, rfl⟩, trivial⟩ rfl (p_load1r rfl Try.g31 rfl (strs_ref (by omega))) ?_
 refine d_pure [(16, _)] rfl rfl ⟨⟨rfl, rfl⟩, trivial⟩ rfl (p_assign rfl) ?_
 refine d_pure [(18, _)] rfl rfl ⟨⟨rfl, rfl⟩, trivial⟩ rfl (p_assign rfl) ?_
 refine lex_end (sl' := [(0, _), (5, _), (7, _), (8, _)]) rfl ⟨rfl, rfl, rfl, rfl, trivial⟩ rfl ?_
 refine hK2 _ ?_
 refine aw_seq_k (fun K3 hK3 => ?_)
 refine aw_seq_k (fun K4 hK4 => ?_)
 refine aw_region ?_
 refine x_pure rfl (p_move rfl) ?_
 first | refine x_pure rfl (p_len_sl rfl Try.e54) ?_ | refine x_pure rfl (p_len_own rfl Try.e54) ?_ | refine x_pure rfl (p_len_nil rfl Try.e54) ?_
 refine x_pure rfl (p_bin rfl rfl rfl) ?_
 refine x_pure rfl (p_move rfl) ?_
 refine y_guard_s rfl rfl rfl (fun hg1 => ?_) (fun hg1 => ?_)
 ·
  try simp only [bs] at hg1
  refine x_pure rfl (p_move rfl) ?_
  refine x_guard_t rfl rfl rfl ?_
  first | refine x_pure rfl (p_len_sl rfl Try.e31) ?_ | refine x_pure rfl (p_len_own rfl Try.e31) ?_ | refine x_pure rfl (p_len_nil rfl Try.e31) ?_
  refine x_guard_t rfl rfl rfl ?_
  refine x_pure rfl (p_bin rfl rfl rfl) ?_
  refine x_pure rfl (p_pick_f rfl rfl) ?_
  refine x_pure rfl (p_move rfl) ?_
  refine y_guard_s rfl rfl rfl (fun hg2 => ?_) (fun hg2 => ?_)
  ·
   try simp only [bs] at hg2
   refine x_pure rfl (p_move rfl) ?_
   refine x_guard_t rfl rfl rfl ?_
   first | refine x_pure rfl (p_len_sl rfl Try.e31) ?_ | refine x_pure rfl (p_len_own rfl Try.e31) ?_ | refine x_pure rfl (p_len_nil rfl Try.e31) ?_
   refine x_guard_t rfl rfl rfl ?_
   refine x_pure rfl (p_bin rfl rfl rfl) ?_
   refine x_pure rfl (p_pick_f rfl rfl) ?_
   first | refine aops_end ?_ | refine aops_nil ?_
   refine hK4 _ ?_
   refine aw_cond_s rfl (fun hc3 => ?_) (fun hc3 => ?_)
   ·
    try simp only [bs] at hc3
    refine aw_seq_k (fun K5 hK5 => ?_)
    refine aw_region ?_
    refine x_step hf rfl (r_call rfl rfl Try.ent33 rfl (alive8_den)) ?_
    refine x_pure rfl (p_assign rfl) ?_
    first | refine aops_end ?_ | refine aops_nil ?_
    refine hK5 _ ?_
    refine aw_ret ?_
    refine ⟨_, rfl, ?_⟩
    rfl
   ·
    try simp only [bs] at hc3
    refine aw_skip ?_
    refine hK3 _ ?_
    refine aw_seq_k (fun K6 hK6 => ?_)
    refine aw_region ?_
    have hll := less_len b a
    have hjl := norm_len (List.flatten [a, lessL b a])
    have hfl : (List.flatten [a, lessL b a]).length = a.length + (lessL b a).length := by simp
    refine x_pure rfl (p_move rfl) ?_
    refine x_step hf rfl (r_call rfl rfl Try.ent21 rfl (news_den _ (by omega))) ?_
    refine x_pure rfl (p_move rfl) ?_
    refine x_step hf rfl (r_call rfl rfl Try.ent21 rfl (news_den _ (by omega))) ?_
    refine x_pure rfl (p_move rfl) ?_
    refine x_step hf rfl (r_call rfl rfl Try.ent21 rfl (news_den _ (by omega))) ?_
    refine x_step hf rfl (r_call rfl rfl Try.ent32 rfl (less_den b a (by omega))) ?_
    refine x_pure rfl (p_assign rfl) ?_
    refine x_pure rfl (p_assign rfl) ?_
    first | refine aops_end ?_ | refine aops_nil ?_
    refine hK6 _ ?_
    refine aw_seq_k (fun K7 hK7 => ?_)
    refine aw_region ?_
    refine x_pure rfl (p_makeFunc rfl) ?_
    refine x_pure rfl (p_assign rfl) ?_
    first | refine aops_end ?_ | refine aops_nil ?_
    refine hK7 _ ?_
    refine aw_seq_k (fun K8 hK8 => ?_)
    refine aw_region ?_
    have hc1x := cut_len l a
    have hc2x := cut_len l (lessL b a)
    have hc3x := cut_len l (normL (List.flatten [a, lessL b a]))
    have hn1 := norm_len a
    have hn2 := norm_len (lessL b a)
    have hn3 := norm_len (normL (List.flatten [a, lessL b a]))
    have hm1 := Nat.mul_le_mul (show l.length ≤ 20 by omega) (show (normL a).length ≤ 40 by omega)
    have hm2 := Nat.mul_le_mul (show l.length ≤ 20 by omega) (show (normL (lessL b a)).length ≤ 160 by omega)
    have hm3 := Nat.mul_le_mul (show l.length ≤ 20 by omega) (show (normL (normL (List.flatten [a, lessL b a]))).length ≤ 400 by omega)
    refine x_pure rfl (p_move rfl) ?_
    refine x_step hf rfl (r_call rfl rfl Try.ent38 rfl (newsS_den _ (by omega))) ?_
    refine x_pure rfl (p_move rfl) ?_
    refine x_step hf rfl (r_call rfl rfl Try.ent49 rfl (cutN_den l a (by omega) (by omega))) ?_
    refine x_pure rfl (p_move rfl) ?_
    refine x_step hf rfl (r_call rfl rfl Try.ent38 rfl (newsS_den _ (by omega))) ?_
    refine x_pure rfl (p_move rfl) ?_
    refine x_step hf rfl (r_call rfl rfl Try.ent49 rfl (cutN_den l (lessL b a) (by omega) (by omega))) ?_
    refine x_pure rfl (p_assign rfl) ?_
    refine x_pure rfl (p_assign rfl) ?_
    first | refine aops_end ?_ | refine aops_nil ?_
    refine hK8 _ ?_
    refine aw_seq_k (fun K9 hK9 => ?_)
    refine aw_region ?_
    refine x_pure rfl (p_move rfl) ?_
    refine x_step hf rfl (r_call rfl rfl Try.ent38 rfl (newsS_den _ (by omega))) ?_
    refine x_pure rfl (p_move rfl) ?_
    refine x_pure rfl (p_move rfl) ?_
    refine x_step hf rfl (r_buildSlice Try.ap32 rfl rfl rfl rfl (by simp [stC, spC, AV.cells, AV.leaf, Value.oneCell', splice, AV.kill, AV.clean, cleanL, AV.only])) ?_
    refine x_step hf rfl (r_call rfl rfl Try.ent24 rfl (joinT_den a (lessL b a) (by omega))) ?_
    refine x_step hf rfl (r_call rfl rfl Try.ent49 rfl (cutN_den l (normL (List.flatten [a, lessL b a])) (by omega) (by omega))) ?_
    refine x_pure rfl (p_assign rfl) ?_
    first | refine aops_end ?_ | refine aops_nil ?_
    refine hK9 _ ?_
    refine aw_seq_k (fun K10 hK10 => ?_)
    refine aw_draw hf Try.mixed (by kernel_rfl) rfl ?_
    have k1 := cnt_le (cutS l a) t
    have k2 := cnt_le (cutS l (lessL b a)) t
    refine d_rstep [] rfl rfl trivial rfl (r_call rfl rfl Try.ent33 rfl (alive8_den)) ?_
    refine d_pure [(56, _)] rfl rfl ⟨⟨rfl, rfl⟩, trivial⟩ rfl (p_move rfl) ?_
    refine d_pure [(11, _)] rfl rfl ⟨⟨rfl, rfl⟩, trivial⟩ rfl (p_move rfl) ?_
    refine d_pure [(12, _)] rfl rfl ⟨⟨rfl, rfl⟩, trivial⟩ rfl (p_move rfl) ?_
    refine d_rstep [(58, _), (59, _)] rfl rfl ⟨⟨rfl, rfl⟩, ⟨rfl, rfl⟩, trivial⟩ rfl (r_call rfl rfl Try.ent51 rfl (histCnt_den (cutS l a) t (by omega))) ?_
    refine d_pure [(11, _)] rfl rfl ⟨⟨rfl, rfl⟩, trivial⟩ rfl (p_move rfl) ?_
    refine d_pure [(13, _)] rfl rfl ⟨⟨rfl, rfl⟩, trivial⟩ rfl (p_move rfl) ?_
    refine d_rstep [(61, _), (62, _)] rfl rfl ⟨⟨rfl, rfl⟩, ⟨rfl, rfl⟩, trivial⟩ rfl (r_call rfl rfl Try.ent51 rfl (histCnt_den (cutS l (lessL b a)) t (by omega))) ?_
    first | refine d_pure [(60, _), (63, _)] rfl rfl ⟨⟨rfl, rfl⟩, ⟨rfl, rfl⟩, trivial⟩ rfl (p_add rfl rfl (by omega) (by omega)) ?_ | refine d_pure [(60, _), (63, _)] rfl rfl ⟨⟨rfl, rfl⟩, ⟨rfl, rfl⟩, trivial⟩ rfl (p_bin rfl rfl rfl) ?_
    refine d_pure [(11, _)] rfl rfl ⟨⟨rfl, rfl⟩, trivial⟩ rfl (p_move rfl) ?_
    refine d_pure [(14, _)] rfl rfl ⟨⟨rfl, rfl⟩, trivial⟩ rfl (p_move rfl) ?_
    refine d_rstep [(65, _), (66, _)] rfl rfl ⟨⟨rfl, rfl⟩, ⟨rfl, rfl⟩, trivial⟩ rfl (r_call rfl rfl Try.ent51 rfl (histCnt_den (cutS l (normL (List.flatten [a, lessL b a]))) t (by omega))) ?_
    refine d_pure [(64, _), (67, _)] rfl rfl ⟨⟨rfl, rfl⟩, ⟨rfl, rfl⟩, trivial⟩ rfl (p_bin rfl rfl (inteq_t (parts_sum l a b t))) ?_
    refine d_pure [(57, _), (68, _)] rfl rfl ⟨⟨rfl, rfl⟩, ⟨rfl, rfl⟩, trivial⟩ rfl (p_pick_t rfl rfl) ?_
    refine d_pure [(69, _)] rfl rfl ⟨⟨rfl, rfl⟩, trivial⟩ rfl (p_move rfl) ?_
    refine d_pure [(11, _)] rfl rfl ⟨⟨rfl, rfl⟩, trivial⟩ rfl (p_move rfl) ?_
    refine d_pure [(14, _)] rfl rfl ⟨⟨rfl, rfl⟩, trivial⟩ rfl (p_move rfl) ?_
    refine d_rstep [(71, _), (72, _)] rfl rfl ⟨⟨rfl, rfl⟩, ⟨rfl, rfl⟩, trivial⟩ rfl (r_call rfl rfl Try.ent51 rfl (histCnt_den (cutS l (normL (List.flatten [a, lessL b a]))) t (by omega))) ?_
    refine d_pure [(73, _)] rfl rfl ⟨⟨rfl, rfl⟩, trivial⟩ rfl (p_bin rfl rfl rfl) ?_
    refine d_pure [(74, _)] rfl rfl ⟨⟨rfl, rfl⟩, trivial⟩ rfl (p_move rfl) ?_
    refine d_split 75 false rfl (fun hg4 => ?_) (fun hg4 => ?_)
    ·
     try simp only [bs] at hg4
     refine d_pure [(9, _)] rfl rfl ⟨⟨rfl, rfl⟩, trivial⟩ rfl (p_move rfl) ?_
     refine d_pure [(10, _)] rfl rfl ⟨⟨rfl, rfl⟩, trivial⟩ rfl (p_move rfl) ?_
     refine d_rstep [(76, _), (77, _)] rfl rfl ⟨⟨rfl, rfl⟩, ⟨rfl, rfl⟩, trivial⟩ rfl (r_buildSlice Try.ap32 rfl rfl rfl rfl (by simp [stC, spC, AV.cells, AV.leaf, Value.oneCell', splice, AV.kill, AV.clean, cleanL, AV.only])) ?_
     refine d_rstep [(78, _)] rfl rfl ⟨⟨rfl, rfl⟩, trivial⟩ rfl (r_call rfl rfl Try.ent24 rfl (joinT_den a (lessL b a) (by omega))) ?_
     first | refine d_pure [(5, _)] rfl rfl ⟨⟨rfl, rfl⟩, trivial⟩ rfl (p_load1 rfl Try.g3 rfl) ?_ | refine d_pure [(5, _)] rfl rfl ⟨⟨rfl, rfl⟩, trivial⟩ rfl (p_load1r rfl Try.g3 rfl rfl) ?_ | refine d_pure [(5, _)] rfl rfl ⟨⟨rfl, rfl⟩, trivial⟩ rfl (p_load1r rfl Try.g3 rfl (strs_ref (by simp only [List.length_cons] at *; omega))) ?_ | refine d_pure [(5, _)] rfl rfl ⟨⟨rfl, rfl⟩, trivial⟩ rfl (p_load1r rfl Try.g3 rfl (strs_ref (by omega))) ?_
     refine d_rstep [(79, _), (80, _)] rfl rfl ⟨⟨rfl, rfl⟩, ⟨rfl, rfl⟩, trivial⟩ rfl (r_call rfl rfl Try.ent53 rfl ((show Den Try.prog _ _ (· = .s (.bool true)) from den_is (hasAny_den (normL (List.flatten [a, lessL b a])) t (by omega)) (by rw [parts_has (by assumption)])))) ?_
     refine d_pure [(75, _), (81, _)] rfl rfl ⟨⟨rfl, rfl⟩, ⟨rfl, rfl⟩, trivial⟩ rfl (p_pick_f rfl rfl) ?_
     refine d_pure [(70, _), (82, _)] rfl rfl ⟨⟨rfl, rfl⟩, ⟨rfl, rfl⟩, trivial⟩ rfl (p_pick_t rfl rfl) ?_
     refine d_pure [(83, _)] rfl rfl ⟨⟨rfl, rfl⟩, trivial⟩ rfl (p_assign rfl) ?_
     refine lex_end (sl' := [(6, _)]) rfl ⟨rfl, trivial⟩ rfl ?_
     refine hK10 _ ?_
     refine aw_ret ?_
     refine ⟨_, rfl, ?_⟩
     rfl
    ·
     try simp only [bs] at hg4
     refine d_skip rfl rfl ?_
     refine d_skip rfl rfl ?_
     refine d_skip rfl rfl ?_
     refine d_skip rfl rfl ?_
     refine d_skip rfl rfl ?_
     refine d_skip rfl rfl ?_
     refine d_pure [(75, _), (81, _)] rfl rfl ⟨⟨rfl, rfl⟩, ⟨rfl, rfl⟩, trivial⟩ rfl (p_pick_t rfl rfl) ?_
     refine d_pure [(70, _), (82, _)] rfl rfl ⟨⟨rfl, rfl⟩, ⟨rfl, rfl⟩, trivial⟩ rfl (p_pick_t rfl rfl) ?_
     refine d_pure [(83, _)] rfl rfl ⟨⟨rfl, rfl⟩, trivial⟩ rfl (p_assign rfl) ?_
     refine lex_end (sl' := [(6, _)]) rfl ⟨rfl, trivial⟩ rfl ?_
     refine hK10 _ ?_
     refine aw_ret ?_
     refine ⟨_, rfl, ?_⟩
     rfl
  ·
   try simp only [bs] at hg2
   refine x_guard_f rfl rfl rfl ?_
   refine x_guard_f rfl rfl rfl ?_
   refine x_pure rfl (p_pick_t rfl rfl) ?_
   first | refine aops_end ?_ | refine aops_nil ?_
   refine hK4 _ ?_
   refine aw_cond_t rfl ?_
   refine aw_seq_k (fun K11 hK11 => ?_)
   refine aw_region ?_
   refine x_step hf rfl (r_call rfl rfl Try.ent33 rfl (alive8_den)) ?_
   refine x_pure rfl (p_assign rfl) ?_
   first | refine aops_end ?_ | refine aops_nil ?_
   refine hK11 _ ?_
   refine aw_ret ?_
   refine ⟨_, rfl, ?_⟩
   rfl
 ·
  try simp only [bs] at hg1
  refine x_guard_f rfl rfl rfl ?_
  refine x_guard_f rfl rfl rfl ?_
  refine x_pure rfl (p_pick_t rfl rfl) ?_
  refine x_pure rfl (p_move rfl) ?_
  refine x_guard_f rfl rfl rfl ?_
  refine x_guard_f rfl rfl rfl ?_
  refine x_guard_f rfl rfl rfl ?_
  refine x_pure rfl (p_pick_t rfl rfl) ?_
  first | refine aops_end ?_ | refine aops_nil ?_
  refine hK4 _ ?_
  refine aw_cond_t rfl ?_
  refine aw_seq_k (fun K12 hK12 => ?_)
  refine aw_region ?_
  refine x_step hf rfl (r_call rfl rfl Try.ent33 rfl (alive8_den)) ?_
  refine x_pure rfl (p_assign rfl) ?_
  first | refine aops_end ?_ | refine aops_nil ?_
  refine hK12 _ ?_
  refine aw_ret ?_
  refine ⟨_, rfl, ?_⟩
  rfl
end Go.Proofs.Ytkjniggdldpnoaa
