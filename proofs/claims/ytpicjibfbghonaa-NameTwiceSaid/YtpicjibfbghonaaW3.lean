import Derived.Test.YtpicjibfbghonaaW2
set_option linter.unusedVariables false
set_option linter.unusedSimpArgs false
namespace Go.Proofs.Ytpicjibfbghonaa
open Go Go.Abs

set_option maxHeartbeats 400000 in
theorem leastNil_den   : Den Try.prog 17 [.sl 1 (strs [])]  (· = .tup [.s (.string ⟨#[]⟩), .s (.bool false)]) := by
  refine den_of_aw Try.func17 rfl (Nat.le_of_ble_eq_true rfl) (fun w0 A hf => ?_)
  refine aw_seq_k (fun K1 hK1 => ?_)
  refine aw_region ?_
  refine x_pure rfl (p_assign_bad) ?_
  refine x_pure rfl (p_assign_bad) ?_
  first | refine aops_end ?_ | refine aops_nil ?_
  refine hK1 _ ?_
  refine aw_seq_k (fun K2 hK2 => ?_)
  refine aw_seq_k (fun K3 hK3 => ?_)
  refine aw_region ?_
  refine x_pure rfl (p_move rfl) ?_
  first | refine x_pure rfl (p_len_sl rfl Try.e22) ?_ | refine x_pure rfl (p_len_own rfl Try.e22) ?_
  refine x_pure rfl (p_bin rfl rfl rfl) ?_
  first | refine aops_end ?_ | refine aops_nil ?_
  refine hK3 _ ?_
  refine aw_cond_s rfl (fun hc1 => ?_) (fun hc1 => ?_)
  ·
    try simp only [Bool.not_eq_true', Bool.not_eq_false', Bool.not_true, Bool.not_false, Bool.not_not, decide_eq_true_eq, decide_eq_false_iff_not, beq_iff_eq, beq_eq_false_iff_ne, bne_iff_ne, bne_eq_false_iff_eq, ne_eq, Int.not_lt, Int.not_le, Nat.not_lt, Nat.not_le, gt_iff_lt, ge_iff_le, Bool.and_eq_true, Bool.or_eq_true, Int.ofNat_lt, Int.ofNat_le, Int.natCast_inj, strs_len, ints_len, List.length_cons, List.length_nil] at hc1
    refine aw_seq_k (fun K4 hK4 => ?_)
    refine aw_region ?_
    refine x_pure rfl (p_assign rfl) ?_
    refine x_pure rfl (p_assign rfl) ?_
    first | refine aops_end ?_ | refine aops_nil ?_
    refine hK4 _ ?_
    refine aw_ret ?_
    refine ⟨_, rfl, ?_⟩
    rfl
  ·
    try simp only [Bool.not_eq_true', Bool.not_eq_false', Bool.not_true, Bool.not_false, Bool.not_not, decide_eq_true_eq, decide_eq_false_iff_not, beq_iff_eq, beq_eq_false_iff_ne, bne_iff_ne, bne_eq_false_iff_eq, ne_eq, Int.not_lt, Int.not_le, Nat.not_lt, Nat.not_le, gt_iff_lt, ge_iff_le, Bool.and_eq_true, Bool.or_eq_true, Int.ofNat_lt, Int.ofNat_le, Int.natCast_inj, strs_len, ints_len, List.length_cons, List.length_nil] at hc1
    simp [strs] at hc1

set_option maxHeartbeats 400000 in
theorem least_den (x : ByteArray) (xs : List ByteArray) (hl : (x :: xs).length ≤ 9223372036854775807)  : Den Try.prog 17 [.sl 1 (strs (x :: xs))]  (· = .tup [.s (.string (xs.foldl minStep x)), .s (.bool true)]) := by
  refine den_of_aw Try.func17 rfl (Nat.le_of_ble_eq_true rfl) (fun w0 A hf => ?_)
  refine aw_seq_k (fun K1 hK1 => ?_)
  refine aw_region ?_
  refine x_pure rfl (p_assign_bad) ?_
  refine x_pure rfl (p_assign_bad) ?_
  first | refine aops_end ?_ | refine aops_nil ?_
  refine hK1 _ ?_
  refine aw_seq_k (fun K2 hK2 => ?_)
  refine aw_seq_k (fun K3 hK3 => ?_)
  refine aw_region ?_
  refine x_pure rfl (p_move rfl) ?_
  first | refine x_pure rfl (p_len_sl rfl Try.e22) ?_ | refine x_pure rfl (p_len_own rfl Try.e22) ?_
  refine x_pure rfl (p_bin rfl rfl rfl) ?_
  first | refine aops_end ?_ | refine aops_nil ?_
  refine hK3 _ ?_
  refine aw_cond_s rfl (fun hc1 => ?_) (fun hc1 => ?_)
  ·
    try simp only [Bool.not_eq_true', Bool.not_eq_false', Bool.not_true, Bool.not_false, Bool.not_not, decide_eq_true_eq, decide_eq_false_iff_not, beq_iff_eq, beq_eq_false_iff_ne, bne_iff_ne, bne_eq_false_iff_eq, ne_eq, Int.not_lt, Int.not_le, Nat.not_lt, Nat.not_le, gt_iff_lt, ge_iff_le, Bool.and_eq_true, Bool.or_eq_true, Int.ofNat_lt, Int.ofNat_le, Int.natCast_inj, strs_len, ints_len, List.length_cons, List.length_nil] at hc1
    omega
  ·
    try simp only [Bool.not_eq_true', Bool.not_eq_false', Bool.not_true, Bool.not_false, Bool.not_not, decide_eq_true_eq, decide_eq_false_iff_not, beq_iff_eq, beq_eq_false_iff_ne, bne_iff_ne, bne_eq_false_iff_eq, ne_eq, Int.not_lt, Int.not_le, Nat.not_lt, Nat.not_le, gt_iff_lt, ge_iff_le, Bool.and_eq_true, Bool.or_eq_true, Int.ofNat_lt, Int.ofNat_le, Int.natCast_inj, strs_len, ints_len, List.length_cons, List.length_nil] at hc1
    refine aw_skip ?_
    refine hK2 _ ?_
    refine aw_seq_k (fun K4 hK4 => ?_)
    refine aw_region ?_
    refine x_pure rfl (p_move rfl) ?_
    refine x_step hf rfl (r_call rfl rfl Try.ent30 rfl (minFunc_den _ _ (by assumption))) ?_
    refine x_pure rfl (p_assign rfl) ?_
    refine x_pure rfl (p_assign rfl) ?_
    first | refine aops_end ?_ | refine aops_nil ?_
    refine hK4 _ ?_
    refine aw_ret ?_
    refine ⟨_, rfl, ?_⟩
    rfl

set_option maxHeartbeats 400000 in
theorem ahead_den (a b c d : ByteArray) (h1 : TS a) (h2 : TS b) (h3 : TS c) (h4 : TS d)  : Den Try.prog 18 [.agg [.s (.string a), .s (.string b)], .agg [.s (.string c), .s (.string d)]]  (· = .s (.bool (aheadB a b c d))) := by
  refine den_of_aw Try.func18 rfl (Nat.le_of_ble_eq_true rfl) (fun w0 A hf => ?_)
  refine aw_seq_k (fun K1 hK1 => ?_)
  refine aw_region ?_
  refine x_step hf rfl (r_box rfl rfl (by simp [AV.cells, AV.leaf, Value.oneCell', splice, AV.kill, AV.clean, AV.only])) ?_
  refine x_step hf rfl (r_box rfl rfl (by simp [AV.cells, AV.leaf, Value.oneCell', splice, AV.kill, AV.clean, AV.only])) ?_
  refine x_pure rfl (p_assign_bad) ?_
  first | refine aops_end ?_ | refine aops_nil ?_
  refine hK1 _ ?_
  refine aw_seq_k (fun K2 hK2 => ?_)
  refine aw_region ?_
  first | refine x_pure rfl (p_fld_adr rfl Try.fd35_0 Try.c9 rfl) ?_ | refine x_pure rfl (p_fld_ref rfl Try.fd35_0 Try.c9 rfl) ?_
  first | refine x_pure rfl (p_load1 rfl Try.g9 rfl) ?_ | refine x_pure rfl (p_load1r rfl Try.g9 rfl rfl) ?_ | refine x_pure rfl (p_load1r rfl Try.g9 rfl (strs_ref (by simp only [List.length_cons] at *; omega))) ?_ | refine x_pure rfl (p_load1r rfl Try.g9 rfl (strs_ref (by omega))) ?_
  first | refine x_pure rfl (p_fld_adr rfl Try.fd35_0 Try.c9 rfl) ?_ | refine x_pure rfl (p_fld_ref rfl Try.fd35_0 Try.c9 rfl) ?_
  first | refine x_pure rfl (p_load1 rfl Try.g9 rfl) ?_ | refine x_pure rfl (p_load1r rfl Try.g9 rfl rfl) ?_ | refine x_pure rfl (p_load1r rfl Try.g9 rfl (strs_ref (by simp only [List.length_cons] at *; omega))) ?_ | refine x_pure rfl (p_load1r rfl Try.g9 rfl (strs_ref (by omega))) ?_
  refine x_step hf rfl (r_call rfl rfl Try.ent14 rfl (refCmp_den _ _ (by assumption) (by assumption))) ?_
  refine x_pure rfl (p_assign rfl) ?_
  first | refine aops_end ?_ | refine aops_nil ?_
  refine hK2 _ ?_
  refine aw_seq_k (fun K3 hK3 => ?_)
  refine aw_region ?_
  refine x_pure rfl (p_move rfl) ?_
  refine x_pure rfl (p_bin rfl rfl rfl) ?_
  refine x_pure rfl (p_move rfl) ?_
  refine y_guard_s rfl rfl rfl (fun hg1 => ?_) (fun hg1 => ?_)
  ·
    try simp only [Bool.not_eq_true', Bool.not_eq_false', Bool.not_true, Bool.not_false, Bool.not_not, decide_eq_true_eq, decide_eq_false_iff_not, beq_iff_eq, beq_eq_false_iff_ne, bne_iff_ne, bne_eq_false_iff_eq, ne_eq, Int.not_lt, Int.not_le, Nat.not_lt, Nat.not_le, gt_iff_lt, ge_iff_le, Bool.and_eq_true, Bool.or_eq_true, Int.ofNat_lt, Int.ofNat_le, Int.natCast_inj, strs_len, ints_len, List.length_cons, List.length_nil] at hg1
    refine x_pure rfl (p_move rfl) ?_
    refine x_guard_t rfl rfl rfl ?_
    refine x_pure rfl (p_bin rfl rfl rfl) ?_
    refine x_guard_t rfl rfl rfl ?_
    refine x_pure rfl (p_move rfl) ?_
    refine y_guard_s rfl rfl rfl (fun hg2 => ?_) (fun hg2 => ?_)
    ·
      try simp only [Bool.not_eq_true', Bool.not_eq_false', Bool.not_true, Bool.not_false, Bool.not_not, decide_eq_true_eq, decide_eq_false_iff_not, beq_iff_eq, beq_eq_false_iff_ne, bne_iff_ne, bne_eq_false_iff_eq, ne_eq, Int.not_lt, Int.not_le, Nat.not_lt, Nat.not_le, gt_iff_lt, ge_iff_le, Bool.and_eq_true, Bool.or_eq_true, Int.ofNat_lt, Int.ofNat_le, Int.natCast_inj, strs_len, ints_len, List.length_cons, List.length_nil] at hg2
      first | refine x_pure rfl (p_fld_adr rfl Try.fd35_1 Try.c9 rfl) ?_ | refine x_pure rfl (p_fld_ref rfl Try.fd35_1 Try.c9 rfl) ?_
      refine x_guard_t rfl rfl rfl ?_
      first | refine x_pure rfl (p_load1 rfl Try.g9 rfl) ?_ | refine x_pure rfl (p_load1r rfl Try.g9 rfl rfl) ?_ | refine x_pure rfl (p_load1r rfl Try.g9 rfl (strs_ref (by simp only [List.length_cons] at *; omega))) ?_ | refine x_pure rfl (p_load1r rfl Try.g9 rfl (strs_ref (by omega))) ?_
      refine x_guard_t rfl rfl rfl ?_
      first | refine x_pure rfl (p_fld_adr rfl Try.fd35_1 Try.c9 rfl) ?_ | refine x_pure rfl (p_fld_ref rfl Try.fd35_1 Try.c9 rfl) ?_
      refine x_guard_t rfl rfl rfl ?_
      first | refine x_pure rfl (p_load1 rfl Try.g9 rfl) ?_ | refine x_pure rfl (p_load1r rfl Try.g9 rfl rfl) ?_ | refine x_pure rfl (p_load1r rfl Try.g9 rfl (strs_ref (by simp only [List.length_cons] at *; omega))) ?_ | refine x_pure rfl (p_load1r rfl Try.g9 rfl (strs_ref (by omega))) ?_
      refine x_guard_t rfl rfl rfl ?_
      refine x_step hf rfl (r_call rfl rfl Try.ent14 rfl (refCmp_den _ _ (by assumption) (by assumption))) ?_
      refine x_guard_t rfl rfl rfl ?_
      refine x_pure rfl (p_bin rfl rfl rfl) ?_
      refine x_guard_t rfl rfl rfl ?_
      refine x_pure rfl (p_pick_t rfl rfl) ?_
      refine x_pure rfl (p_pick_f rfl rfl) ?_
      refine x_pure rfl (p_assign rfl) ?_
      first | refine aops_end ?_ | refine aops_nil ?_
      refine hK3 _ ?_
      refine aw_ret ?_
      refine ⟨_, rfl, ?_⟩
      refine ret_bool ?_
      unfold aheadB
      rw [Bool.eq_iff_iff]
      simp only [Bool.or_eq_true, Bool.and_eq_true, decide_eq_true_eq, true_iff, Bool.false_eq_true, false_iff]
      omega
    ·
      try simp only [Bool.not_eq_true', Bool.not_eq_false', Bool.not_true, Bool.not_false, Bool.not_not, decide_eq_true_eq, decide_eq_false_iff_not, beq_iff_eq, beq_eq_false_iff_ne, bne_iff_ne, bne_eq_false_iff_eq, ne_eq, Int.not_lt, Int.not_le, Nat.not_lt, Nat.not_le, gt_iff_lt, ge_iff_le, Bool.and_eq_true, Bool.or_eq_true, Int.ofNat_lt, Int.ofNat_le, Int.natCast_inj, strs_len, ints_len, List.length_cons, List.length_nil] at hg2
      refine x_guard_f rfl rfl rfl ?_
      refine x_guard_f rfl rfl rfl ?_
      refine x_guard_f rfl rfl rfl ?_
      refine x_guard_f rfl rfl rfl ?_
      refine x_guard_f rfl rfl rfl ?_
      refine x_guard_t rfl rfl rfl ?_
      refine x_pure rfl (p_pick_f rfl rfl) ?_
      refine x_pure rfl (p_pick_f rfl rfl) ?_
      refine x_pure rfl (p_assign rfl) ?_
      first | refine aops_end ?_ | refine aops_nil ?_
      refine hK3 _ ?_
      refine aw_ret ?_
      refine ⟨_, rfl, ?_⟩
      refine ret_bool ?_
      unfold aheadB
      rw [Bool.eq_iff_iff]
      simp only [Bool.or_eq_true, Bool.and_eq_true, decide_eq_true_eq, true_iff, Bool.false_eq_true, false_iff]
      omega
  ·
    try simp only [Bool.not_eq_true', Bool.not_eq_false', Bool.not_true, Bool.not_false, Bool.not_not, decide_eq_true_eq, decide_eq_false_iff_not, beq_iff_eq, beq_eq_false_iff_ne, bne_iff_ne, bne_eq_false_iff_eq, ne_eq, Int.not_lt, Int.not_le, Nat.not_lt, Nat.not_le, gt_iff_lt, ge_iff_le, Bool.and_eq_true, Bool.or_eq_true, Int.ofNat_lt, Int.ofNat_le, Int.natCast_inj, strs_len, ints_len, List.length_cons, List.length_nil] at hg1
    refine x_guard_f rfl rfl rfl ?_
    refine x_guard_f rfl rfl rfl ?_
    refine x_guard_u rfl rfl rfl ?_
    refine x_guard_u rfl rfl rfl ?_
    refine x_guard_u rfl rfl rfl ?_
    refine x_guard_u rfl rfl rfl ?_
    refine x_guard_u rfl rfl rfl ?_
    refine x_guard_u rfl rfl rfl ?_
    refine x_guard_f rfl rfl rfl ?_
    refine x_pure rfl (p_pick_t rfl rfl) ?_
    refine x_pure rfl (p_assign rfl) ?_
    first | refine aops_end ?_ | refine aops_nil ?_
    refine hK3 _ ?_
    refine aw_ret ?_
    refine ⟨_, rfl, ?_⟩
    refine ret_bool ?_
    unfold aheadB
    rw [Bool.eq_iff_iff]
    simp only [Bool.or_eq_true, Bool.and_eq_true, decide_eq_true_eq, true_iff, Bool.false_eq_true, false_iff]
    omega

set_option maxHeartbeats 400000 in
theorem pairRight_den (a b : ByteArray) (h1 : TS a) (h2 : TS b)  : Den Try.prog 19 [.agg [.s (.string a), .s (.string b)]]  (· = .s (.bool (rightB a && rightB b))) := by
  refine den_of_aw Try.func19 rfl (Nat.le_of_ble_eq_true rfl) (fun w0 A hf => ?_)
  refine aw_seq_k (fun K1 hK1 => ?_)
  refine aw_region ?_
  refine x_step hf rfl (r_box rfl rfl (by simp [AV.cells, AV.leaf, Value.oneCell', splice, AV.kill, AV.clean, AV.only])) ?_
  refine x_pure rfl (p_assign_bad) ?_
  first | refine aops_end ?_ | refine aops_nil ?_
  refine hK1 _ ?_
  refine aw_seq_k (fun K2 hK2 => ?_)
  refine aw_region ?_
  first | refine x_pure rfl (p_fld_adr rfl Try.fd36_0 Try.c9 rfl) ?_ | refine x_pure rfl (p_fld_ref rfl Try.fd36_0 Try.c9 rfl) ?_
  first | refine x_pure rfl (p_load1 rfl Try.g9 rfl) ?_ | refine x_pure rfl (p_load1r rfl Try.g9 rfl rfl) ?_ | refine x_pure rfl (p_load1r rfl Try.g9 rfl (strs_ref (by simp only [List.length_cons] at *; omega))) ?_ | refine x_pure rfl (p_load1r rfl Try.g9 rfl (strs_ref (by omega))) ?_
  first | refine x_pure rfl (p_fld_adr rfl Try.fd36_1 Try.c9 rfl) ?_ | refine x_pure rfl (p_fld_ref rfl Try.fd36_1 Try.c9 rfl) ?_
  first | refine x_pure rfl (p_load1 rfl Try.g9 rfl) ?_ | refine x_pure rfl (p_load1r rfl Try.g9 rfl rfl) ?_ | refine x_pure rfl (p_load1r rfl Try.g9 rfl (strs_ref (by simp only [List.length_cons] at *; omega))) ?_ | refine x_pure rfl (p_load1r rfl Try.g9 rfl (strs_ref (by omega))) ?_
  refine x_step hf rfl (r_buildSlice Try.ap22 rfl rfl rfl rfl (by simp [AV.cells, AV.leaf, Value.oneCell', splice, AV.kill, AV.clean, AV.only])) ?_
  refine x_step hf rfl (r_call rfl rfl Try.ent12 rfl (all_den [a, b] ⟨by simp, by simp [h1, h2]⟩)) ?_
  refine x_pure rfl (p_assign rfl) ?_
  first | refine aops_end ?_ | refine aops_nil ?_
  refine hK2 _ ?_
  refine aw_ret ?_
  refine ⟨_, rfl, ?_⟩
  refine ret_bool ?_
  simp

set_option maxHeartbeats 400000 in
theorem pairCmp_den (a b c d : ByteArray)  : Den Try.prog 20 [.agg [.s (.string a), .s (.string b)], .agg [.s (.string c), .s (.string d)]]  (· = .s (.int .i64 (pairCmp a b c d))) := by
  refine den_of_aw Try.func20 rfl (Nat.le_of_ble_eq_true rfl) (fun w0 A hf => ?_)
  refine aw_seq_k (fun K1 hK1 => ?_)
  refine aw_region ?_
  refine x_step hf rfl (r_box rfl rfl (by simp [AV.cells, AV.leaf, Value.oneCell', splice, AV.kill, AV.clean, AV.only])) ?_
  refine x_step hf rfl (r_box rfl rfl (by simp [AV.cells, AV.leaf, Value.oneCell', splice, AV.kill, AV.clean, AV.only])) ?_
  refine x_pure rfl (p_assign_bad) ?_
  first | refine aops_end ?_ | refine aops_nil ?_
  refine hK1 _ ?_
  refine aw_seq_k (fun K2 hK2 => ?_)
  refine aw_draw hf Try.mixed (by kernel_rfl) rfl ?_
  first | refine d_pure [(2, _)] rfl rfl ⟨⟨rfl, rfl⟩, trivial⟩ rfl (p_fld_adr rfl Try.fd36_0 Try.c9 rfl) ?_ | refine d_pure [(2, _)] rfl rfl ⟨⟨rfl, rfl⟩, trivial⟩ rfl (p_fld_ref rfl Try.fd36_0 Try.c9 rfl) ?_
  first | refine d_pure [(5, _)] rfl rfl ⟨⟨rfl, rfl⟩, trivial⟩ rfl (p_load1 rfl Try.g9 rfl) ?_ | refine d_pure [(5, _)] rfl rfl ⟨⟨rfl, rfl⟩, trivial⟩ rfl (p_load1r rfl Try.g9 rfl rfl) ?_ | refine d_pure [(5, _)] rfl rfl ⟨⟨rfl, rfl⟩, trivial⟩ rfl (p_load1r rfl Try.g9 rfl (strs_ref (by simp only [List.length_cons] at *; omega))) ?_ | refine d_pure [(5, _)] rfl rfl ⟨⟨rfl, rfl⟩, trivial⟩ rfl (p_load1r rfl Try.g9 rfl (strs_ref (by omega))) ?_
  first | refine d_pure [(3, _)] rfl rfl ⟨⟨rfl, rfl⟩, trivial⟩ rfl (p_fld_adr rfl Try.fd36_0 Try.c9 rfl) ?_ | refine d_pure [(3, _)] rfl rfl ⟨⟨rfl, rfl⟩, trivial⟩ rfl (p_fld_ref rfl Try.fd36_0 Try.c9 rfl) ?_
  first | refine d_pure [(7, _)] rfl rfl ⟨⟨rfl, rfl⟩, trivial⟩ rfl (p_load1 rfl Try.g9 rfl) ?_ | refine d_pure [(7, _)] rfl rfl ⟨⟨rfl, rfl⟩, trivial⟩ rfl (p_load1r rfl Try.g9 rfl rfl) ?_ | refine d_pure [(7, _)] rfl rfl ⟨⟨rfl, rfl⟩, trivial⟩ rfl (p_load1r rfl Try.g9 rfl (strs_ref (by simp only [List.length_cons] at *; omega))) ?_ | refine d_pure [(7, _)] rfl rfl ⟨⟨rfl, rfl⟩, trivial⟩ rfl (p_load1r rfl Try.g9 rfl (strs_ref (by omega))) ?_
  refine d_rstep [(6, _), (8, _)] rfl rfl ⟨⟨rfl, rfl⟩, ⟨rfl, rfl⟩, trivial⟩ rfl (r_call rfl rfl Try.ent13 rfl (cmp_den _ _)) ?_
  first | refine d_pure [(2, _)] rfl rfl ⟨⟨rfl, rfl⟩, trivial⟩ rfl (p_fld_adr rfl Try.fd36_1 Try.c9 rfl) ?_ | refine d_pure [(2, _)] rfl rfl ⟨⟨rfl, rfl⟩, trivial⟩ rfl (p_fld_ref rfl Try.fd36_1 Try.c9 rfl) ?_
  first | refine d_pure [(10, _)] rfl rfl ⟨⟨rfl, rfl⟩, trivial⟩ rfl (p_load1 rfl Try.g9 rfl) ?_ | refine d_pure [(10, _)] rfl rfl ⟨⟨rfl, rfl⟩, trivial⟩ rfl (p_load1r rfl Try.g9 rfl rfl) ?_ | refine d_pure [(10, _)] rfl rfl ⟨⟨rfl, rfl⟩, trivial⟩ rfl (p_load1r rfl Try.g9 rfl (strs_ref (by simp only [List.length_cons] at *; omega))) ?_ | refine d_pure [(10, _)] rfl rfl ⟨⟨rfl, rfl⟩, trivial⟩ rfl (p_load1r rfl Try.g9 rfl (strs_ref (by omega))) ?_
  first | refine d_pure [(3, _)] rfl rfl ⟨⟨rfl, rfl⟩, trivial⟩ rfl (p_fld_adr rfl Try.fd36_1 Try.c9 rfl) ?_ | refine d_pure [(3, _)] rfl rfl ⟨⟨rfl, rfl⟩, trivial⟩ rfl (p_fld_ref rfl Try.fd36_1 Try.c9 rfl) ?_
  first | refine d_pure [(12, _)] rfl rfl ⟨⟨rfl, rfl⟩, trivial⟩ rfl (p_load1 rfl Try.g9 rfl) ?_ | refine d_pure [(12, _)] rfl rfl ⟨⟨rfl, rfl⟩, trivial⟩ rfl (p_load1r rfl Try.g9 rfl rfl) ?_ | refine d_pure [(12, _)] rfl rfl ⟨⟨rfl, rfl⟩, trivial⟩ rfl (p_load1r rfl Try.g9 rfl (strs_ref (by simp only [List.length_cons] at *; omega))) ?_ | refine d_pure [(12, _)] rfl rfl ⟨⟨rfl, rfl⟩, trivial⟩ rfl (p_load1r rfl Try.g9 rfl (strs_ref (by omega))) ?_
  refine d_rstep [(11, _), (13, _)] rfl rfl ⟨⟨rfl, rfl⟩, ⟨rfl, rfl⟩, trivial⟩ rfl (r_call rfl rfl Try.ent13 rfl (cmp_den _ _)) ?_
  refine d_rstep [(9, _), (14, _)] rfl rfl ⟨⟨rfl, rfl⟩, ⟨rfl, rfl⟩, trivial⟩ rfl (r_buildSlice Try.ap52 rfl rfl rfl rfl (by simp [AV.cells, AV.leaf, Value.oneCell', splice, AV.kill, AV.clean, AV.only])) ?_
  refine d_rstep [(15, _)] rfl rfl ⟨⟨rfl, rfl⟩, trivial⟩ rfl (r_call rfl rfl Try.ent31 rfl (or_den [_, _] (by simp))) ?_
  refine d_pure [(16, _)] rfl rfl ⟨⟨rfl, rfl⟩, trivial⟩ rfl (p_assign rfl) ?_
  refine lex_end (sl' := [(4, _)]) rfl ⟨rfl, trivial⟩ rfl ?_
  refine hK2 _ ?_
  refine aw_ret ?_
  refine ⟨_, rfl, ?_⟩
  rfl

set_option maxHeartbeats 400000 in
theorem pairHas_den (a b s : ByteArray)  : Den Try.prog 21 [.agg [.s (.string a), .s (.string b)], .s (.string s)]  (· = .s (.bool (hasB a b s))) := by
  refine den_of_aw Try.func21 rfl (Nat.le_of_ble_eq_true rfl) (fun w0 A hf => ?_)
  refine aw_seq_k (fun K1 hK1 => ?_)
  refine aw_region ?_
  refine x_step hf rfl (r_box rfl rfl (by simp [AV.cells, AV.leaf, Value.oneCell', splice, AV.kill, AV.clean, AV.only])) ?_
  refine x_pure rfl (p_assign_bad) ?_
  first | refine aops_end ?_ | refine aops_nil ?_
  refine hK1 _ ?_
  refine aw_seq_k (fun K2 hK2 => ?_)
  refine aw_region ?_
  first | refine x_pure rfl (p_fld_adr rfl Try.fd36_0 Try.c9 rfl) ?_ | refine x_pure rfl (p_fld_ref rfl Try.fd36_0 Try.c9 rfl) ?_
  first | refine x_pure rfl (p_load1 rfl Try.g9 rfl) ?_ | refine x_pure rfl (p_load1r rfl Try.g9 rfl rfl) ?_ | refine x_pure rfl (p_load1r rfl Try.g9 rfl (strs_ref (by simp only [List.length_cons] at *; omega))) ?_ | refine x_pure rfl (p_load1r rfl Try.g9 rfl (strs_ref (by omega))) ?_
  refine x_pure rfl (p_move rfl) ?_
  refine x_pure rfl (p_bin rfl rfl rfl) ?_
  refine x_pure rfl (p_move rfl) ?_
  refine y_guard_s rfl rfl rfl (fun hg1 => ?_) (fun hg1 => ?_)
  ·
    try simp only [Bool.not_eq_true', Bool.not_eq_false', Bool.not_true, Bool.not_false, Bool.not_not, decide_eq_true_eq, decide_eq_false_iff_not, beq_iff_eq, beq_eq_false_iff_ne, bne_iff_ne, bne_eq_false_iff_eq, ne_eq, Int.not_lt, Int.not_le, Nat.not_lt, Nat.not_le, gt_iff_lt, ge_iff_le, Bool.and_eq_true, Bool.or_eq_true, Int.ofNat_lt, Int.ofNat_le, Int.natCast_inj, strs_len, ints_len, List.length_cons, List.length_nil] at hg1
    first | refine x_pure rfl (p_fld_adr rfl Try.fd36_1 Try.c9 rfl) ?_ | refine x_pure rfl (p_fld_ref rfl Try.fd36_1 Try.c9 rfl) ?_
    refine x_guard_t rfl rfl rfl ?_
    first | refine x_pure rfl (p_load1 rfl Try.g9 rfl) ?_ | refine x_pure rfl (p_load1r rfl Try.g9 rfl rfl) ?_ | refine x_pure rfl (p_load1r rfl Try.g9 rfl (strs_ref (by simp only [List.length_cons] at *; omega))) ?_ | refine x_pure rfl (p_load1r rfl Try.g9 rfl (strs_ref (by omega))) ?_
    refine x_guard_t rfl rfl rfl ?_
    refine x_pure rfl (p_move rfl) ?_
    refine x_guard_t rfl rfl rfl ?_
    refine x_pure rfl (p_bin rfl rfl rfl) ?_
    refine x_pure rfl (p_pick_f rfl rfl) ?_
    refine x_pure rfl (p_assign rfl) ?_
    first | refine aops_end ?_ | refine aops_nil ?_
    refine hK2 _ ?_
    refine aw_ret ?_
    refine ⟨_, rfl, ?_⟩
    refine ret_bool ?_
    unfold hasB
    rw [Bool.eq_iff_iff]
    simp only [Bool.or_eq_true, decide_eq_true_eq, ← toList_inj, beq_iff_eq, true_iff]
    simp_all
  ·
    try simp only [Bool.not_eq_true', Bool.not_eq_false', Bool.not_true, Bool.not_false, Bool.not_not, decide_eq_true_eq, decide_eq_false_iff_not, beq_iff_eq, beq_eq_false_iff_ne, bne_iff_ne, bne_eq_false_iff_eq, ne_eq, Int.not_lt, Int.not_le, Nat.not_lt, Nat.not_le, gt_iff_lt, ge_iff_le, Bool.and_eq_true, Bool.or_eq_true, Int.ofNat_lt, Int.ofNat_le, Int.natCast_inj, strs_len, ints_len, List.length_cons, List.length_nil] at hg1
    refine x_guard_f rfl rfl rfl ?_
    refine x_guard_f rfl rfl rfl ?_
    refine x_guard_f rfl rfl rfl ?_
    refine x_pure rfl (p_pick_t rfl rfl) ?_
    refine x_pure rfl (p_assign rfl) ?_
    first | refine aops_end ?_ | refine aops_nil ?_
    refine hK2 _ ?_
    refine aw_ret ?_
    refine ⟨_, rfl, ?_⟩
    refine ret_bool ?_
    unfold hasB
    rw [Bool.eq_iff_iff]
    simp only [Bool.or_eq_true, decide_eq_true_eq, ← toList_inj, beq_iff_eq, true_iff]
    simp_all

set_option maxHeartbeats 1000000 in
theorem put_den (l : List ByteArray) (s : ByteArray) (hl : l.length ≤ 1000000) (hl2 : ∀ x ∈ l, TS x) (hs : TS s)  : Den Try.prog 29 [.sl 1 (strs l), .s (.string s)]  (· = .sl 1 (strs (putL l s))) := by
  refine den_of_aw Try.func29 rfl (Nat.le_of_ble_eq_true rfl) (fun w0 A hf => ?_)
  refine aw_seq_k (fun K1 hK1 => ?_)
  refine aw_region ?_
  refine x_pure rfl (p_assign_bad) ?_
  first | refine aops_end ?_ | refine aops_nil ?_
  refine hK1 _ ?_
  refine aw_seq_k (fun K2 hK2 => ?_)
  refine aw_region ?_
  refine x_nil hf 1 rfl rfl rfl ?_
  first | refine aops_end ?_ | refine aops_nil ?_
  refine hK2 _ ?_
  refine aw_seq_k (fun K3 hK3 => ?_)
  refine aw_region ?_
  refine x_pure rfl (p_assign rfl) ?_
  first | refine aops_end ?_ | refine aops_nil ?_
  refine hK3 _ ?_
  refine aw_seq_k (fun K4 hK4 => ?_)
  refine aw_seq_k (fun K5 hK5 => ?_)
  refine aw_region ?_
  refine x_pure rfl (p_assign rfl) ?_
  first | refine aops_end ?_ | refine aops_nil ?_
  refine hK5 _ ?_
  refine aw_block ?_
  refine aw_loop (ι := Nat × Nat × List (List AV) × Bool) (fun q => ⟨47, [(0, .sl 1 (strs l)), (1, .s (.string s)), (5, .own 5 1 0 q.2.1), (6, .s (.bool q.2.2.2)), (7, .s (.int .i64 (q.1 : Nat)))], [(5, .buf 1 q.2.2.1)]⟩) (fun q => PutInv l s q.1 q.2.1 q.2.2.1 q.2.2.2) (fun q => l.length - q.1) (0, 0, [], false) ?_ ?_ ?_
  · exact PutInv.start l s
  · exact le_of ⟨rfl, rfl, rfl, rfl, rfl, trivial⟩
  ·
    rintro ⟨k, n, outv, done⟩ hC
    have h1 : k ≤ l.length := hC.hk
    have h2 : n = outv.length := hC.hn
    have h3 : n ≤ 2 * k := hC.le
    refine aw_seq_k (fun K6 hK6 => ?_)
    refine aw_seq_k (fun K7 hK7 => ?_)
    refine aw_region ?_
    refine x_pure rfl (p_move rfl) ?_
    refine x_pure rfl (p_move rfl) ?_
    first | refine x_pure rfl (p_len_sl rfl Try.e22) ?_ | refine x_pure rfl (p_len_own rfl Try.e22) ?_
    refine x_pure rfl (p_bin rfl rfl rfl) ?_
    first | refine aops_end ?_ | refine aops_nil ?_
    refine hK7 _ ?_
    refine aw_cond_s rfl (fun hc1 => ?_) (fun hc1 => ?_)
    ·
      try simp only [Bool.not_eq_true', Bool.not_eq_false', Bool.not_true, Bool.not_false, Bool.not_not, decide_eq_true_eq, decide_eq_false_iff_not, beq_iff_eq, beq_eq_false_iff_ne, bne_iff_ne, bne_eq_false_iff_eq, ne_eq, Int.not_lt, Int.not_le, Nat.not_lt, Nat.not_le, gt_iff_lt, ge_iff_le, Bool.and_eq_true, Bool.or_eq_true, Int.ofNat_lt, Int.ofNat_le, Int.natCast_inj, strs_len, ints_len, List.length_cons, List.length_nil] at hc1
      refine aw_skip ?_
      refine hK6 _ ?_
      refine aw_seq_k (fun K8 hK8 => ?_)
      refine aw_block ?_
      refine aw_seq_k (fun K9 hK9 => ?_)
      refine aw_region ?_
      refine x_pure rfl (p_move rfl) ?_
      refine x_pure rfl (p_move rfl) ?_
      refine x_pure rfl (p_move rfl) ?_
      first | refine x_pure rfl (p_idx_sl rfl rfl Try.e22 Try.c9 (by first | assumption | (refine ⟨by omega, ?_⟩; first | assumption | exact strs_at (by omega) | exact strs_at (by simp only [List.length_cons] at *; omega) | exact ints_at (by omega) | exact list_at (by omega)))) ?_ | refine x_pure rfl (p_idx_own rfl rfl Try.e22 Try.c9 (by omega)) ?_
      first | refine x_pure rfl (p_load1 rfl Try.g9 rfl) ?_ | refine x_pure rfl (p_load1r rfl Try.g9 rfl rfl) ?_ | refine x_pure rfl (p_load1r rfl Try.g9 rfl (strs_ref (by simp only [List.length_cons] at *; omega))) ?_ | refine x_pure rfl (p_load1r rfl Try.g9 rfl (strs_ref (by omega))) ?_
      refine x_step hf rfl (r_call rfl rfl Try.ent14 rfl (refCmp_den _ _ (by assumption) (hl2 _ (List.getElem_mem _)))) ?_
      refine x_pure rfl (p_assign rfl) ?_
      first | refine aops_end ?_ | refine aops_nil ?_
      refine hK9 _ ?_
      refine aw_seq_k (fun K10 hK10 => ?_)
      refine aw_seq_k (fun K11 hK11 => ?_)
      refine aw_region ?_
      refine x_pure rfl (p_move rfl) ?_
      refine x_pure rfl (p_bin rfl rfl rfl) ?_
      first | refine aops_end ?_ | refine aops_nil ?_
      refine hK11 _ ?_
      refine aw_cond_s rfl (fun hc2 => ?_) (fun hc2 => ?_)
      ·
        try simp only [Bool.not_eq_true', Bool.not_eq_false', Bool.not_true, Bool.not_false, Bool.not_not, decide_eq_true_eq, decide_eq_false_iff_not, beq_iff_eq, beq_eq_false_iff_ne, bne_iff_ne, bne_eq_false_iff_eq, ne_eq, Int.not_lt, Int.not_le, Nat.not_lt, Nat.not_le, gt_iff_lt, ge_iff_le, Bool.and_eq_true, Bool.or_eq_true, Int.ofNat_lt, Int.ofNat_le, Int.natCast_inj, strs_len, ints_len, List.length_cons, List.length_nil] at hc2
        refine aw_region ?_
        refine x_pure rfl (p_assign rfl) ?_
        first | refine aops_end ?_ | refine aops_nil ?_
        refine hK10 _ ?_
        refine aw_seq_k (fun K12 hK12 => ?_)
        refine aw_seq_k (fun K13 hK13 => ?_)
        refine aw_region ?_
        refine x_pure rfl (p_move rfl) ?_
        refine x_pure rfl (p_bin rfl rfl rfl) ?_
        refine x_pure rfl (p_move rfl) ?_
        refine y_guard_s rfl rfl rfl (fun hg3 => ?_) (fun hg3 => ?_)
        ·
          try simp only [Bool.not_eq_true', Bool.not_eq_false', Bool.not_true, Bool.not_false, Bool.not_not, decide_eq_true_eq, decide_eq_false_iff_not, beq_iff_eq, beq_eq_false_iff_ne, bne_iff_ne, bne_eq_false_iff_eq, ne_eq, Int.not_lt, Int.not_le, Nat.not_lt, Nat.not_le, gt_iff_lt, ge_iff_le, Bool.and_eq_true, Bool.or_eq_true, Int.ofNat_lt, Int.ofNat_le, Int.natCast_inj, strs_len, ints_len, List.length_cons, List.length_nil] at hg3
          refine x_pure rfl (p_move rfl) ?_
          refine x_guard_t rfl rfl rfl ?_
          refine x_pure rfl (p_not rfl) ?_
          refine x_pure rfl (p_pick_t rfl rfl) ?_
          first | refine aops_end ?_ | refine aops_nil ?_
          refine hK13 _ ?_
          refine aw_cond_f rfl ?_
          refine aw_skip ?_
          refine hK12 _ ?_
          refine aw_region ?_
          refine x_pure rfl (p_move rfl) ?_
          refine x_pure rfl (p_move rfl) ?_
          refine x_pure rfl (p_move rfl) ?_
          first | refine x_pure rfl (p_idx_sl rfl rfl Try.e22 Try.c9 (by first | assumption | (refine ⟨by omega, ?_⟩; first | assumption | exact strs_at (by omega) | exact strs_at (by simp only [List.length_cons] at *; omega) | exact ints_at (by omega) | exact list_at (by omega)))) ?_ | refine x_pure rfl (p_idx_own rfl rfl Try.e22 Try.c9 (by omega)) ?_
          first | refine x_pure rfl (p_load1 rfl Try.g9 rfl) ?_ | refine x_pure rfl (p_load1r rfl Try.g9 rfl rfl) ?_ | refine x_pure rfl (p_load1r rfl Try.g9 rfl (strs_ref (by simp only [List.length_cons] at *; omega))) ?_ | refine x_pure rfl (p_load1r rfl Try.g9 rfl (strs_ref (by omega))) ?_
          refine x_step hf rfl (r_buildSlice Try.ap22 rfl rfl rfl rfl (by simp [AV.cells, AV.leaf, Value.oneCell', splice, AV.kill, AV.clean, AV.only])) ?_
          refine x_append hf rfl Try.ap22 rfl rfl rfl (by first | exact Or.inl rfl | exact Or.inr rfl) (by first | assumption | (simp only [List.length_append, List.length_cons, List.length_nil]; omega)) rfl (by first | rfl | simp [asrc, look]) (by simp [maxLen] <;> omega) (by simp <;> omega) ?_
          refine aops_le (le_of (sl' := [(0, _), (1, _), (6, _), (7, _), (39, _)]) ⟨rfl, rfl, rfl, rfl, rfl, trivial⟩) ?_
          refine x_pure rfl (p_assign rfl) ?_
          first | refine aops_end ?_ | refine aops_nil ?_
          refine hK8 _ ?_
          refine aw_region ?_
          refine x_pure rfl (p_move rfl) ?_
          first | refine x_pure rfl (p_add rfl rfl (by omega) (by omega)) ?_ | refine x_pure rfl (p_bin rfl rfl rfl) ?_
          refine x_pure rfl (p_assign rfl) ?_
          first | refine aops_end ?_ | refine aops_nil ?_
          exact ⟨(k+1, _, _, _), (by first | exact hC.ins (by omega) (by omega) (by assumption) | exact hC.eq (by omega) (by omega) | exact hC.pass (by omega) (by omega) (by first | exact Or.inl (by omega) | exact Or.inr (by assumption))), by simp only; omega, le_of ⟨rfl, rfl, rfl, rfl, rfl, trivial⟩⟩
        ·
          try simp only [Bool.not_eq_true', Bool.not_eq_false', Bool.not_true, Bool.not_false, Bool.not_not, decide_eq_true_eq, decide_eq_false_iff_not, beq_iff_eq, beq_eq_false_iff_ne, bne_iff_ne, bne_eq_false_iff_eq, ne_eq, Int.not_lt, Int.not_le, Nat.not_lt, Nat.not_le, gt_iff_lt, ge_iff_le, Bool.and_eq_true, Bool.or_eq_true, Int.ofNat_lt, Int.ofNat_le, Int.natCast_inj, strs_len, ints_len, List.length_cons, List.length_nil] at hg3
          refine x_guard_f rfl rfl rfl ?_
          refine x_pure rfl (p_pick_f rfl rfl) ?_
          first | refine aops_end ?_ | refine aops_nil ?_
          refine hK13 _ ?_
          refine aw_cond_f rfl ?_
          refine aw_skip ?_
          refine hK12 _ ?_
          refine aw_region ?_
          refine x_pure rfl (p_move rfl) ?_
          refine x_pure rfl (p_move rfl) ?_
          refine x_pure rfl (p_move rfl) ?_
          first | refine x_pure rfl (p_idx_sl rfl rfl Try.e22 Try.c9 (by first | assumption | (refine ⟨by omega, ?_⟩; first | assumption | exact strs_at (by omega) | exact strs_at (by simp only [List.length_cons] at *; omega) | exact ints_at (by omega) | exact list_at (by omega)))) ?_ | refine x_pure rfl (p_idx_own rfl rfl Try.e22 Try.c9 (by omega)) ?_
          first | refine x_pure rfl (p_load1 rfl Try.g9 rfl) ?_ | refine x_pure rfl (p_load1r rfl Try.g9 rfl rfl) ?_ | refine x_pure rfl (p_load1r rfl Try.g9 rfl (strs_ref (by simp only [List.length_cons] at *; omega))) ?_ | refine x_pure rfl (p_load1r rfl Try.g9 rfl (strs_ref (by omega))) ?_
          refine x_step hf rfl (r_buildSlice Try.ap22 rfl rfl rfl rfl (by simp [AV.cells, AV.leaf, Value.oneCell', splice, AV.kill, AV.clean, AV.only])) ?_
          refine x_append hf rfl Try.ap22 rfl rfl rfl (by first | exact Or.inl rfl | exact Or.inr rfl) (by first | assumption | (simp only [List.length_append, List.length_cons, List.length_nil]; omega)) rfl (by first | rfl | simp [asrc, look]) (by simp [maxLen] <;> omega) (by simp <;> omega) ?_
          refine aops_le (le_of (sl' := [(0, _), (1, _), (6, _), (7, _), (39, _)]) ⟨rfl, rfl, rfl, rfl, rfl, trivial⟩) ?_
          refine x_pure rfl (p_assign rfl) ?_
          first | refine aops_end ?_ | refine aops_nil ?_
          refine hK8 _ ?_
          refine aw_region ?_
          refine x_pure rfl (p_move rfl) ?_
          first | refine x_pure rfl (p_add rfl rfl (by omega) (by omega)) ?_ | refine x_pure rfl (p_bin rfl rfl rfl) ?_
          refine x_pure rfl (p_assign rfl) ?_
          first | refine aops_end ?_ | refine aops_nil ?_
          exact ⟨(k+1, _, _, _), (by first | exact hC.ins (by omega) (by omega) (by assumption) | exact hC.eq (by omega) (by omega) | exact hC.pass (by omega) (by omega) (by first | exact Or.inl (by omega) | exact Or.inr (by assumption))), by simp only; omega, le_of ⟨rfl, rfl, rfl, rfl, rfl, trivial⟩⟩
      ·
        try simp only [Bool.not_eq_true', Bool.not_eq_false', Bool.not_true, Bool.not_false, Bool.not_not, decide_eq_true_eq, decide_eq_false_iff_not, beq_iff_eq, beq_eq_false_iff_ne, bne_iff_ne, bne_eq_false_iff_eq, ne_eq, Int.not_lt, Int.not_le, Nat.not_lt, Nat.not_le, gt_iff_lt, ge_iff_le, Bool.and_eq_true, Bool.or_eq_true, Int.ofNat_lt, Int.ofNat_le, Int.natCast_inj, strs_len, ints_len, List.length_cons, List.length_nil] at hc2
        refine aw_skip ?_
        refine hK10 _ ?_
        refine aw_seq_k (fun K14 hK14 => ?_)
        refine aw_seq_k (fun K15 hK15 => ?_)
        refine aw_region ?_
        refine x_pure rfl (p_move rfl) ?_
        refine x_pure rfl (p_bin rfl rfl rfl) ?_
        refine x_pure rfl (p_move rfl) ?_
        refine y_guard_s rfl rfl rfl (fun hg6 => ?_) (fun hg6 => ?_)
        ·
          try simp only [Bool.not_eq_true', Bool.not_eq_false', Bool.not_true, Bool.not_false, Bool.not_not, decide_eq_true_eq, decide_eq_false_iff_not, beq_iff_eq, beq_eq_false_iff_ne, bne_iff_ne, bne_eq_false_iff_eq, ne_eq, Int.not_lt, Int.not_le, Nat.not_lt, Nat.not_le, gt_iff_lt, ge_iff_le, Bool.and_eq_true, Bool.or_eq_true, Int.ofNat_lt, Int.ofNat_le, Int.natCast_inj, strs_len, ints_len, List.length_cons, List.length_nil] at hg6
          refine x_pure rfl (p_move rfl) ?_
          refine x_guard_t rfl rfl rfl ?_
          refine x_pure rfl (p_not rfl) ?_
          refine x_pure rfl (p_pick_t rfl rfl) ?_
          first | refine aops_end ?_ | refine aops_nil ?_
          refine hK15 _ ?_
          refine aw_cond_s rfl (fun hc7 => ?_) (fun hc7 => ?_)
          ·
            try simp only [Bool.not_eq_true', Bool.not_eq_false', Bool.not_true, Bool.not_false, Bool.not_not, decide_eq_true_eq, decide_eq_false_iff_not, beq_iff_eq, beq_eq_false_iff_ne, bne_iff_ne, bne_eq_false_iff_eq, ne_eq, Int.not_lt, Int.not_le, Nat.not_lt, Nat.not_le, gt_iff_lt, ge_iff_le, Bool.and_eq_true, Bool.or_eq_true, Int.ofNat_lt, Int.ofNat_le, Int.natCast_inj, strs_len, ints_len, List.length_cons, List.length_nil] at hc7
            refine aw_seq_k (fun K16 hK16 => ?_)
            refine aw_region ?_
            refine x_pure rfl (p_move rfl) ?_
            refine x_pure rfl (p_move rfl) ?_
            refine x_step hf rfl (r_buildSlice Try.ap22 rfl rfl rfl rfl (by simp [AV.cells, AV.leaf, Value.oneCell', splice, AV.kill, AV.clean, AV.only])) ?_
            refine x_append hf rfl Try.ap22 rfl rfl rfl (by first | exact Or.inl rfl | exact Or.inr rfl) (by first | assumption | (simp only [List.length_append, List.length_cons, List.length_nil]; omega)) rfl (by first | rfl | simp [asrc, look]) (by simp [maxLen] <;> omega) (by simp <;> omega) ?_
            refine aops_le (le_of (sl' := [(0, _), (1, _), (7, _), (32, _)]) ⟨rfl, rfl, rfl, rfl, trivial⟩) ?_
            refine x_pure rfl (p_assign rfl) ?_
            first | refine aops_end ?_ | refine aops_nil ?_
            refine hK16 _ ?_
            refine aw_region ?_
            refine x_pure rfl (p_assign rfl) ?_
            first | refine aops_end ?_ | refine aops_nil ?_
            refine hK14 _ ?_
            refine aw_region ?_
            refine x_pure rfl (p_move rfl) ?_
            refine x_pure rfl (p_move rfl) ?_
            refine x_pure rfl (p_move rfl) ?_
            first | refine x_pure rfl (p_idx_sl rfl rfl Try.e22 Try.c9 (by first | assumption | (refine ⟨by omega, ?_⟩; first | assumption | exact strs_at (by omega) | exact strs_at (by simp only [List.length_cons] at *; omega) | exact ints_at (by omega) | exact list_at (by omega)))) ?_ | refine x_pure rfl (p_idx_own rfl rfl Try.e22 Try.c9 (by omega)) ?_
            first | refine x_pure rfl (p_load1 rfl Try.g9 rfl) ?_ | refine x_pure rfl (p_load1r rfl Try.g9 rfl rfl) ?_ | refine x_pure rfl (p_load1r rfl Try.g9 rfl (strs_ref (by simp only [List.length_cons] at *; omega))) ?_ | refine x_pure rfl (p_load1r rfl Try.g9 rfl (strs_ref (by omega))) ?_
            refine x_step hf rfl (r_buildSlice Try.ap22 rfl rfl rfl rfl (by simp [AV.cells, AV.leaf, Value.oneCell', splice, AV.kill, AV.clean, AV.only])) ?_
            refine x_append hf rfl Try.ap22 rfl rfl rfl (by first | exact Or.inl rfl | exact Or.inr rfl) (by first | assumption | (simp only [List.length_append, List.length_cons, List.length_nil]; omega)) rfl (by first | rfl | simp [asrc, look]) (by simp [maxLen] <;> omega) (by simp <;> omega) ?_
            refine aops_le (le_of (sl' := [(0, _), (1, _), (6, _), (7, _), (39, _)]) ⟨rfl, rfl, rfl, rfl, rfl, trivial⟩) ?_
            refine x_pure rfl (p_assign rfl) ?_
            first | refine aops_end ?_ | refine aops_nil ?_
            refine hK8 _ ?_
            refine aw_region ?_
            refine x_pure rfl (p_move rfl) ?_
            first | refine x_pure rfl (p_add rfl rfl (by omega) (by omega)) ?_ | refine x_pure rfl (p_bin rfl rfl rfl) ?_
            refine x_pure rfl (p_assign rfl) ?_
            first | refine aops_end ?_ | refine aops_nil ?_
            exact ⟨(k+1, _, _, _), (by first | exact hC.ins (by omega) (by omega) (by assumption) | exact hC.eq (by omega) (by omega) | exact hC.pass (by omega) (by omega) (by first | exact Or.inl (by omega) | exact Or.inr (by assumption))), by simp only; omega, le_of ⟨rfl, rfl, rfl, rfl, rfl, trivial⟩⟩
          ·
            try simp only [Bool.not_eq_true', Bool.not_eq_false', Bool.not_true, Bool.not_false, Bool.not_not, decide_eq_true_eq, decide_eq_false_iff_not, beq_iff_eq, beq_eq_false_iff_ne, bne_iff_ne, bne_eq_false_iff_eq, ne_eq, Int.not_lt, Int.not_le, Nat.not_lt, Nat.not_le, gt_iff_lt, ge_iff_le, Bool.and_eq_true, Bool.or_eq_true, Int.ofNat_lt, Int.ofNat_le, Int.natCast_inj, strs_len, ints_len, List.length_cons, List.length_nil] at hc7
            refine aw_skip ?_
            refine hK14 _ ?_
            refine aw_region ?_
            refine x_pure rfl (p_move rfl) ?_
            refine x_pure rfl (p_move rfl) ?_
            refine x_pure rfl (p_move rfl) ?_
            first | refine x_pure rfl (p_idx_sl rfl rfl Try.e22 Try.c9 (by first | assumption | (refine ⟨by omega, ?_⟩; first | assumption | exact strs_at (by omega) | exact strs_at (by simp only [List.length_cons] at *; omega) | exact ints_at (by omega) | exact list_at (by omega)))) ?_ | refine x_pure rfl (p_idx_own rfl rfl Try.e22 Try.c9 (by omega)) ?_
            first | refine x_pure rfl (p_load1 rfl Try.g9 rfl) ?_ | refine x_pure rfl (p_load1r rfl Try.g9 rfl rfl) ?_ | refine x_pure rfl (p_load1r rfl Try.g9 rfl (strs_ref (by simp only [List.length_cons] at *; omega))) ?_ | refine x_pure rfl (p_load1r rfl Try.g9 rfl (strs_ref (by omega))) ?_
            refine x_step hf rfl (r_buildSlice Try.ap22 rfl rfl rfl rfl (by simp [AV.cells, AV.leaf, Value.oneCell', splice, AV.kill, AV.clean, AV.only])) ?_
            refine x_append hf rfl Try.ap22 rfl rfl rfl (by first | exact Or.inl rfl | exact Or.inr rfl) (by first | assumption | (simp only [List.length_append, List.length_cons, List.length_nil]; omega)) rfl (by first | rfl | simp [asrc, look]) (by simp [maxLen] <;> omega) (by simp <;> omega) ?_
            refine aops_le (le_of (sl' := [(0, _), (1, _), (6, _), (7, _), (39, _)]) ⟨rfl, rfl, rfl, rfl, rfl, trivial⟩) ?_
            refine x_pure rfl (p_assign rfl) ?_
            first | refine aops_end ?_ | refine aops_nil ?_
            refine hK8 _ ?_
            refine aw_region ?_
            refine x_pure rfl (p_move rfl) ?_
            first | refine x_pure rfl (p_add rfl rfl (by omega) (by omega)) ?_ | refine x_pure rfl (p_bin rfl rfl rfl) ?_
            refine x_pure rfl (p_assign rfl) ?_
            first | refine aops_end ?_ | refine aops_nil ?_
            exact ⟨(k+1, _, _, _), (by first | exact hC.ins (by omega) (by omega) (by assumption) | exact hC.eq (by omega) (by omega) | exact hC.pass (by omega) (by omega) (by first | exact Or.inl (by omega) | exact Or.inr (by assumption))), by simp only; omega, le_of ⟨rfl, rfl, rfl, rfl, rfl, trivial⟩⟩
        ·
          try simp only [Bool.not_eq_true', Bool.not_eq_false', Bool.not_true, Bool.not_false, Bool.not_not, decide_eq_true_eq, decide_eq_false_iff_not, beq_iff_eq, beq_eq_false_iff_ne, bne_iff_ne, bne_eq_false_iff_eq, ne_eq, Int.not_lt, Int.not_le, Nat.not_lt, Nat.not_le, gt_iff_lt, ge_iff_le, Bool.and_eq_true, Bool.or_eq_true, Int.ofNat_lt, Int.ofNat_le, Int.natCast_inj, strs_len, ints_len, List.length_cons, List.length_nil] at hg6
          refine x_guard_f rfl rfl rfl ?_
          refine x_pure rfl (p_pick_f rfl rfl) ?_
          first | refine aops_end ?_ | refine aops_nil ?_
          refine hK15 _ ?_
          refine aw_cond_f rfl ?_
          refine aw_skip ?_
          refine hK14 _ ?_
          refine aw_region ?_
          refine x_pure rfl (p_move rfl) ?_
          refine x_pure rfl (p_move rfl) ?_
          refine x_pure rfl (p_move rfl) ?_
          first | refine x_pure rfl (p_idx_sl rfl rfl Try.e22 Try.c9 (by first | assumption | (refine ⟨by omega, ?_⟩; first | assumption | exact strs_at (by omega) | exact strs_at (by simp only [List.length_cons] at *; omega) | exact ints_at (by omega) | exact list_at (by omega)))) ?_ | refine x_pure rfl (p_idx_own rfl rfl Try.e22 Try.c9 (by omega)) ?_
          first | refine x_pure rfl (p_load1 rfl Try.g9 rfl) ?_ | refine x_pure rfl (p_load1r rfl Try.g9 rfl rfl) ?_ | refine x_pure rfl (p_load1r rfl Try.g9 rfl (strs_ref (by simp only [List.length_cons] at *; omega))) ?_ | refine x_pure rfl (p_load1r rfl Try.g9 rfl (strs_ref (by omega))) ?_
          refine x_step hf rfl (r_buildSlice Try.ap22 rfl rfl rfl rfl (by simp [AV.cells, AV.leaf, Value.oneCell', splice, AV.kill, AV.clean, AV.only])) ?_
          refine x_append hf rfl Try.ap22 rfl rfl rfl (by first | exact Or.inl rfl | exact Or.inr rfl) (by first | assumption | (simp only [List.length_append, List.length_cons, List.length_nil]; omega)) rfl (by first | rfl | simp [asrc, look]) (by simp [maxLen] <;> omega) (by simp <;> omega) ?_
          refine aops_le (le_of (sl' := [(0, _), (1, _), (6, _), (7, _), (39, _)]) ⟨rfl, rfl, rfl, rfl, rfl, trivial⟩) ?_
          refine x_pure rfl (p_assign rfl) ?_
          first | refine aops_end ?_ | refine aops_nil ?_
          refine hK8 _ ?_
          refine aw_region ?_
          refine x_pure rfl (p_move rfl) ?_
          first | refine x_pure rfl (p_add rfl rfl (by omega) (by omega)) ?_ | refine x_pure rfl (p_bin rfl rfl rfl) ?_
          refine x_pure rfl (p_assign rfl) ?_
          first | refine aops_end ?_ | refine aops_nil ?_
          exact ⟨(k+1, _, _, _), (by first | exact hC.ins (by omega) (by omega) (by assumption) | exact hC.eq (by omega) (by omega) | exact hC.pass (by omega) (by omega) (by first | exact Or.inl (by omega) | exact Or.inr (by assumption))), by simp only; omega, le_of ⟨rfl, rfl, rfl, rfl, rfl, trivial⟩⟩
    ·
      try simp only [Bool.not_eq_true', Bool.not_eq_false', Bool.not_true, Bool.not_false, Bool.not_not, decide_eq_true_eq, decide_eq_false_iff_not, beq_iff_eq, beq_eq_false_iff_ne, bne_iff_ne, bne_eq_false_iff_eq, ne_eq, Int.not_lt, Int.not_le, Nat.not_lt, Nat.not_le, gt_iff_lt, ge_iff_le, Bool.and_eq_true, Bool.or_eq_true, Int.ofNat_lt, Int.ofNat_le, Int.natCast_inj, strs_len, ints_len, List.length_cons, List.length_nil] at hc1
      refine aw_exit ?_
      refine hK4 _ ?_
      refine aw_seq_k (fun K17 hK17 => ?_)
      refine aw_seq_k (fun K18 hK18 => ?_)
      refine aw_region ?_
      refine x_pure rfl (p_move rfl) ?_
      refine x_pure rfl (p_not rfl) ?_
      first | refine aops_end ?_ | refine aops_nil ?_
      refine hK18 _ ?_
      refine aw_cond_s rfl (fun hc9 => ?_) (fun hc9 => ?_)
      ·
        try simp only [Bool.not_eq_true', Bool.not_eq_false', Bool.not_true, Bool.not_false, Bool.not_not, decide_eq_true_eq, decide_eq_false_iff_not, beq_iff_eq, beq_eq_false_iff_ne, bne_iff_ne, bne_eq_false_iff_eq, ne_eq, Int.not_lt, Int.not_le, Nat.not_lt, Nat.not_le, gt_iff_lt, ge_iff_le, Bool.and_eq_true, Bool.or_eq_true, Int.ofNat_lt, Int.ofNat_le, Int.natCast_inj, strs_len, ints_len, List.length_cons, List.length_nil] at hc9
        refine aw_region ?_
        refine x_pure rfl (p_move rfl) ?_
        refine x_pure rfl (p_move rfl) ?_
        refine x_step hf rfl (r_buildSlice Try.ap22 rfl rfl rfl rfl (by simp [AV.cells, AV.leaf, Value.oneCell', splice, AV.kill, AV.clean, AV.only])) ?_
        refine x_append hf rfl Try.ap22 rfl rfl rfl (by first | exact Or.inl rfl | exact Or.inr rfl) (by first | assumption | (simp only [List.length_append, List.length_cons, List.length_nil]; omega)) rfl (by first | rfl | simp [asrc, look]) (by simp [maxLen] <;> omega) (by simp <;> omega) ?_
        refine aops_le (le_of (sl' := [(45, _)]) ⟨rfl, trivial⟩) ?_
        refine x_pure rfl (p_assign rfl) ?_
        first | refine aops_end ?_ | refine aops_nil ?_
        refine hK17 _ ?_
        refine aw_seq_k (fun K19 hK19 => ?_)
        refine aw_region ?_
        refine x_pure rfl (p_move rfl) ?_
        refine x_pure rfl (p_assign rfl) ?_
        first | refine aops_end ?_ | refine aops_nil ?_
        refine hK19 _ ?_
        refine aw_ret ?_
        refine ⟨_, rfl, ?_⟩
        first | (refine (conv_whole (g := 5) rfl (by first | assumption | (simp only [List.length_append, List.length_cons, List.length_nil]; omega))).trans ?_; first | rw [← hC.fin_t (by omega) (by assumption)] | (rw [← hC.fin_f (by omega) (by assumption)]; rfl))
      ·
        try simp only [Bool.not_eq_true', Bool.not_eq_false', Bool.not_true, Bool.not_false, Bool.not_not, decide_eq_true_eq, decide_eq_false_iff_not, beq_iff_eq, beq_eq_false_iff_ne, bne_iff_ne, bne_eq_false_iff_eq, ne_eq, Int.not_lt, Int.not_le, Nat.not_lt, Nat.not_le, gt_iff_lt, ge_iff_le, Bool.and_eq_true, Bool.or_eq_true, Int.ofNat_lt, Int.ofNat_le, Int.natCast_inj, strs_len, ints_len, List.length_cons, List.length_nil] at hc9
        refine aw_skip ?_
        refine hK17 _ ?_
        refine aw_seq_k (fun K20 hK20 => ?_)
        refine aw_region ?_
        refine x_pure rfl (p_move rfl) ?_
        refine x_pure rfl (p_assign rfl) ?_
        first | refine aops_end ?_ | refine aops_nil ?_
        refine hK20 _ ?_
        refine aw_ret ?_
        refine ⟨_, rfl, ?_⟩
        first | (refine (conv_whole (g := 5) rfl (by first | assumption | (simp only [List.length_append, List.length_cons, List.length_nil]; omega))).trans ?_; first | rw [← hC.fin_t (by omega) (by assumption)] | (rw [← hC.fin_f (by omega) (by assumption)]; rfl))
end Go.Proofs.Ytpicjibfbghonaa
