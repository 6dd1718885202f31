import Derived.Test.YtkjniggdldpnoaaW10
set_option linter.unusedVariables false
set_option linter.unusedSimpArgs false
namespace Go.Proofs.Ytkjniggdldpnoaa
open Go Go.Abs

set_option maxRecDepth 20000 in
set_option maxHeartbeats 4000000 in
theorem spanSpreads_den (a b c : List Sp) (ha : a.length ≤ 9223372036854775807) (hb0 : b.length ≤ 9223372036854775807) (hc0 : c.length ≤ 9223372036854775807)  : Den Try.prog 6 [.sl 2 (a.map spC), .sl 2 (b.map spC), .sl 2 (c.map spC)]  (· = .s (.bool true)) := by
  refine den_of_aw Try.func6 rfl (Nat.le_of_ble_eq_true rfl) (fun w0 A hf => ?_)
  refine aw_seq_k (fun K1 hK1 => ?_)
  refine aw_region ?_
  refine x_pure rfl (p_assign_bad) ?_
  first | refine aops_end ?_ | refine aops_nil ?_
  refine hK1 _ ?_
  refine aw_seq_k (fun K2 hK2 => ?_)
  refine aw_seq_k (fun K3 hK3 => ?_)
  refine aw_region ?_
  refine x_pure rfl (p_move rfl) ?_
  first | refine x_pure rfl (p_len_sl rfl Try.e31) ?_ | refine x_pure rfl (p_len_own rfl Try.e31) ?_ | refine x_pure rfl (p_len_nil rfl Try.e31) ?_
  refine x_pure rfl (p_bin rfl rfl rfl) ?_
  refine x_pure rfl (p_move rfl) ?_
  refine y_guard_s rfl rfl rfl (fun hg1 => ?_) (fun hg1 => ?_)
  ·
    try simp only [Bool.not_eq_true', Bool.not_eq_false', Bool.not_true, Bool.not_false, Bool.not_not, decide_eq_true_eq, decide_eq_false_iff_not, beq_iff_eq, beq_eq_false_iff_ne, bne_iff_ne, bne_eq_false_iff_eq, ne_eq, Int.not_lt, Int.not_le, Nat.not_lt, Nat.not_le, gt_iff_lt, ge_iff_le, Bool.and_eq_true, Bool.or_eq_true, Int.ofNat_lt, Int.ofNat_le, Int.natCast_inj, List.length_map, List.length_cons, List.length_nil, List.length_append] at hg1
    refine x_pure rfl (p_move rfl) ?_
    refine x_guard_t rfl rfl rfl ?_
    first | refine x_pure rfl (p_len_sl rfl Try.e31) ?_ | refine x_pure rfl (p_len_own rfl Try.e31) ?_ | refine x_pure rfl (p_len_nil rfl Try.e31) ?_
    refine x_guard_t rfl rfl rfl ?_
    refine x_pure rfl (p_bin rfl rfl rfl) ?_
    refine x_pure rfl (p_pick_f rfl rfl) ?_
    refine x_pure rfl (p_move rfl) ?_
    refine y_guard_s rfl rfl rfl (fun hg2 => ?_) (fun hg2 => ?_)
    ·
      try simp only [Bool.not_eq_true', Bool.not_eq_false', Bool.not_true, Bool.not_false, Bool.not_not, decide_eq_true_eq, decide_eq_false_iff_not, beq_iff_eq, beq_eq_false_iff_ne, bne_iff_ne, bne_eq_false_iff_eq, ne_eq, Int.not_lt, Int.not_le, Nat.not_lt, Nat.not_le, gt_iff_lt, ge_iff_le, Bool.and_eq_true, Bool.or_eq_true, Int.ofNat_lt, Int.ofNat_le, Int.natCast_inj, List.length_map, List.length_cons, List.length_nil, List.length_append] at hg2
      refine x_pure rfl (p_move rfl) ?_
      refine x_guard_t rfl rfl rfl ?_
      first | refine x_pure rfl (p_len_sl rfl Try.e31) ?_ | refine x_pure rfl (p_len_own rfl Try.e31) ?_ | refine x_pure rfl (p_len_nil rfl Try.e31) ?_
      refine x_guard_t rfl rfl rfl ?_
      refine x_pure rfl (p_bin rfl rfl rfl) ?_
      refine x_pure rfl (p_pick_f rfl rfl) ?_
      first | refine aops_end ?_ | refine aops_nil ?_
      refine hK3 _ ?_
      refine aw_cond_s rfl (fun hc3 => ?_) (fun hc3 => ?_)
      ·
        try simp only [Bool.not_eq_true', Bool.not_eq_false', Bool.not_true, Bool.not_false, Bool.not_not, decide_eq_true_eq, decide_eq_false_iff_not, beq_iff_eq, beq_eq_false_iff_ne, bne_iff_ne, bne_eq_false_iff_eq, ne_eq, Int.not_lt, Int.not_le, Nat.not_lt, Nat.not_le, gt_iff_lt, ge_iff_le, Bool.and_eq_true, Bool.or_eq_true, Int.ofNat_lt, Int.ofNat_le, Int.natCast_inj, List.length_map, List.length_cons, List.length_nil, List.length_append] at hc3
        refine aw_seq_k (fun K4 hK4 => ?_)
        refine aw_region ?_
        refine x_step hf rfl (r_call rfl rfl Try.ent20 rfl (alive_den)) ?_
        refine x_pure rfl (p_assign rfl) ?_
        first | refine aops_end ?_ | refine aops_nil ?_
        refine hK4 _ ?_
        refine aw_ret ?_
        refine ⟨_, rfl, ?_⟩
        rfl
      ·
        try simp only [Bool.not_eq_true', Bool.not_eq_false', Bool.not_true, Bool.not_false, Bool.not_not, decide_eq_true_eq, decide_eq_false_iff_not, beq_iff_eq, beq_eq_false_iff_ne, bne_iff_ne, bne_eq_false_iff_eq, ne_eq, Int.not_lt, Int.not_le, Nat.not_lt, Nat.not_le, gt_iff_lt, ge_iff_le, Bool.and_eq_true, Bool.or_eq_true, Int.ofNat_lt, Int.ofNat_le, Int.natCast_inj, List.length_map, List.length_cons, List.length_nil, List.length_append] at hc3
        refine aw_skip ?_
        refine hK2 _ ?_
        refine aw_seq_k (fun K5 hK5 => ?_)
        refine aw_region ?_
        have := norm_len (List.flatten [a, b])
        have : (List.flatten [a, b]).length = (a).length + (b).length := by simp
        have := norm_len (List.flatten [b, c])
        have : (List.flatten [b, c]).length = (b).length + (c).length := by simp
        have := norm_len a
        have := norm_len b
        have := norm_len c
        have hm1 := Nat.mul_le_mul (show a.length ≤ 20 by omega) (show c.length ≤ 20 by omega)
        have hm2 := Nat.mul_le_mul (show b.length ≤ 20 by omega) (show c.length ≤ 20 by omega)
        have hm3 := Nat.mul_le_mul (show (normL (List.flatten [a, b])).length ≤ 80 by omega) (show c.length ≤ 20 by omega)
        have := meet_len a c
        have := meet_len b c
        have := meet_len (normL (List.flatten [a, b])) c
        have := less_len a c
        have := less_len b c
        have := less_len a b
        have := less_len (normL (List.flatten [a, b])) c
        have := less_len a (normL (List.flatten [b, c]))
        have := less_len (lessL a b) c
        have := norm_len (List.flatten [meetL a c, meetL b c])
        have : (List.flatten [meetL a c, meetL b c]).length = (meetL a c).length + (meetL b c).length := by simp
        have := norm_len (List.flatten [lessL a c, lessL b c])
        have : (List.flatten [lessL a c, lessL b c]).length = (lessL a c).length + (lessL b c).length := by simp
        refine x_pure rfl (p_move rfl) ?_
        refine x_step hf rfl (r_call rfl rfl Try.ent21 rfl (news_den _ (by omega))) ?_
        refine x_pure rfl (p_move rfl) ?_
        refine x_step hf rfl (r_call rfl rfl Try.ent21 rfl (news_den _ (by omega))) ?_
        refine x_pure rfl (p_move rfl) ?_
        refine x_step hf rfl (r_call rfl rfl Try.ent21 rfl (news_den _ (by omega))) ?_
        refine x_pure rfl (p_assign rfl) ?_
        refine x_pure rfl (p_assign rfl) ?_
        refine x_pure rfl (p_assign rfl) ?_
        first | refine aops_end ?_ | refine aops_nil ?_
        refine hK5 _ ?_
        refine aw_seq_k (fun K6 hK6 => ?_)
        refine aw_region ?_
        refine x_pure rfl (p_move rfl) ?_
        refine x_pure rfl (p_move rfl) ?_
        refine x_step hf rfl (r_buildSlice Try.ap32 rfl rfl rfl rfl (by simp [spC, AV.cells, AV.leaf, Value.oneCell', splice, AV.kill, AV.clean, cleanL, AV.only])) ?_
        refine x_step hf rfl (r_call rfl rfl Try.ent24 rfl (joinT_den _ _ (by omega))) ?_
        refine x_pure rfl (p_move rfl) ?_
        refine x_step hf rfl (r_call rfl rfl Try.ent31 rfl (meet_den _ _ (by omega) (by omega) (by omega))) ?_
        refine x_pure rfl (p_move rfl) ?_
        refine x_pure rfl (p_move rfl) ?_
        refine x_step hf rfl (r_call rfl rfl Try.ent31 rfl (meet_den _ _ (by omega) (by omega) (by omega))) ?_
        refine x_pure rfl (p_move rfl) ?_
        refine x_pure rfl (p_move rfl) ?_
        refine x_step hf rfl (r_call rfl rfl Try.ent31 rfl (meet_den _ _ (by omega) (by omega) (by omega))) ?_
        refine x_step hf rfl (r_buildSlice Try.ap32 rfl rfl rfl rfl (by simp [spC, AV.cells, AV.leaf, Value.oneCell', splice, AV.kill, AV.clean, cleanL, AV.only])) ?_
        refine x_step hf rfl (r_call rfl rfl Try.ent24 rfl (joinT_den _ _ (by omega))) ?_
        refine x_step hf rfl (r_call rfl rfl Try.ent26 rfl (sameT_den _ _ (spread_meet a b c) (by omega))) ?_
        refine x_pure rfl (p_assign rfl) ?_
        first | refine aops_end ?_ | refine aops_nil ?_
        refine hK6 _ ?_
        refine aw_seq_k (fun K7 hK7 => ?_)
        refine aw_region ?_
        refine x_pure rfl (p_move rfl) ?_
        refine x_pure rfl (p_move rfl) ?_
        refine x_step hf rfl (r_buildSlice Try.ap32 rfl rfl rfl rfl (by simp [spC, AV.cells, AV.leaf, Value.oneCell', splice, AV.kill, AV.clean, cleanL, AV.only])) ?_
        refine x_step hf rfl (r_call rfl rfl Try.ent24 rfl (joinT_den _ _ (by omega))) ?_
        refine x_pure rfl (p_move rfl) ?_
        refine x_step hf rfl (r_call rfl rfl Try.ent32 rfl (less_den _ _ (by omega))) ?_
        refine x_pure rfl (p_move rfl) ?_
        refine x_pure rfl (p_move rfl) ?_
        refine x_step hf rfl (r_call rfl rfl Try.ent32 rfl (less_den _ _ (by omega))) ?_
        refine x_pure rfl (p_move rfl) ?_
        refine x_pure rfl (p_move rfl) ?_
        refine x_step hf rfl (r_call rfl rfl Try.ent32 rfl (less_den _ _ (by omega))) ?_
        refine x_step hf rfl (r_buildSlice Try.ap32 rfl rfl rfl rfl (by simp [spC, AV.cells, AV.leaf, Value.oneCell', splice, AV.kill, AV.clean, cleanL, AV.only])) ?_
        refine x_step hf rfl (r_call rfl rfl Try.ent24 rfl (joinT_den _ _ (by omega))) ?_
        refine x_step hf rfl (r_call rfl rfl Try.ent26 rfl (sameT_den _ _ (spread_less a b c) (by omega))) ?_
        refine x_pure rfl (p_assign rfl) ?_
        first | refine aops_end ?_ | refine aops_nil ?_
        refine hK7 _ ?_
        refine aw_seq_k (fun K8 hK8 => ?_)
        refine aw_region ?_
        refine x_step hf rfl (r_call rfl rfl Try.ent20 rfl (alive_den)) ?_
        refine x_pure rfl (p_move rfl) ?_
        refine x_guard_t rfl rfl rfl ?_
        refine x_pure rfl (p_move rfl) ?_
        refine x_pure rfl (p_pick_t rfl rfl) ?_
        refine x_pure rfl (p_move rfl) ?_
        refine x_guard_t rfl rfl rfl ?_
        refine x_pure rfl (p_move rfl) ?_
        refine x_pure rfl (p_pick_t rfl rfl) ?_
        refine x_pure rfl (p_move rfl) ?_
        refine x_guard_t rfl rfl rfl ?_
        refine x_pure rfl (p_move rfl) ?_
        refine x_guard_t rfl rfl rfl ?_
        refine x_pure rfl (p_move rfl) ?_
        refine x_guard_t rfl rfl rfl ?_
        refine x_pure rfl (p_move rfl) ?_
        refine x_guard_t rfl rfl rfl ?_
        refine x_step hf rfl (r_buildSlice Try.ap32 rfl rfl rfl rfl (by simp [spC, AV.cells, AV.leaf, Value.oneCell', splice, AV.kill, AV.clean, cleanL, AV.only])) ?_
        refine x_guard_t rfl rfl rfl ?_
        refine x_step hf rfl (r_call rfl rfl Try.ent24 rfl (joinT_den _ _ (by omega))) ?_
        refine x_guard_t rfl rfl rfl ?_
        refine x_step hf rfl (r_call rfl rfl Try.ent32 rfl (less_den _ _ (by omega))) ?_
        refine x_guard_t rfl rfl rfl ?_
        refine x_pure rfl (p_move rfl) ?_
        refine x_guard_t rfl rfl rfl ?_
        refine x_pure rfl (p_move rfl) ?_
        refine x_guard_t rfl rfl rfl ?_
        refine x_step hf rfl (r_call rfl rfl Try.ent32 rfl (less_den _ _ (by omega))) ?_
        refine x_guard_t rfl rfl rfl ?_
        refine x_pure rfl (p_move rfl) ?_
        refine x_guard_t rfl rfl rfl ?_
        refine x_step hf rfl (r_call rfl rfl Try.ent32 rfl (less_den _ _ (by omega))) ?_
        refine x_guard_t rfl rfl rfl ?_
        refine x_step hf rfl (r_call rfl rfl Try.ent26 rfl (sameT_den _ _ (less_join a b c) (by omega))) ?_
        refine x_pure rfl (p_pick_t rfl rfl) ?_
        refine x_pure rfl (p_assign rfl) ?_
        first | refine aops_end ?_ | refine aops_nil ?_
        refine hK8 _ ?_
        refine aw_ret ?_
        refine ⟨_, rfl, ?_⟩
        rfl
    ·
      try simp only [Bool.not_eq_true', Bool.not_eq_false', Bool.not_true, Bool.not_false, Bool.not_not, decide_eq_true_eq, decide_eq_false_iff_not, beq_iff_eq, beq_eq_false_iff_ne, bne_iff_ne, bne_eq_false_iff_eq, ne_eq, Int.not_lt, Int.not_le, Nat.not_lt, Nat.not_le, gt_iff_lt, ge_iff_le, Bool.and_eq_true, Bool.or_eq_true, Int.ofNat_lt, Int.ofNat_le, Int.natCast_inj, List.length_map, List.length_cons, List.length_nil, List.length_append] at hg2
      refine x_guard_f rfl rfl rfl ?_
      refine x_guard_f rfl rfl rfl ?_
      refine x_pure rfl (p_pick_t rfl rfl) ?_
      first | refine aops_end ?_ | refine aops_nil ?_
      refine hK3 _ ?_
      refine aw_cond_t rfl ?_
      refine aw_seq_k (fun K9 hK9 => ?_)
      refine aw_region ?_
      refine x_step hf rfl (r_call rfl rfl Try.ent20 rfl (alive_den)) ?_
      refine x_pure rfl (p_assign rfl) ?_
      first | refine aops_end ?_ | refine aops_nil ?_
      refine hK9 _ ?_
      refine aw_ret ?_
      refine ⟨_, rfl, ?_⟩
      rfl
  ·
    try simp only [Bool.not_eq_true', Bool.not_eq_false', Bool.not_true, Bool.not_false, Bool.not_not, decide_eq_true_eq, decide_eq_false_iff_not, beq_iff_eq, beq_eq_false_iff_ne, bne_iff_ne, bne_eq_false_iff_eq, ne_eq, Int.not_lt, Int.not_le, Nat.not_lt, Nat.not_le, gt_iff_lt, ge_iff_le, Bool.and_eq_true, Bool.or_eq_true, Int.ofNat_lt, Int.ofNat_le, Int.natCast_inj, List.length_map, List.length_cons, List.length_nil, List.length_append] at hg1
    refine x_guard_f rfl rfl rfl ?_
    refine x_guard_f rfl rfl rfl ?_
    refine x_pure rfl (p_pick_t rfl rfl) ?_
    refine x_pure rfl (p_move rfl) ?_
    refine x_guard_f rfl rfl rfl ?_
    refine x_guard_f rfl rfl rfl ?_
    refine x_guard_f rfl rfl rfl ?_
    refine x_pure rfl (p_pick_t rfl rfl) ?_
    first | refine aops_end ?_ | refine aops_nil ?_
    refine hK3 _ ?_
    refine aw_cond_t rfl ?_
    refine aw_seq_k (fun K10 hK10 => ?_)
    refine aw_region ?_
    refine x_step hf rfl (r_call rfl rfl Try.ent20 rfl (alive_den)) ?_
    refine x_pure rfl (p_assign rfl) ?_
    first | refine aops_end ?_ | refine aops_nil ?_
    refine hK10 _ ?_
    refine aw_ret ?_
    refine ⟨_, rfl, ?_⟩
    rfl
end Go.Proofs.Ytkjniggdldpnoaa
