import Derived.Test.YtpicjibfbghonaaW8
import Derived.Test.YtpicjibfbghonaaP3
set_option linter.unusedVariables false
set_option linter.unusedSimpArgs false
namespace Go.Proofs.Ytpicjibfbghonaa
open Go Go.Abs
theorem leastAny_den (l : List ByteArray) (hl : l.length ≤ 9223372036854775807) (h : l ≠ []) : Den Try.prog 17 [.sl 1 (strs l)] (· = .tup [.s (.string (leastB l)), .s (.bool true)]) := by
  cases l with
  | nil => exact absurd rfl h
  | cons x xs => exact least_den x xs hl
theorem leastApp_den (a b : List ByteArray) (ha : a ≠ []) (hb : b ≠ []) (h1 : a.length ≤ 100) (h2 : b.length ≤ 100) : Den Try.prog 17 [.sl 1 (strs (a ++ b))] (· = .tup [.s (.string (minStep (leastB a) (leastB b))), .s (.bool true)]) := by
  rw [← least_app a b ha hb]
  exact leastAny_den (a ++ b) (by rw [List.length_append]; omega) (by simp [ha])

set_option maxHeartbeats 2000000 in
theorem nameLeast_den (a b : List ByteArray) (ha : TL a) (hb : TL b)  : Den Try.prog 8 [.sl 1 (strs a), .sl 1 (strs b)]  (· = .s (.bool true)) := by
  have hla := strs_len a
  have hlb := strs_len b
  have ha1 := ha.1
  have hb1 := hb.1
  refine den_of_aw Try.func8 rfl (Nat.le_of_ble_eq_true rfl) (fun w0 A hf => ?_)
  refine aw_seq_k (fun K1 hK1 => ?_)
  refine aw_region ?_
  refine x_pure rfl (p_assign_bad) ?_
  first | refine aops_end ?_ | refine aops_nil ?_
  refine hK1 _ ?_
  refine aw_seq_k (fun K2 hK2 => ?_)
  refine aw_seq_k (fun K3 hK3 => ?_)
  refine aw_region ?_
  refine x_pure rfl (p_move rfl) ?_
  first | refine x_pure rfl (p_len_sl rfl Try.e22) ?_ | refine x_pure rfl (p_len_own rfl Try.e22) ?_
  refine x_pure rfl (p_bin rfl rfl rfl) ?_
  refine x_pure rfl (p_move rfl) ?_
  refine y_guard_s rfl rfl rfl (fun hg1 => ?_) (fun hg1 => ?_)
  ·
    try simp only [Bool.not_eq_true', Bool.not_eq_false', Bool.not_true, Bool.not_false, Bool.not_not, decide_eq_true_eq, decide_eq_false_iff_not, beq_iff_eq, beq_eq_false_iff_ne, bne_iff_ne, bne_eq_false_iff_eq, ne_eq, Int.not_lt, Int.not_le, Nat.not_lt, Nat.not_le, gt_iff_lt, ge_iff_le, Bool.and_eq_true, Bool.or_eq_true, Int.ofNat_lt, Int.ofNat_le, Int.natCast_inj, strs_len, ints_len, List.length_cons, List.length_nil] at hg1
    refine x_pure rfl (p_move rfl) ?_
    refine x_guard_t rfl rfl rfl ?_
    first | refine x_pure rfl (p_len_sl rfl Try.e22) ?_ | refine x_pure rfl (p_len_own rfl Try.e22) ?_
    refine x_guard_t rfl rfl rfl ?_
    refine x_pure rfl (p_bin rfl rfl rfl) ?_
    refine x_pure rfl (p_pick_f rfl rfl) ?_
    refine x_pure rfl (p_move rfl) ?_
    refine y_guard_s rfl rfl rfl (fun hg2 => ?_) (fun hg2 => ?_)
    ·
      try simp only [Bool.not_eq_true', Bool.not_eq_false', Bool.not_true, Bool.not_false, Bool.not_not, decide_eq_true_eq, decide_eq_false_iff_not, beq_iff_eq, beq_eq_false_iff_ne, bne_iff_ne, bne_eq_false_iff_eq, ne_eq, Int.not_lt, Int.not_le, Nat.not_lt, Nat.not_le, gt_iff_lt, ge_iff_le, Bool.and_eq_true, Bool.or_eq_true, Int.ofNat_lt, Int.ofNat_le, Int.natCast_inj, strs_len, ints_len, List.length_cons, List.length_nil] at hg2
      refine x_pure rfl (p_move rfl) ?_
      refine x_guard_t rfl rfl rfl ?_
      first | refine x_pure rfl (p_len_sl rfl Try.e22) ?_ | refine x_pure rfl (p_len_own rfl Try.e22) ?_
      refine x_guard_t rfl rfl rfl ?_
      refine x_pure rfl (p_bin rfl rfl rfl) ?_
      refine x_pure rfl (p_pick_f rfl rfl) ?_
      refine x_pure rfl (p_move rfl) ?_
      refine y_guard_s rfl rfl rfl (fun hg3 => ?_) (fun hg3 => ?_)
      ·
        try simp only [Bool.not_eq_true', Bool.not_eq_false', Bool.not_true, Bool.not_false, Bool.not_not, decide_eq_true_eq, decide_eq_false_iff_not, beq_iff_eq, beq_eq_false_iff_ne, bne_iff_ne, bne_eq_false_iff_eq, ne_eq, Int.not_lt, Int.not_le, Nat.not_lt, Nat.not_le, gt_iff_lt, ge_iff_le, Bool.and_eq_true, Bool.or_eq_true, Int.ofNat_lt, Int.ofNat_le, Int.natCast_inj, strs_len, ints_len, List.length_cons, List.length_nil] at hg3
        refine x_pure rfl (p_move rfl) ?_
        refine x_guard_t rfl rfl rfl ?_
        first | refine x_pure rfl (p_len_sl rfl Try.e22) ?_ | refine x_pure rfl (p_len_own rfl Try.e22) ?_
        refine x_guard_t rfl rfl rfl ?_
        refine x_pure rfl (p_bin rfl rfl rfl) ?_
        refine x_pure rfl (p_pick_f rfl rfl) ?_
        first | refine aops_end ?_ | refine aops_nil ?_
        refine hK3 _ ?_
        refine aw_cond_s rfl (fun hc4 => ?_) (fun hc4 => ?_)
        ·
          try simp only [Bool.not_eq_true', Bool.not_eq_false', Bool.not_true, Bool.not_false, Bool.not_not, decide_eq_true_eq, decide_eq_false_iff_not, beq_iff_eq, beq_eq_false_iff_ne, bne_iff_ne, bne_eq_false_iff_eq, ne_eq, Int.not_lt, Int.not_le, Nat.not_lt, Nat.not_le, gt_iff_lt, ge_iff_le, Bool.and_eq_true, Bool.or_eq_true, Int.ofNat_lt, Int.ofNat_le, Int.natCast_inj, strs_len, ints_len, List.length_cons, List.length_nil] at hc4
          refine aw_seq_k (fun K4 hK4 => ?_)
          refine aw_region ?_
          refine x_step hf rfl (r_call rfl rfl Try.ent10 rfl (alive_den)) ?_
          refine x_pure rfl (p_assign rfl) ?_
          first | refine aops_end ?_ | refine aops_nil ?_
          refine hK4 _ ?_
          refine aw_ret ?_
          refine ⟨_, rfl, ?_⟩
          first | rfl | (refine ret_bool ?_; simp; omega)
        ·
          try simp only [Bool.not_eq_true', Bool.not_eq_false', Bool.not_true, Bool.not_false, Bool.not_not, decide_eq_true_eq, decide_eq_false_iff_not, beq_iff_eq, beq_eq_false_iff_ne, bne_iff_ne, bne_eq_false_iff_eq, ne_eq, Int.not_lt, Int.not_le, Nat.not_lt, Nat.not_le, gt_iff_lt, ge_iff_le, Bool.and_eq_true, Bool.or_eq_true, Int.ofNat_lt, Int.ofNat_le, Int.natCast_inj, strs_len, ints_len, List.length_cons, List.length_nil] at hc4
          refine aw_skip ?_
          refine hK2 _ ?_
          refine aw_seq_k (fun K5 hK5 => ?_)
          refine aw_region ?_
          have hna : a ≠ [] := by rintro rfl; simp at *
          have hnb : b ≠ [] := by rintro rfl; simp at *
          have h3 := minStep_le (leastB a) (leastB b)
          refine x_pure rfl (p_move rfl) ?_
          refine x_step hf rfl (r_call rfl rfl Try.ent17 rfl (leastAny_den a (by omega) hna)) ?_
          refine x_pure rfl (p_move rfl) ?_
          refine x_pure rfl (p_extract rfl rfl) ?_
          refine x_pure rfl (p_extract rfl rfl) ?_
          refine x_pure rfl (p_assign rfl) ?_
          refine x_pure rfl (p_assign_bad) ?_
          first | refine aops_end ?_ | refine aops_nil ?_
          refine hK5 _ ?_
          refine aw_seq_k (fun K6 hK6 => ?_)
          refine aw_region ?_
          refine x_pure rfl (p_move rfl) ?_
          refine x_step hf rfl (r_call rfl rfl Try.ent17 rfl (leastAny_den b (by omega) hnb)) ?_
          refine x_pure rfl (p_move rfl) ?_
          refine x_pure rfl (p_extract rfl rfl) ?_
          refine x_pure rfl (p_extract rfl rfl) ?_
          refine x_pure rfl (p_assign rfl) ?_
          refine x_pure rfl (p_assign_bad) ?_
          first | refine aops_end ?_ | refine aops_nil ?_
          refine hK6 _ ?_
          refine aw_seq_k (fun K7 hK7 => ?_)
          refine aw_region ?_
          refine y_buildSlice hf rfl rfl rfl Try.ap22 rfl rfl rfl rfl (by simp [AV.cells, AV.leaf, Value.oneCell', splice, AV.kill, AV.clean, AV.only]) ?_
          refine x_pure rfl (p_move rfl) ?_
          refine x_append hf rfl Try.ap22 rfl rfl rfl (by first | exact Or.inl rfl | exact Or.inr rfl) (by first | rfl | assumption | simp) rfl (by first | rfl | simp [asrc, look]) (by simp [maxLen] <;> omega) (by simp <;> omega) ?_
          refine aops_le (le_of (sl' := [(1, _), (5, _), (7, _), (45, _)]) ⟨rfl, rfl, rfl, rfl, trivial⟩) ?_
          refine x_pure rfl (p_move rfl) ?_
          refine x_append hf rfl Try.ap22 rfl rfl rfl (by first | exact Or.inl rfl | exact Or.inr rfl) (by first | rfl | assumption | simp) rfl (by first | rfl | simp [asrc, look]) (by simp [maxLen] <;> omega) (by simp <;> omega) ?_
          refine aops_le (le_of (sl' := [(5, _), (7, _), (47, _)]) ⟨rfl, rfl, rfl, trivial⟩) ?_
          refine x_step hf rfl (r_callB rfl rfl (by show [AV.conv _ _] = [_]; congr 1; exact (conv_whole (g := 43) rfl (by simp)).trans (by rw [strs_append]; rfl)) Try.ent17 (leastApp_den a b hna hnb (by omega) (by omega)) rfl) ?_
          refine x_pure rfl (p_move rfl) ?_
          refine x_pure rfl (p_extract rfl rfl) ?_
          refine x_pure rfl (p_extract rfl rfl) ?_
          refine x_pure rfl (p_assign rfl) ?_
          refine x_pure rfl (p_assign rfl) ?_
          first | refine aops_end ?_ | refine aops_nil ?_
          refine hK7 _ ?_
          refine aw_seq_k (fun K8 hK8 => ?_)
          refine aw_region ?_
          refine x_pure rfl (p_move rfl) ?_
          refine x_pure rfl (p_move rfl) ?_
          refine x_step hf rfl (r_buildSlice Try.ap22 rfl rfl rfl rfl (by simp [AV.cells, AV.leaf, Value.oneCell', splice, AV.kill, AV.clean, AV.only])) ?_
          refine x_step hf rfl (r_call rfl rfl Try.ent17 rfl (leastAny_den [_, _] (by simp) (by simp))) ?_
          refine x_pure rfl (p_move rfl) ?_
          refine x_pure rfl (p_extract rfl rfl) ?_
          refine x_pure rfl (p_extract rfl rfl) ?_
          refine x_pure rfl (p_assign rfl) ?_
          refine x_pure rfl (p_assign_bad) ?_
          first | refine aops_end ?_ | refine aops_nil ?_
          refine hK8 _ ?_
          refine aw_seq_k (fun K9 hK9 => ?_)
          refine aw_region ?_
          refine x_step hf rfl (r_call rfl rfl Try.ent10 rfl (alive_den)) ?_
          refine x_pure rfl (p_move rfl) ?_
          refine x_guard_t rfl rfl rfl ?_
          refine x_pure rfl (p_move rfl) ?_
          refine x_pure rfl (p_pick_t rfl rfl) ?_
          refine x_pure rfl (p_move rfl) ?_
          refine x_guard_t rfl rfl rfl ?_
          refine x_pure rfl (p_move rfl) ?_
          refine x_guard_t rfl rfl rfl ?_
          refine x_pure rfl (p_move rfl) ?_
          refine x_guard_t rfl rfl rfl ?_
          refine x_pure rfl (p_bin rfl rfl (streq_t _)) ?_
          refine x_pure rfl (p_pick_t rfl rfl) ?_
          refine x_pure rfl (p_move rfl) ?_
          refine x_guard_t rfl rfl rfl ?_
          refine x_pure rfl (p_move rfl) ?_
          refine x_guard_t rfl rfl rfl ?_
          refine x_pure rfl (p_move rfl) ?_
          refine x_guard_t rfl rfl rfl ?_
          refine x_step hf rfl (r_call rfl rfl Try.ent13 rfl (cmp_den _ _)) ?_
          refine x_guard_t rfl rfl rfl ?_
          refine x_pure rfl (p_bin rfl rfl rfl) ?_
          refine x_pure rfl (p_pick_t rfl rfl) ?_
          refine x_pure rfl (p_move rfl) ?_
          refine y_guard_s rfl rfl rfl (fun hg5 => ?_) (fun hg5 => ?_)
          ·
            try simp only [Bool.not_eq_true', Bool.not_eq_false', Bool.not_true, Bool.not_false, Bool.not_not, decide_eq_true_eq, decide_eq_false_iff_not, beq_iff_eq, beq_eq_false_iff_ne, bne_iff_ne, bne_eq_false_iff_eq, ne_eq, Int.not_lt, Int.not_le, Nat.not_lt, Nat.not_le, gt_iff_lt, ge_iff_le, Bool.and_eq_true, Bool.or_eq_true, Int.ofNat_lt, Int.ofNat_le, Int.natCast_inj, strs_len, ints_len, List.length_cons, List.length_nil] at hg5
            refine x_pure rfl (p_move rfl) ?_
            refine x_guard_t rfl rfl rfl ?_
            refine x_pure rfl (p_move rfl) ?_
            refine x_guard_t rfl rfl rfl ?_
            refine x_step hf rfl (r_call rfl rfl Try.ent13 rfl (cmp_den _ _)) ?_
            refine x_guard_t rfl rfl rfl ?_
            refine x_pure rfl (p_bin rfl rfl rfl) ?_
            refine x_pure rfl (p_pick_t rfl rfl) ?_
            refine x_pure rfl (p_assign rfl) ?_
            first | refine aops_end ?_ | refine aops_nil ?_
            refine hK9 _ ?_
            refine aw_ret ?_
            refine ⟨_, rfl, ?_⟩
            first | rfl | (refine ret_bool ?_; simp; omega)
          ·
            try simp only [Bool.not_eq_true', Bool.not_eq_false', Bool.not_true, Bool.not_false, Bool.not_not, decide_eq_true_eq, decide_eq_false_iff_not, beq_iff_eq, beq_eq_false_iff_ne, bne_iff_ne, bne_eq_false_iff_eq, ne_eq, Int.not_lt, Int.not_le, Nat.not_lt, Nat.not_le, gt_iff_lt, ge_iff_le, Bool.and_eq_true, Bool.or_eq_true, Int.ofNat_lt, Int.ofNat_le, Int.natCast_inj, strs_len, ints_len, List.length_cons, List.length_nil] at hg5
            exfalso
            omega
      ·
        try simp only [Bool.not_eq_true', Bool.not_eq_false', Bool.not_true, Bool.not_false, Bool.not_not, decide_eq_true_eq, decide_eq_false_iff_not, beq_iff_eq, beq_eq_false_iff_ne, bne_iff_ne, bne_eq_false_iff_eq, ne_eq, Int.not_lt, Int.not_le, Nat.not_lt, Nat.not_le, gt_iff_lt, ge_iff_le, Bool.and_eq_true, Bool.or_eq_true, Int.ofNat_lt, Int.ofNat_le, Int.natCast_inj, strs_len, ints_len, List.length_cons, List.length_nil] at hg3
        refine x_guard_f rfl rfl rfl ?_
        refine x_guard_f rfl rfl rfl ?_
        refine x_pure rfl (p_pick_t rfl rfl) ?_
        first | refine aops_end ?_ | refine aops_nil ?_
        refine hK3 _ ?_
        refine aw_cond_t rfl ?_
        refine aw_seq_k (fun K10 hK10 => ?_)
        refine aw_region ?_
        refine x_step hf rfl (r_call rfl rfl Try.ent10 rfl (alive_den)) ?_
        refine x_pure rfl (p_assign rfl) ?_
        first | refine aops_end ?_ | refine aops_nil ?_
        refine hK10 _ ?_
        refine aw_ret ?_
        refine ⟨_, rfl, ?_⟩
        first | rfl | (refine ret_bool ?_; simp; omega)
    ·
      try simp only [Bool.not_eq_true', Bool.not_eq_false', Bool.not_true, Bool.not_false, Bool.not_not, decide_eq_true_eq, decide_eq_false_iff_not, beq_iff_eq, beq_eq_false_iff_ne, bne_iff_ne, bne_eq_false_iff_eq, ne_eq, Int.not_lt, Int.not_le, Nat.not_lt, Nat.not_le, gt_iff_lt, ge_iff_le, Bool.and_eq_true, Bool.or_eq_true, Int.ofNat_lt, Int.ofNat_le, Int.natCast_inj, strs_len, ints_len, List.length_cons, List.length_nil] at hg2
      refine x_guard_f rfl rfl rfl ?_
      refine x_guard_f rfl rfl rfl ?_
      refine x_pure rfl (p_pick_t rfl rfl) ?_
      refine x_pure rfl (p_move rfl) ?_
      refine x_guard_f rfl rfl rfl ?_
      refine x_guard_f rfl rfl rfl ?_
      refine x_guard_f rfl rfl rfl ?_
      refine x_pure rfl (p_pick_t rfl rfl) ?_
      first | refine aops_end ?_ | refine aops_nil ?_
      refine hK3 _ ?_
      refine aw_cond_t rfl ?_
      refine aw_seq_k (fun K11 hK11 => ?_)
      refine aw_region ?_
      refine x_step hf rfl (r_call rfl rfl Try.ent10 rfl (alive_den)) ?_
      refine x_pure rfl (p_assign rfl) ?_
      first | refine aops_end ?_ | refine aops_nil ?_
      refine hK11 _ ?_
      refine aw_ret ?_
      refine ⟨_, rfl, ?_⟩
      first | rfl | (refine ret_bool ?_; simp; omega)
  ·
    try simp only [Bool.not_eq_true', Bool.not_eq_false', Bool.not_true, Bool.not_false, Bool.not_not, decide_eq_true_eq, decide_eq_false_iff_not, beq_iff_eq, beq_eq_false_iff_ne, bne_iff_ne, bne_eq_false_iff_eq, ne_eq, Int.not_lt, Int.not_le, Nat.not_lt, Nat.not_le, gt_iff_lt, ge_iff_le, Bool.and_eq_true, Bool.or_eq_true, Int.ofNat_lt, Int.ofNat_le, Int.natCast_inj, strs_len, ints_len, List.length_cons, List.length_nil] at hg1
    refine x_guard_f rfl rfl rfl ?_
    refine x_guard_f rfl rfl rfl ?_
    refine x_pure rfl (p_pick_t rfl rfl) ?_
    refine x_pure rfl (p_move rfl) ?_
    refine x_guard_f rfl rfl rfl ?_
    refine x_guard_f rfl rfl rfl ?_
    refine x_guard_f rfl rfl rfl ?_
    refine x_pure rfl (p_pick_t rfl rfl) ?_
    refine x_pure rfl (p_move rfl) ?_
    refine x_guard_f rfl rfl rfl ?_
    refine x_guard_f rfl rfl rfl ?_
    refine x_guard_f rfl rfl rfl ?_
    refine x_pure rfl (p_pick_t rfl rfl) ?_
    first | refine aops_end ?_ | refine aops_nil ?_
    refine hK3 _ ?_
    refine aw_cond_t rfl ?_
    refine aw_seq_k (fun K12 hK12 => ?_)
    refine aw_region ?_
    refine x_step hf rfl (r_call rfl rfl Try.ent10 rfl (alive_den)) ?_
    refine x_pure rfl (p_assign rfl) ?_
    first | refine aops_end ?_ | refine aops_nil ?_
    refine hK12 _ ?_
    refine aw_ret ?_
    refine ⟨_, rfl, ?_⟩
    first | rfl | (refine ret_bool ?_; simp; omega)
end Go.Proofs.Ytpicjibfbghonaa
