import Derived.Test.YtpicjibfbghonaaW9
import Derived.Test.YtpicjibfbghonaaP4
import Derived.Test.YtpicjibfbghonaaA30
set_option linter.unusedVariables false
set_option linter.unusedSimpArgs false
namespace Go.Proofs.Ytpicjibfbghonaa
open Go Go.Abs

set_option maxHeartbeats 2000000 in
theorem nameTwice_den (l : List ByteArray) (s : ByteArray) (hl : TL l) (hs : TS s)  : Den Try.prog 7 [.sl 1 (strs l), .s (.string s)]  (· = .s (.bool true)) := by
  have hll := strs_len l
  have hl1 := hl.1
  have hsl := sortedL_len l
  have hss := strs_len (sortedL l)
  have hz1 := putL_len (sortedL l) s
  have hz2 := putRest_ge s (sortedL l) false
  have hzs := strs_len (putL (sortedL l) s)
  have hcn := rising_cnt s (putL (sortedL l) s) (putL_rising s _ (sorted_is l).1).1 (((putL_rising s _ (sorted_is l).1).2 s).2 (Or.inl rfl))
  change (sortedL l).length ≤ (putL (sortedL l) s).length at hz2
  refine den_of_aw Try.func7 rfl (Nat.le_of_ble_eq_true rfl) (fun w0 A hf => ?_)
  refine aw_seq_k (fun K1 hK1 => ?_)
  refine aw_region ?_
  refine x_pure rfl (p_assign_bad) ?_
  first | refine aops_end ?_ | refine aops_nil ?_
  refine hK1 _ ?_
  refine aw_seq_k (fun K2 hK2 => ?_)
  refine aw_seq_k (fun K3 hK3 => ?_)
  refine aw_region ?_
  refine x_pure rfl (p_move rfl) ?_
  first | refine x_pure rfl (p_len_sl rfl Try.e22) ?_ | refine x_pure rfl (p_len_own rfl Try.e22) ?_
  refine x_pure rfl (p_bin rfl rfl rfl) ?_
  first | refine aops_end ?_ | refine aops_nil ?_
  refine hK3 _ ?_
  refine aw_cond_s rfl (fun hc1 => ?_) (fun hc1 => ?_)
  ·
    try simp only [Bool.not_eq_true', Bool.not_eq_false', Bool.not_true, Bool.not_false, Bool.not_not, decide_eq_true_eq, decide_eq_false_iff_not, beq_iff_eq, beq_eq_false_iff_ne, bne_iff_ne, bne_eq_false_iff_eq, ne_eq, Int.not_lt, Int.not_le, Nat.not_lt, Nat.not_le, gt_iff_lt, ge_iff_le, Bool.and_eq_true, Bool.or_eq_true, Int.ofNat_lt, Int.ofNat_le, Int.natCast_inj, strs_len, ints_len, List.length_cons, List.length_nil] at hc1
    refine aw_seq_k (fun K4 hK4 => ?_)
    refine aw_region ?_
    refine x_step hf rfl (r_call rfl rfl Try.ent10 rfl (alive_den)) ?_
    refine x_pure rfl (p_assign rfl) ?_
    first | refine aops_end ?_ | refine aops_nil ?_
    refine hK4 _ ?_
    refine aw_ret ?_
    refine ⟨_, rfl, ?_⟩
    first | rfl | (refine ret_bool ?_; simp; omega)
  ·
    try simp only [Bool.not_eq_true', Bool.not_eq_false', Bool.not_true, Bool.not_false, Bool.not_not, decide_eq_true_eq, decide_eq_false_iff_not, beq_iff_eq, beq_eq_false_iff_ne, bne_iff_ne, bne_eq_false_iff_eq, ne_eq, Int.not_lt, Int.not_le, Nat.not_lt, Nat.not_le, gt_iff_lt, ge_iff_le, Bool.and_eq_true, Bool.or_eq_true, Int.ofNat_lt, Int.ofNat_le, Int.natCast_inj, strs_len, ints_len, List.length_cons, List.length_nil] at hc1
    refine aw_skip ?_
    refine hK2 _ ?_
    refine aw_seq_k (fun K5 hK5 => ?_)
    refine aw_region ?_
    refine x_pure rfl (p_move rfl) ?_
    refine x_step hf rfl (r_call rfl rfl Try.ent15 rfl (sorted_den l (by omega))) ?_
    refine x_pure rfl (p_assign rfl) ?_
    first | refine aops_end ?_ | refine aops_nil ?_
    refine hK5 _ ?_
    refine aw_seq_k (fun K6 hK6 => ?_)
    refine aw_region ?_
    refine y_buildSlice hf rfl rfl rfl Try.ap22 rfl rfl rfl rfl (by simp [AV.cells, AV.leaf, Value.oneCell', splice, AV.kill, AV.clean, AV.only]) ?_
    refine x_pure rfl (p_move rfl) ?_
    refine x_append hf rfl Try.ap22 rfl rfl rfl (by first | exact Or.inl rfl | exact Or.inr rfl) (by first | rfl | assumption | simp) rfl (by first | rfl | simp [asrc, look]) (by simp [maxLen] <;> omega) (by simp <;> omega) ?_
    refine aops_le (le_of (sl' := [(0, _), (1, _), (5, _), (20, _)]) ⟨rfl, rfl, rfl, rfl, trivial⟩) ?_
    refine x_pure rfl (p_move rfl) ?_
    refine x_append hf rfl Try.ap22 rfl rfl rfl (by first | exact Or.inl rfl | exact Or.inr rfl) (by first | rfl | assumption | simp) rfl (by first | rfl | simp [asrc, look]) (by simp [maxLen] <;> omega) (by simp <;> omega) ?_
    refine aops_le (le_of (sl' := [(1, _), (5, _), (22, _)]) ⟨rfl, rfl, rfl, trivial⟩) ?_
    refine aops_le (le_freeze (sl' := [(1, _), (5, _), (22, .sl 1 (strs (sortedL l ++ l)))]) ⟨⟨_, rfl, rfl⟩, ⟨_, rfl, rfl⟩, ⟨_, rfl, (only_whole (g := 18) rfl (by simp)).trans (by rw [strs_append]; rfl)⟩, trivial⟩) ?_
    refine x_step hf rfl (r_call rfl rfl Try.ent15 rfl ((sorted_den (sortedL l ++ l) (by rw [List.length_append]; omega)).mono (fun r h => h.trans (by rw [sorted_again])))) ?_
    refine x_pure rfl (p_assign rfl) ?_
    first | refine aops_end ?_ | refine aops_nil ?_
    refine hK6 _ ?_
    refine aw_seq_k (fun K7 hK7 => ?_)
    refine aw_region ?_
    refine y_buildSlice hf rfl rfl rfl Try.ap22 rfl rfl rfl rfl (by simp [AV.cells, AV.leaf, Value.oneCell', splice, AV.kill, AV.clean, AV.only]) ?_
    refine x_pure rfl (p_move rfl) ?_
    refine x_append hf rfl Try.ap22 rfl rfl rfl (by first | exact Or.inl rfl | exact Or.inr rfl) (by first | rfl | assumption | simp) rfl (by first | rfl | simp [asrc, look]) (by simp [maxLen] <;> omega) (by simp <;> omega) ?_
    refine aops_le (le_of (sl' := [(1, _), (5, _), (6, _), (26, _)]) ⟨rfl, rfl, rfl, rfl, trivial⟩) ?_
    refine x_pure rfl (p_move rfl) ?_
    refine x_step hf rfl (r_buildSlice Try.ap22 rfl rfl rfl rfl (by simp [AV.cells, AV.leaf, Value.oneCell', splice, AV.kill, AV.clean, AV.only])) ?_
    refine x_append hf rfl Try.ap22 rfl rfl rfl (by first | exact Or.inl rfl | exact Or.inr rfl) (by first | rfl | assumption | simp) rfl (by first | rfl | simp [asrc, look]) (by simp [maxLen] <;> omega) (by simp <;> omega) ?_
    refine aops_le (le_of (sl' := [(1, _), (5, _), (6, _), (29, _)]) ⟨rfl, rfl, rfl, rfl, trivial⟩) ?_
    refine aops_le (le_freeze (sl' := [(1, _), (5, _), (6, _), (29, .sl 1 (strs (sortedL l ++ [s])))]) ⟨⟨_, rfl, rfl⟩, ⟨_, rfl, rfl⟩, ⟨_, rfl, rfl⟩, ⟨_, rfl, (only_whole (g := 24) rfl (by simp)).trans (by rw [strs_append]; rfl)⟩, trivial⟩) ?_
    refine x_step hf rfl (r_call rfl rfl Try.ent15 rfl ((sorted_den (sortedL l ++ [s]) (by rw [List.length_append]; simp only [List.length_cons, List.length_nil]; omega)).mono (fun r h => h.trans (by rw [sorted_more])))) ?_
    refine x_pure rfl (p_assign rfl) ?_
    first | refine aops_end ?_ | refine aops_nil ?_
    refine hK7 _ ?_
    refine aw_seq_k (fun K8 hK8 => ?_)
    refine aw_seq_k (fun K9 hK9 => ?_)
    refine aw_region ?_
    refine x_pure rfl (p_move rfl) ?_
    first | refine x_pure rfl (p_len_sl rfl Try.e22) ?_ | refine x_pure rfl (p_len_own rfl Try.e22) ?_
    refine x_pure rfl (p_move rfl) ?_
    first | refine x_pure rfl (p_len_sl rfl Try.e22) ?_ | refine x_pure rfl (p_len_own rfl Try.e22) ?_
    refine x_pure rfl (p_bin rfl rfl rfl) ?_
    first | refine aops_end ?_ | refine aops_nil ?_
    refine hK9 _ ?_
    refine aw_cond_s rfl (fun hc2 => ?_) (fun hc2 => ?_)
    ·
      try simp only [Bool.not_eq_true', Bool.not_eq_false', Bool.not_true, Bool.not_false, Bool.not_not, decide_eq_true_eq, decide_eq_false_iff_not, beq_iff_eq, beq_eq_false_iff_ne, bne_iff_ne, bne_eq_false_iff_eq, ne_eq, Int.not_lt, Int.not_le, Nat.not_lt, Nat.not_le, gt_iff_lt, ge_iff_le, Bool.and_eq_true, Bool.or_eq_true, Int.ofNat_lt, Int.ofNat_le, Int.natCast_inj, strs_len, ints_len, List.length_cons, List.length_nil] at hc2
      exact (hc2 trivial).elim
    ·
      try simp only [Bool.not_eq_true', Bool.not_eq_false', Bool.not_true, Bool.not_false, Bool.not_not, decide_eq_true_eq, decide_eq_false_iff_not, beq_iff_eq, beq_eq_false_iff_ne, bne_iff_ne, bne_eq_false_iff_eq, ne_eq, Int.not_lt, Int.not_le, Nat.not_lt, Nat.not_le, gt_iff_lt, ge_iff_le, Bool.and_eq_true, Bool.or_eq_true, Int.ofNat_lt, Int.ofNat_le, Int.natCast_inj, strs_len, ints_len, List.length_cons, List.length_nil] at hc2
      refine aw_skip ?_
      refine hK8 _ ?_
      refine aw_seq_k (fun K10 hK10 => ?_)
      refine aw_region ?_
      refine x_pure rfl (p_assign rfl) ?_
      first | refine aops_end ?_ | refine aops_nil ?_
      refine hK10 _ ?_
      refine aw_seq_k (fun K11 hK11 => ?_)
      refine aw_seq_k (fun K12 hK12 => ?_)
      refine aw_region ?_
      refine x_pure rfl (p_move rfl) ?_
      first | refine x_pure rfl (p_len_sl rfl Try.e22) ?_ | refine x_pure rfl (p_len_own rfl Try.e22) ?_
      refine x_pure rfl (p_move rfl) ?_
      first | refine aops_end ?_ | refine aops_nil ?_
      refine hK12 _ ?_
      refine aw_block ?_
      refine aw_loop (ι := Nat × Int) (fun q => ⟨83, [(1, .s (.string s)), (5, .sl 1 (strs (sortedL l))), (6, .sl 1 (strs (sortedL l))), (7, .sl 1 (strs (putL (sortedL l) s))), (8, .s (.int .i64 q.2)), (36, .sl 1 (strs (putL (sortedL l) s))), (37, .s (.int .i64 ((strs (putL (sortedL l) s)).length : Nat))), (38, .s (.int .i64 (q.1 : Nat)))], []⟩) (fun q => q.1 ≤ (putL (sortedL l) s).length ∧ q.2 = ((cntB s ((putL (sortedL l) s).take q.1) : Nat) : Int)) (fun q => (putL (sortedL l) s).length - q.1) (0, 0) ?_ ?_ ?_
      · exact ⟨Nat.zero_le _, by simp [cntB]⟩
      · exact le_of ⟨rfl, rfl, rfl, rfl, rfl, rfl, rfl, rfl, trivial⟩
      ·
        rintro ⟨k, n⟩ hC
        obtain ⟨h1, h2⟩ := hC
        simp only at h1 h2
        have hle := cnt_le s ((putL (sortedL l) s).take k)
        have htl : ((putL (sortedL l) s).take k).length ≤ k := by simp; omega
        refine aw_seq_k (fun K13 hK13 => ?_)
        refine aw_region ?_
        refine x_pure rfl (p_bin rfl rfl rfl) ?_
        first | refine aops_end ?_ | refine aops_nil ?_
        refine hK13 _ ?_
        refine aw_seq_k (fun K14 hK14 => ?_)
        refine aw_cond_s rfl (fun hc3 => ?_) (fun hc3 => ?_)
        ·
          try simp only [Bool.not_eq_true', Bool.not_eq_false', Bool.not_true, Bool.not_false, Bool.not_not, decide_eq_true_eq, decide_eq_false_iff_not, beq_iff_eq, beq_eq_false_iff_ne, bne_iff_ne, bne_eq_false_iff_eq, ne_eq, Int.not_lt, Int.not_le, Nat.not_lt, Nat.not_le, gt_iff_lt, ge_iff_le, Bool.and_eq_true, Bool.or_eq_true, Int.ofNat_lt, Int.ofNat_le, Int.natCast_inj, strs_len, ints_len, List.length_cons, List.length_nil] at hc3
          refine aw_skip ?_
          refine hK14 _ ?_
          refine aw_seq_k (fun K15 hK15 => ?_)
          refine aw_block ?_
          refine aw_seq_k (fun K16 hK16 => ?_)
          refine aw_region ?_
          first | refine x_pure rfl (p_idx_sl rfl rfl Try.e22 Try.c9 (by first | assumption | (refine ⟨by omega, ?_⟩; first | assumption | exact strs_at (by omega) | exact strs_at (by simp only [List.length_cons] at *; omega) | exact ints_at (by omega) | exact list_at (by omega)))) ?_ | refine x_pure rfl (p_idx_own rfl rfl Try.e22 Try.c9 (by omega)) ?_
          first | refine x_pure rfl (p_load1 rfl Try.g9 rfl) ?_ | refine x_pure rfl (p_load1r rfl Try.g9 rfl rfl) ?_ | refine x_pure rfl (p_load1r rfl Try.g9 rfl (strs_ref (by simp only [List.length_cons] at *; omega))) ?_ | refine x_pure rfl (p_load1r rfl Try.g9 rfl (strs_ref (by omega))) ?_
          refine x_pure rfl (p_assign rfl) ?_
          first | refine aops_end ?_ | refine aops_nil ?_
          refine hK16 _ ?_
          refine aw_seq_k (fun K17 hK17 => ?_)
          refine aw_region ?_
          refine x_pure rfl (p_move rfl) ?_
          refine x_pure rfl (p_move rfl) ?_
          refine x_pure rfl (p_bin rfl rfl rfl) ?_
          first | refine aops_end ?_ | refine aops_nil ?_
          refine hK17 _ ?_
          refine aw_cond_s rfl (fun hc4 => ?_) (fun hc4 => ?_)
          ·
            try simp only [Bool.not_eq_true', Bool.not_eq_false', Bool.not_true, Bool.not_false, Bool.not_not, decide_eq_true_eq, decide_eq_false_iff_not, beq_iff_eq, beq_eq_false_iff_ne, bne_iff_ne, bne_eq_false_iff_eq, ne_eq, Int.not_lt, Int.not_le, Nat.not_lt, Nat.not_le, gt_iff_lt, ge_iff_le, Bool.and_eq_true, Bool.or_eq_true, Int.ofNat_lt, Int.ofNat_le, Int.natCast_inj, strs_len, ints_len, List.length_cons, List.length_nil] at hc4
            refine aw_region ?_
            refine x_pure rfl (p_move rfl) ?_
            first | refine x_pure rfl (p_add rfl rfl (by omega) (by omega)) ?_ | refine x_pure rfl (p_bin rfl rfl rfl) ?_
            refine x_pure rfl (p_assign rfl) ?_
            first | refine aops_end ?_ | refine aops_nil ?_
            refine hK15 _ ?_
            refine aw_region ?_
            first | refine x_pure rfl (p_add rfl rfl (by omega) (by omega)) ?_ | refine x_pure rfl (p_bin rfl rfl rfl) ?_
            refine x_pure rfl (p_move rfl) ?_
            first | refine aops_end ?_ | refine aops_nil ?_
            exact ⟨(k+1, _), (by
              have hk : k < (putL (sortedL l) s).length := by omega
              refine ⟨hk, ?_⟩
              simp only
              rw [cnt_take s _ k hk, h2]
              simp only [toList_inj] at *
              split <;> simp_all), by simp only; omega, le_of ⟨rfl, rfl, rfl, rfl, rfl, rfl, rfl, rfl, trivial⟩⟩
          ·
            try simp only [Bool.not_eq_true', Bool.not_eq_false', Bool.not_true, Bool.not_false, Bool.not_not, decide_eq_true_eq, decide_eq_false_iff_not, beq_iff_eq, beq_eq_false_iff_ne, bne_iff_ne, bne_eq_false_iff_eq, ne_eq, Int.not_lt, Int.not_le, Nat.not_lt, Nat.not_le, gt_iff_lt, ge_iff_le, Bool.and_eq_true, Bool.or_eq_true, Int.ofNat_lt, Int.ofNat_le, Int.natCast_inj, strs_len, ints_len, List.length_cons, List.length_nil] at hc4
            refine aw_skip ?_
            refine hK15 _ ?_
            refine aw_region ?_
            first | refine x_pure rfl (p_add rfl rfl (by omega) (by omega)) ?_ | refine x_pure rfl (p_bin rfl rfl rfl) ?_
            refine x_pure rfl (p_move rfl) ?_
            first | refine aops_end ?_ | refine aops_nil ?_
            exact ⟨(k+1, _), (by
              have hk : k < (putL (sortedL l) s).length := by omega
              refine ⟨hk, ?_⟩
              simp only
              rw [cnt_take s _ k hk, h2]
              simp only [toList_inj] at *
              split <;> simp_all), by simp only; omega, le_of ⟨rfl, rfl, rfl, rfl, rfl, rfl, rfl, rfl, trivial⟩⟩
        ·
          try simp only [Bool.not_eq_true', Bool.not_eq_false', Bool.not_true, Bool.not_false, Bool.not_not, decide_eq_true_eq, decide_eq_false_iff_not, beq_iff_eq, beq_eq_false_iff_ne, bne_iff_ne, bne_eq_false_iff_eq, ne_eq, Int.not_lt, Int.not_le, Nat.not_lt, Nat.not_le, gt_iff_lt, ge_iff_le, Bool.and_eq_true, Bool.or_eq_true, Int.ofNat_lt, Int.ofNat_le, Int.natCast_inj, strs_len, ints_len, List.length_cons, List.length_nil] at hc3
          refine aw_exit ?_
          refine hK11 _ ?_
          refine aw_seq_k (fun K18 hK18 => ?_)
          refine aw_seq_k (fun K19 hK19 => ?_)
          refine aw_region ?_
          refine x_pure rfl (p_move rfl) ?_
          first | refine x_pure rfl (p_len_sl rfl Try.e22) ?_ | refine x_pure rfl (p_len_own rfl Try.e22) ?_
          refine x_pure rfl (p_move rfl) ?_
          first | refine aops_end ?_ | refine aops_nil ?_
          refine hK19 _ ?_
          refine aw_block ?_
          refine aw_loop (ι := Nat) (fun j => ⟨83, [(5, .sl 1 (strs (sortedL l))), (6, .sl 1 (strs (sortedL l))), (7, .sl 1 (strs (putL (sortedL l) s))), (8, .s (.int .i64 1)), (49, .s (.int .i64 ((strs (sortedL l)).length : Nat))), (50, .s (.int .i64 (j : Nat)))], []⟩) (fun j => j ≤ (sortedL l).length) (fun j => (sortedL l).length - j) 0 ?_ ?_ ?_
          · exact Nat.zero_le _
          · rw [show n = 1 from by rw [h2, List.take_of_length_le (by omega), hcn]; rfl]; exact le_of ⟨rfl, rfl, rfl, rfl, rfl, rfl, trivial⟩
          ·
            rintro j hC
            refine aw_seq_k (fun K20 hK20 => ?_)
            refine aw_region ?_
            refine x_pure rfl (p_bin rfl rfl rfl) ?_
            first | refine aops_end ?_ | refine aops_nil ?_
            refine hK20 _ ?_
            refine aw_seq_k (fun K21 hK21 => ?_)
            refine aw_cond_s rfl (fun hc5 => ?_) (fun hc5 => ?_)
            ·
              try simp only [Bool.not_eq_true', Bool.not_eq_false', Bool.not_true, Bool.not_false, Bool.not_not, decide_eq_true_eq, decide_eq_false_iff_not, beq_iff_eq, beq_eq_false_iff_ne, bne_iff_ne, bne_eq_false_iff_eq, ne_eq, Int.not_lt, Int.not_le, Nat.not_lt, Nat.not_le, gt_iff_lt, ge_iff_le, Bool.and_eq_true, Bool.or_eq_true, Int.ofNat_lt, Int.ofNat_le, Int.natCast_inj, strs_len, ints_len, List.length_cons, List.length_nil] at hc5
              refine aw_skip ?_
              refine hK21 _ ?_
              refine aw_seq_k (fun K22 hK22 => ?_)
              refine aw_block ?_
              refine aw_seq_k (fun K23 hK23 => ?_)
              refine aw_region ?_
              refine x_pure rfl (p_move rfl) ?_
              refine x_pure rfl (p_assign rfl) ?_
              first | refine aops_end ?_ | refine aops_nil ?_
              refine hK23 _ ?_
              refine aw_seq_k (fun K24 hK24 => ?_)
              refine aw_draw hf Try.mixed (by kernel_rfl) rfl ?_
              refine d_pure [(5, _)] rfl rfl ⟨⟨rfl, rfl⟩, trivial⟩ rfl (p_move rfl) ?_
              refine d_pure [(11, _)] rfl rfl ⟨⟨rfl, rfl⟩, trivial⟩ rfl (p_move rfl) ?_
              first | refine d_pure [(53, _), (54, _)] rfl rfl ⟨⟨rfl, rfl⟩, ⟨rfl, rfl⟩, trivial⟩ rfl (p_idx_sl rfl rfl Try.e22 Try.c9 (by first | assumption | (refine ⟨by omega, ?_⟩; first | assumption | exact strs_at (by omega) | exact strs_at (by simp only [List.length_cons] at *; omega) | exact ints_at (by omega) | exact list_at (by omega)))) ?_ | refine d_pure [(53, _), (54, _)] rfl rfl ⟨⟨rfl, rfl⟩, ⟨rfl, rfl⟩, trivial⟩ rfl (p_idx_own rfl rfl Try.e22 Try.c9 (by omega)) ?_
              first | refine d_pure [(55, _)] rfl rfl ⟨⟨rfl, rfl⟩, trivial⟩ rfl (p_load1 rfl Try.g9 rfl) ?_ | refine d_pure [(55, _)] rfl rfl ⟨⟨rfl, rfl⟩, trivial⟩ rfl (p_load1r rfl Try.g9 rfl rfl) ?_ | refine d_pure [(55, _)] rfl rfl ⟨⟨rfl, rfl⟩, trivial⟩ rfl (p_load1r rfl Try.g9 rfl (strs_ref (by simp only [List.length_cons] at *; omega))) ?_ | refine d_pure [(55, _)] rfl rfl ⟨⟨rfl, rfl⟩, trivial⟩ rfl (p_load1r rfl Try.g9 rfl (strs_ref (by omega))) ?_
              refine d_pure [(6, _)] rfl rfl ⟨⟨rfl, rfl⟩, trivial⟩ rfl (p_move rfl) ?_
              refine d_pure [(11, _)] rfl rfl ⟨⟨rfl, rfl⟩, trivial⟩ rfl (p_move rfl) ?_
              first | refine d_pure [(57, _), (58, _)] rfl rfl ⟨⟨rfl, rfl⟩, ⟨rfl, rfl⟩, trivial⟩ rfl (p_idx_sl rfl rfl Try.e22 Try.c9 (by first | assumption | (refine ⟨by omega, ?_⟩; first | assumption | exact strs_at (by omega) | exact strs_at (by simp only [List.length_cons] at *; omega) | exact ints_at (by omega) | exact list_at (by omega)))) ?_ | refine d_pure [(57, _), (58, _)] rfl rfl ⟨⟨rfl, rfl⟩, ⟨rfl, rfl⟩, trivial⟩ rfl (p_idx_own rfl rfl Try.e22 Try.c9 (by omega)) ?_
              first | refine d_pure [(59, _)] rfl rfl ⟨⟨rfl, rfl⟩, trivial⟩ rfl (p_load1 rfl Try.g9 rfl) ?_ | refine d_pure [(59, _)] rfl rfl ⟨⟨rfl, rfl⟩, trivial⟩ rfl (p_load1r rfl Try.g9 rfl rfl) ?_ | refine d_pure [(59, _)] rfl rfl ⟨⟨rfl, rfl⟩, trivial⟩ rfl (p_load1r rfl Try.g9 rfl (strs_ref (by simp only [List.length_cons] at *; omega))) ?_ | refine d_pure [(59, _)] rfl rfl ⟨⟨rfl, rfl⟩, trivial⟩ rfl (p_load1r rfl Try.g9 rfl (strs_ref (by omega))) ?_
              refine d_pure [(56, _), (60, _)] rfl rfl ⟨⟨rfl, rfl⟩, ⟨rfl, rfl⟩, trivial⟩ rfl (p_bin rfl rfl rfl) ?_
              refine lex_end (sl' := [(5, _), (6, _), (7, _), (8, _), (49, _), (50, _), (61, _)]) rfl ⟨rfl, rfl, rfl, rfl, rfl, rfl, rfl, trivial⟩ rfl ?_
              refine hK24 _ ?_
              refine aw_cond_s rfl (fun hc6 => ?_) (fun hc6 => ?_)
              ·
                try simp only [Bool.not_eq_true', Bool.not_eq_false', Bool.not_true, Bool.not_false, Bool.not_not, decide_eq_true_eq, decide_eq_false_iff_not, beq_iff_eq, beq_eq_false_iff_ne, bne_iff_ne, bne_eq_false_iff_eq, ne_eq, Int.not_lt, Int.not_le, Nat.not_lt, Nat.not_le, gt_iff_lt, ge_iff_le, Bool.and_eq_true, Bool.or_eq_true, Int.ofNat_lt, Int.ofNat_le, Int.natCast_inj, strs_len, ints_len, List.length_cons, List.length_nil] at hc6
                simp_all
              ·
                try simp only [Bool.not_eq_true', Bool.not_eq_false', Bool.not_true, Bool.not_false, Bool.not_not, decide_eq_true_eq, decide_eq_false_iff_not, beq_iff_eq, beq_eq_false_iff_ne, bne_iff_ne, bne_eq_false_iff_eq, ne_eq, Int.not_lt, Int.not_le, Nat.not_lt, Nat.not_le, gt_iff_lt, ge_iff_le, Bool.and_eq_true, Bool.or_eq_true, Int.ofNat_lt, Int.ofNat_le, Int.natCast_inj, strs_len, ints_len, List.length_cons, List.length_nil] at hc6
                refine aw_skip ?_
                refine hK22 _ ?_
                refine aw_region ?_
                first | refine x_pure rfl (p_add rfl rfl (by omega) (by omega)) ?_ | refine x_pure rfl (p_bin rfl rfl rfl) ?_
                refine x_pure rfl (p_move rfl) ?_
                first | refine aops_end ?_ | refine aops_nil ?_
                exact ⟨j+1, (by omega), by omega, le_of ⟨rfl, rfl, rfl, rfl, rfl, rfl, trivial⟩⟩
            ·
              try simp only [Bool.not_eq_true', Bool.not_eq_false', Bool.not_true, Bool.not_false, Bool.not_not, decide_eq_true_eq, decide_eq_false_iff_not, beq_iff_eq, beq_eq_false_iff_ne, bne_iff_ne, bne_eq_false_iff_eq, ne_eq, Int.not_lt, Int.not_le, Nat.not_lt, Nat.not_le, gt_iff_lt, ge_iff_le, Bool.and_eq_true, Bool.or_eq_true, Int.ofNat_lt, Int.ofNat_le, Int.natCast_inj, strs_len, ints_len, List.length_cons, List.length_nil] at hc5
              refine aw_exit ?_
              refine hK18 _ ?_
              refine aw_seq_k (fun K25 hK25 => ?_)
              refine aw_region ?_
              refine x_step hf rfl (r_call rfl rfl Try.ent10 rfl (alive_den)) ?_
              refine x_pure rfl (p_move rfl) ?_
              refine x_guard_t rfl rfl rfl ?_
              refine x_pure rfl (p_move rfl) ?_
              refine x_guard_t rfl rfl rfl ?_
              refine x_pure rfl (p_bin rfl rfl rfl) ?_
              refine x_pure rfl (p_pick_t rfl rfl) ?_
              refine x_pure rfl (p_move rfl) ?_
              refine x_guard_t rfl rfl rfl ?_
              refine x_pure rfl (p_move rfl) ?_
              refine x_guard_t rfl rfl rfl ?_
              first | refine x_pure rfl (p_len_sl rfl Try.e22) ?_ | refine x_pure rfl (p_len_own rfl Try.e22) ?_
              refine x_guard_t rfl rfl rfl ?_
              refine x_pure rfl (p_move rfl) ?_
              refine x_guard_t rfl rfl rfl ?_
              first | refine x_pure rfl (p_len_sl rfl Try.e22) ?_ | refine x_pure rfl (p_len_own rfl Try.e22) ?_
              refine x_guard_t rfl rfl rfl ?_
              refine x_pure rfl (p_bin rfl rfl rfl) ?_
              refine x_pure rfl (p_pick_t rfl rfl) ?_
              refine x_pure rfl (p_move rfl) ?_
              refine y_guard_s rfl rfl rfl (fun hg7 => ?_) (fun hg7 => ?_)
              ·
                try simp only [Bool.not_eq_true', Bool.not_eq_false', Bool.not_true, Bool.not_false, Bool.not_not, decide_eq_true_eq, decide_eq_false_iff_not, beq_iff_eq, beq_eq_false_iff_ne, bne_iff_ne, bne_eq_false_iff_eq, ne_eq, Int.not_lt, Int.not_le, Nat.not_lt, Nat.not_le, gt_iff_lt, ge_iff_le, Bool.and_eq_true, Bool.or_eq_true, Int.ofNat_lt, Int.ofNat_le, Int.natCast_inj, strs_len, ints_len, List.length_cons, List.length_nil] at hg7
                refine x_pure rfl (p_move rfl) ?_
                refine x_guard_t rfl rfl rfl ?_
                first | refine x_pure rfl (p_len_sl rfl Try.e22) ?_ | refine x_pure rfl (p_len_own rfl Try.e22) ?_
                refine x_guard_t rfl rfl rfl ?_
                refine x_pure rfl (p_move rfl) ?_
                refine x_guard_t rfl rfl rfl ?_
                first | refine x_pure rfl (p_len_sl rfl Try.e22) ?_ | refine x_pure rfl (p_len_own rfl Try.e22) ?_
                refine x_guard_t rfl rfl rfl ?_
                first | refine x_pure rfl (p_add rfl rfl (by omega) (by omega)) ?_ | refine x_pure rfl (p_bin rfl rfl rfl) ?_
                refine x_guard_t rfl rfl rfl ?_
                refine x_pure rfl (p_bin rfl rfl rfl) ?_
                refine x_pure rfl (p_pick_t rfl rfl) ?_
                refine x_pure rfl (p_assign rfl) ?_
                first | refine aops_end ?_ | refine aops_nil ?_
                refine hK25 _ ?_
                refine aw_ret ?_
                refine ⟨_, rfl, ?_⟩
                first | rfl | (refine ret_bool ?_; simp; omega)
              ·
                try simp only [Bool.not_eq_true', Bool.not_eq_false', Bool.not_true, Bool.not_false, Bool.not_not, decide_eq_true_eq, decide_eq_false_iff_not, beq_iff_eq, beq_eq_false_iff_ne, bne_iff_ne, bne_eq_false_iff_eq, ne_eq, Int.not_lt, Int.not_le, Nat.not_lt, Nat.not_le, gt_iff_lt, ge_iff_le, Bool.and_eq_true, Bool.or_eq_true, Int.ofNat_lt, Int.ofNat_le, Int.natCast_inj, strs_len, ints_len, List.length_cons, List.length_nil] at hg7
                exfalso
                omega
end Go.Proofs.Ytpicjibfbghonaa
