import Derived.Test.YtpicjibfbghonaaW7
import Derived.Test.YtpicjibfbghonaaP2
set_option linter.unusedVariables false
set_option linter.unusedSimpArgs false
namespace Go.Proofs.Ytpicjibfbghonaa
open Go Go.Abs

set_option maxHeartbeats 2000000 in
theorem nameSortsCons_den (x : ByteArray) (xs : List ByteArray) (hl1 : (x :: xs).length ≤ 9223372036854775807) (hl2 : ∀ s ∈ x :: xs, TS s)  : Den Try.prog 5 [.sl 1 (strs (x :: xs))]  (· = .s (.bool true)) := by
  have h0 := least_first x xs
  have hln := strs_len (x :: xs)
  have hsl := sortedL_len (x :: xs)
  simp only [List.length_cons] at hl1 hln hsl
  refine den_of_aw Try.func5 rfl (Nat.le_of_ble_eq_true rfl) (fun w0 A hf => ?_)
  refine aw_seq_k (fun K1 hK1 => ?_)
  refine aw_region ?_
  refine x_pure rfl (p_assign_bad) ?_
  first | refine aops_end ?_ | refine aops_nil ?_
  refine hK1 _ ?_
  refine aw_seq_k (fun K2 hK2 => ?_)
  refine aw_seq_k (fun K3 hK3 => ?_)
  refine aw_region ?_
  refine x_pure rfl (p_move rfl) ?_
  first | refine x_pure rfl (p_len_sl rfl Try.e22) ?_ | refine x_pure rfl (p_len_own rfl Try.e22) ?_
  refine x_pure rfl (p_bin rfl rfl rfl) ?_
  first | refine aops_end ?_ | refine aops_nil ?_
  refine hK3 _ ?_
  refine aw_cond_s rfl (fun hc1 => ?_) (fun hc1 => ?_)
  ·
    try simp only [Bool.not_eq_true', Bool.not_eq_false', Bool.not_true, Bool.not_false, Bool.not_not, decide_eq_true_eq, decide_eq_false_iff_not, beq_iff_eq, beq_eq_false_iff_ne, bne_iff_ne, bne_eq_false_iff_eq, ne_eq, Int.not_lt, Int.not_le, Nat.not_lt, Nat.not_le, gt_iff_lt, ge_iff_le, Bool.and_eq_true, Bool.or_eq_true, Int.ofNat_lt, Int.ofNat_le, Int.natCast_inj, strs_len, ints_len, List.length_cons, List.length_nil] at hc1
    refine aw_seq_k (fun K4 hK4 => ?_)
    refine aw_region ?_
    refine x_step hf rfl (r_call rfl rfl Try.ent10 rfl (alive_den)) ?_
    refine x_pure rfl (p_assign rfl) ?_
    first | refine aops_end ?_ | refine aops_nil ?_
    refine hK4 _ ?_
    refine aw_ret ?_
    refine ⟨_, rfl, ?_⟩
    first | rfl | (refine ret_bool ?_; simp)
  ·
    try simp only [Bool.not_eq_true', Bool.not_eq_false', Bool.not_true, Bool.not_false, Bool.not_not, decide_eq_true_eq, decide_eq_false_iff_not, beq_iff_eq, beq_eq_false_iff_ne, bne_iff_ne, bne_eq_false_iff_eq, ne_eq, Int.not_lt, Int.not_le, Nat.not_lt, Nat.not_le, gt_iff_lt, ge_iff_le, Bool.and_eq_true, Bool.or_eq_true, Int.ofNat_lt, Int.ofNat_le, Int.natCast_inj, strs_len, ints_len, List.length_cons, List.length_nil] at hc1
    refine aw_skip ?_
    refine hK2 _ ?_
    refine aw_seq_k (fun K5 hK5 => ?_)
    refine aw_region ?_
    refine y_buildSlice hf rfl rfl rfl Try.ap22 rfl rfl rfl rfl (by simp [AV.cells, AV.leaf, Value.oneCell', splice, AV.kill, AV.clean, AV.only]) ?_
    refine x_pure rfl (p_move rfl) ?_
    refine x_append hf rfl Try.ap22 rfl rfl rfl (by first | exact Or.inl rfl | exact Or.inr rfl) (by first | rfl | assumption | simp) rfl (by first | rfl | simp [asrc, look]) (by simp [maxLen] <;> omega) (by simp <;> omega) ?_
    refine aops_le (le_of (sl' := [(0, _), (16, _)]) ⟨rfl, rfl, trivial⟩) ?_
    refine x_pure rfl (p_assign rfl) ?_
    first | refine aops_end ?_ | refine aops_nil ?_
    refine hK5 _ ?_
    refine aw_seq_k (fun K6 hK6 => ?_)
    refine aw_region ?_
    refine x_pure rfl (p_move rfl) ?_
    refine x_step hf rfl (r_call rfl rfl Try.ent15 rfl (sorted_den (x :: xs) (by simp only [List.length_cons, List.length_nil] at *; omega))) ?_
    refine x_pure rfl (p_move rfl) ?_
    refine x_step hf rfl (r_call rfl rfl Try.ent16 rfl (refSorted_den (x :: xs) (by simp only [List.length_cons, List.length_nil] at *; omega) hl2)) ?_
    refine x_pure rfl (p_assign rfl) ?_
    refine x_pure rfl (p_assign rfl) ?_
    first | refine aops_end ?_ | refine aops_nil ?_
    refine hK6 _ ?_
    refine aw_seq_k (fun K7 hK7 => ?_)
    refine aw_seq_k (fun K8 hK8 => ?_)
    refine aw_region ?_
    refine x_pure rfl (p_move rfl) ?_
    first | refine x_pure rfl (p_len_sl rfl Try.e22) ?_ | refine x_pure rfl (p_len_own rfl Try.e22) ?_
    refine x_pure rfl (p_move rfl) ?_
    first | refine x_pure rfl (p_len_sl rfl Try.e22) ?_ | refine x_pure rfl (p_len_own rfl Try.e22) ?_
    refine x_pure rfl (p_bin rfl rfl rfl) ?_
    first | refine aops_end ?_ | refine aops_nil ?_
    refine hK8 _ ?_
    refine aw_cond_s rfl (fun hc2 => ?_) (fun hc2 => ?_)
    ·
      try simp only [Bool.not_eq_true', Bool.not_eq_false', Bool.not_true, Bool.not_false, Bool.not_not, decide_eq_true_eq, decide_eq_false_iff_not, beq_iff_eq, beq_eq_false_iff_ne, bne_iff_ne, bne_eq_false_iff_eq, ne_eq, Int.not_lt, Int.not_le, Nat.not_lt, Nat.not_le, gt_iff_lt, ge_iff_le, Bool.and_eq_true, Bool.or_eq_true, Int.ofNat_lt, Int.ofNat_le, Int.natCast_inj, strs_len, ints_len, List.length_cons, List.length_nil] at hc2
      exact (hc2 trivial).elim
    ·
      try simp only [Bool.not_eq_true', Bool.not_eq_false', Bool.not_true, Bool.not_false, Bool.not_not, decide_eq_true_eq, decide_eq_false_iff_not, beq_iff_eq, beq_eq_false_iff_ne, bne_iff_ne, bne_eq_false_iff_eq, ne_eq, Int.not_lt, Int.not_le, Nat.not_lt, Nat.not_le, gt_iff_lt, ge_iff_le, Bool.and_eq_true, Bool.or_eq_true, Int.ofNat_lt, Int.ofNat_le, Int.natCast_inj, strs_len, ints_len, List.length_cons, List.length_nil] at hc2
      refine aw_skip ?_
      refine hK7 _ ?_
      refine aw_seq_k (fun K9 hK9 => ?_)
      refine aw_seq_k (fun K10 hK10 => ?_)
      refine aw_region ?_
      refine x_pure rfl (p_move rfl) ?_
      first | refine x_pure rfl (p_len_sl rfl Try.e22) ?_ | refine x_pure rfl (p_len_own rfl Try.e22) ?_
      refine x_pure rfl (p_move rfl) ?_
      first | refine aops_end ?_ | refine aops_nil ?_
      refine hK10 _ ?_
      refine aw_block ?_
      refine aw_loop (ι := Nat) (fun k => ⟨87, [(0, .sl 1 (strs (x :: xs))), (3, .own 14 1 0 (0 + (strs (x :: xs)).length)), (4, .sl 1 (strs (sortedL (x :: xs)))), (5, .sl 1 (strs (sortedL (x :: xs)))), (27, .s (.int .i64 ((strs (sortedL (x :: xs))).length : Nat))), (28, .s (.int .i64 (k : Nat)))], [(14, .buf 1 (strs (x :: xs)))]⟩) (fun k => k ≤ (sortedL (x :: xs)).length) (fun k => (sortedL (x :: xs)).length - k) 0 ?_ ?_ ?_
      · exact Nat.zero_le _
      · exact le_of ⟨rfl, rfl, rfl, rfl, rfl, rfl, trivial⟩
      ·
        rintro k hC
        refine aw_seq_k (fun K11 hK11 => ?_)
        refine aw_region ?_
        refine x_pure rfl (p_bin rfl rfl rfl) ?_
        first | refine aops_end ?_ | refine aops_nil ?_
        refine hK11 _ ?_
        refine aw_seq_k (fun K12 hK12 => ?_)
        refine aw_cond_s rfl (fun hc3 => ?_) (fun hc3 => ?_)
        ·
          try simp only [Bool.not_eq_true', Bool.not_eq_false', Bool.not_true, Bool.not_false, Bool.not_not, decide_eq_true_eq, decide_eq_false_iff_not, beq_iff_eq, beq_eq_false_iff_ne, bne_iff_ne, bne_eq_false_iff_eq, ne_eq, Int.not_lt, Int.not_le, Nat.not_lt, Nat.not_le, gt_iff_lt, ge_iff_le, Bool.and_eq_true, Bool.or_eq_true, Int.ofNat_lt, Int.ofNat_le, Int.natCast_inj, strs_len, ints_len, List.length_cons, List.length_nil] at hc3
          refine aw_skip ?_
          refine hK12 _ ?_
          refine aw_seq_k (fun K13 hK13 => ?_)
          refine aw_block ?_
          refine aw_seq_k (fun K14 hK14 => ?_)
          refine aw_region ?_
          refine x_pure rfl (p_move rfl) ?_
          refine x_pure rfl (p_assign rfl) ?_
          first | refine aops_end ?_ | refine aops_nil ?_
          refine hK14 _ ?_
          refine aw_seq_k (fun K15 hK15 => ?_)
          refine aw_draw hf Try.mixed (by kernel_rfl) rfl ?_
          refine d_pure [(4, _)] rfl rfl ⟨⟨rfl, rfl⟩, trivial⟩ rfl (p_move rfl) ?_
          refine d_pure [(6, _)] rfl rfl ⟨⟨rfl, rfl⟩, trivial⟩ rfl (p_move rfl) ?_
          first | refine d_pure [(31, _), (32, _)] rfl rfl ⟨⟨rfl, rfl⟩, ⟨rfl, rfl⟩, trivial⟩ rfl (p_idx_sl rfl rfl Try.e22 Try.c9 (by first | assumption | (refine ⟨by omega, ?_⟩; first | assumption | exact strs_at (by omega) | exact strs_at (by simp only [List.length_cons] at *; omega) | exact ints_at (by omega) | exact list_at (by omega)))) ?_ | refine d_pure [(31, _), (32, _)] rfl rfl ⟨⟨rfl, rfl⟩, ⟨rfl, rfl⟩, trivial⟩ rfl (p_idx_own rfl rfl Try.e22 Try.c9 (by omega)) ?_
          first | refine d_pure [(33, _)] rfl rfl ⟨⟨rfl, rfl⟩, trivial⟩ rfl (p_load1 rfl Try.g9 rfl) ?_ | refine d_pure [(33, _)] rfl rfl ⟨⟨rfl, rfl⟩, trivial⟩ rfl (p_load1r rfl Try.g9 rfl rfl) ?_ | refine d_pure [(33, _)] rfl rfl ⟨⟨rfl, rfl⟩, trivial⟩ rfl (p_load1r rfl Try.g9 rfl (strs_ref (by simp only [List.length_cons] at *; omega))) ?_ | refine d_pure [(33, _)] rfl rfl ⟨⟨rfl, rfl⟩, trivial⟩ rfl (p_load1r rfl Try.g9 rfl (strs_ref (by omega))) ?_
          refine d_pure [(5, _)] rfl rfl ⟨⟨rfl, rfl⟩, trivial⟩ rfl (p_move rfl) ?_
          refine d_pure [(6, _)] rfl rfl ⟨⟨rfl, rfl⟩, trivial⟩ rfl (p_move rfl) ?_
          first | refine d_pure [(35, _), (36, _)] rfl rfl ⟨⟨rfl, rfl⟩, ⟨rfl, rfl⟩, trivial⟩ rfl (p_idx_sl rfl rfl Try.e22 Try.c9 (by first | assumption | (refine ⟨by omega, ?_⟩; first | assumption | exact strs_at (by omega) | exact strs_at (by simp only [List.length_cons] at *; omega) | exact ints_at (by omega) | exact list_at (by omega)))) ?_ | refine d_pure [(35, _), (36, _)] rfl rfl ⟨⟨rfl, rfl⟩, ⟨rfl, rfl⟩, trivial⟩ rfl (p_idx_own rfl rfl Try.e22 Try.c9 (by omega)) ?_
          first | refine d_pure [(37, _)] rfl rfl ⟨⟨rfl, rfl⟩, trivial⟩ rfl (p_load1 rfl Try.g9 rfl) ?_ | refine d_pure [(37, _)] rfl rfl ⟨⟨rfl, rfl⟩, trivial⟩ rfl (p_load1r rfl Try.g9 rfl rfl) ?_ | refine d_pure [(37, _)] rfl rfl ⟨⟨rfl, rfl⟩, trivial⟩ rfl (p_load1r rfl Try.g9 rfl (strs_ref (by simp only [List.length_cons] at *; omega))) ?_ | refine d_pure [(37, _)] rfl rfl ⟨⟨rfl, rfl⟩, trivial⟩ rfl (p_load1r rfl Try.g9 rfl (strs_ref (by omega))) ?_
          refine d_pure [(34, _), (38, _)] rfl rfl ⟨⟨rfl, rfl⟩, ⟨rfl, rfl⟩, trivial⟩ rfl (p_bin rfl rfl rfl) ?_
          refine lex_end (sl' := [(0, _), (3, _), (4, _), (5, _), (27, _), (28, _), (39, _)]) rfl ⟨rfl, rfl, rfl, rfl, rfl, rfl, rfl, trivial⟩ rfl ?_
          refine hK15 _ ?_
          refine aw_cond_s rfl (fun hc4 => ?_) (fun hc4 => ?_)
          ·
            try simp only [Bool.not_eq_true', Bool.not_eq_false', Bool.not_true, Bool.not_false, Bool.not_not, decide_eq_true_eq, decide_eq_false_iff_not, beq_iff_eq, beq_eq_false_iff_ne, bne_iff_ne, bne_eq_false_iff_eq, ne_eq, Int.not_lt, Int.not_le, Nat.not_lt, Nat.not_le, gt_iff_lt, ge_iff_le, Bool.and_eq_true, Bool.or_eq_true, Int.ofNat_lt, Int.ofNat_le, Int.natCast_inj, strs_len, ints_len, List.length_cons, List.length_nil] at hc4
            simp_all
          ·
            try simp only [Bool.not_eq_true', Bool.not_eq_false', Bool.not_true, Bool.not_false, Bool.not_not, decide_eq_true_eq, decide_eq_false_iff_not, beq_iff_eq, beq_eq_false_iff_ne, bne_iff_ne, bne_eq_false_iff_eq, ne_eq, Int.not_lt, Int.not_le, Nat.not_lt, Nat.not_le, gt_iff_lt, ge_iff_le, Bool.and_eq_true, Bool.or_eq_true, Int.ofNat_lt, Int.ofNat_le, Int.natCast_inj, strs_len, ints_len, List.length_cons, List.length_nil] at hc4
            refine aw_skip ?_
            refine hK13 _ ?_
            refine aw_region ?_
            first | refine x_pure rfl (p_add rfl rfl (by omega) (by omega)) ?_ | refine x_pure rfl (p_bin rfl rfl rfl) ?_
            refine x_pure rfl (p_move rfl) ?_
            first | refine aops_end ?_ | refine aops_nil ?_
            exact ⟨k+1, (by omega), by omega, le_of ⟨rfl, rfl, rfl, rfl, rfl, rfl, trivial⟩⟩
        ·
          try simp only [Bool.not_eq_true', Bool.not_eq_false', Bool.not_true, Bool.not_false, Bool.not_not, decide_eq_true_eq, decide_eq_false_iff_not, beq_iff_eq, beq_eq_false_iff_ne, bne_iff_ne, bne_eq_false_iff_eq, ne_eq, Int.not_lt, Int.not_le, Nat.not_lt, Nat.not_le, gt_iff_lt, ge_iff_le, Bool.and_eq_true, Bool.or_eq_true, Int.ofNat_lt, Int.ofNat_le, Int.natCast_inj, strs_len, ints_len, List.length_cons, List.length_nil] at hc3
          refine aw_exit ?_
          refine hK9 _ ?_
          refine aw_seq_k (fun K16 hK16 => ?_)
          refine aw_seq_k (fun K17 hK17 => ?_)
          refine aw_region ?_
          refine x_pure rfl (p_move rfl) ?_
          first | refine x_pure rfl (p_len_sl rfl Try.e22) ?_ | refine x_pure rfl (p_len_own rfl Try.e22) ?_
          refine x_pure rfl (p_move rfl) ?_
          first | refine aops_end ?_ | refine aops_nil ?_
          refine hK17 _ ?_
          refine aw_block ?_
          refine aw_loop (ι := Nat) (fun k => ⟨87, [(0, .sl 1 (strs (x :: xs))), (3, .own 14 1 0 (0 + (strs (x :: xs)).length)), (5, .sl 1 (strs (sortedL (x :: xs)))), (42, .s (.int .i64 ((strs (x :: xs)).length : Nat))), (43, .s (.int .i64 (k : Nat)))], [(14, .buf 1 (strs (x :: xs)))]⟩) (fun k => k ≤ ((x :: xs) : List ByteArray).length) (fun k => ((x :: xs) : List ByteArray).length - k) 0 ?_ ?_ ?_
          · exact Nat.zero_le _
          · exact le_of ⟨rfl, rfl, rfl, rfl, rfl, trivial⟩
          ·
            rintro k hC
            refine aw_seq_k (fun K18 hK18 => ?_)
            refine aw_region ?_
            refine x_pure rfl (p_bin rfl rfl rfl) ?_
            first | refine aops_end ?_ | refine aops_nil ?_
            refine hK18 _ ?_
            refine aw_seq_k (fun K19 hK19 => ?_)
            refine aw_cond_s rfl (fun hc5 => ?_) (fun hc5 => ?_)
            ·
              try simp only [Bool.not_eq_true', Bool.not_eq_false', Bool.not_true, Bool.not_false, Bool.not_not, decide_eq_true_eq, decide_eq_false_iff_not, beq_iff_eq, beq_eq_false_iff_ne, bne_iff_ne, bne_eq_false_iff_eq, ne_eq, Int.not_lt, Int.not_le, Nat.not_lt, Nat.not_le, gt_iff_lt, ge_iff_le, Bool.and_eq_true, Bool.or_eq_true, Int.ofNat_lt, Int.ofNat_le, Int.natCast_inj, strs_len, ints_len, List.length_cons, List.length_nil] at hc5
              refine aw_skip ?_
              refine hK19 _ ?_
              refine aw_seq_k (fun K20 hK20 => ?_)
              refine aw_block ?_
              refine aw_seq_k (fun K21 hK21 => ?_)
              refine aw_region ?_
              refine x_pure rfl (p_move rfl) ?_
              refine x_pure rfl (p_assign rfl) ?_
              first | refine aops_end ?_ | refine aops_nil ?_
              refine hK21 _ ?_
              refine aw_seq_k (fun K22 hK22 => ?_)
              refine aw_draw hf Try.mixed (by kernel_rfl) rfl ?_
              refine d_pure [(0, _)] rfl rfl ⟨⟨rfl, rfl⟩, trivial⟩ rfl (p_move rfl) ?_
              refine d_pure [(7, _)] rfl rfl ⟨⟨rfl, rfl⟩, trivial⟩ rfl (p_move rfl) ?_
              first | refine d_pure [(46, _), (47, _)] rfl rfl ⟨⟨rfl, rfl⟩, ⟨rfl, rfl⟩, trivial⟩ rfl (p_idx_sl rfl rfl Try.e22 Try.c9 (by first | assumption | (refine ⟨by omega, ?_⟩; first | assumption | exact strs_at (by omega) | exact strs_at (by simp only [List.length_cons] at *; omega) | exact ints_at (by omega) | exact list_at (by omega)))) ?_ | refine d_pure [(46, _), (47, _)] rfl rfl ⟨⟨rfl, rfl⟩, ⟨rfl, rfl⟩, trivial⟩ rfl (p_idx_own rfl rfl Try.e22 Try.c9 (by omega)) ?_
              first | refine d_pure [(48, _)] rfl rfl ⟨⟨rfl, rfl⟩, trivial⟩ rfl (p_load1 rfl Try.g9 rfl) ?_ | refine d_pure [(48, _)] rfl rfl ⟨⟨rfl, rfl⟩, trivial⟩ rfl (p_load1r rfl Try.g9 rfl rfl) ?_ | refine d_pure [(48, _)] rfl rfl ⟨⟨rfl, rfl⟩, trivial⟩ rfl (p_load1r rfl Try.g9 rfl (strs_ref (by simp only [List.length_cons] at *; omega))) ?_ | refine d_pure [(48, _)] rfl rfl ⟨⟨rfl, rfl⟩, trivial⟩ rfl (p_load1r rfl Try.g9 rfl (strs_ref (by omega))) ?_
              refine d_pure [(3, _)] rfl rfl ⟨⟨rfl, rfl⟩, trivial⟩ rfl (p_move rfl) ?_
              refine d_pure [(7, _)] rfl rfl ⟨⟨rfl, rfl⟩, trivial⟩ rfl (p_move rfl) ?_
              first | refine d_pure [(50, _), (51, _)] rfl rfl ⟨⟨rfl, rfl⟩, ⟨rfl, rfl⟩, trivial⟩ rfl (p_idx_sl rfl rfl Try.e22 Try.c9 (by first | assumption | (refine ⟨by omega, ?_⟩; first | assumption | exact strs_at (by omega) | exact strs_at (by simp only [List.length_cons] at *; omega) | exact ints_at (by omega) | exact list_at (by omega)))) ?_ | refine d_pure [(50, _), (51, _)] rfl rfl ⟨⟨rfl, rfl⟩, ⟨rfl, rfl⟩, trivial⟩ rfl (p_idx_own rfl rfl Try.e22 Try.c9 (by omega)) ?_
              first | refine d_pure [(52, _)] rfl rfl ⟨⟨rfl, rfl⟩, trivial⟩ rfl (p_load1 rfl Try.g9 rfl) ?_ | refine d_pure [(52, _)] rfl rfl ⟨⟨rfl, rfl⟩, trivial⟩ rfl (p_load1r rfl Try.g9 rfl rfl) ?_ | refine d_pure [(52, _)] rfl rfl ⟨⟨rfl, rfl⟩, trivial⟩ rfl (p_load1r rfl Try.g9 rfl (strs_ref (by simp only [List.length_cons] at *; omega))) ?_ | refine d_pure [(52, _)] rfl rfl ⟨⟨rfl, rfl⟩, trivial⟩ rfl (p_load1r rfl Try.g9 rfl (strs_ref (by omega))) ?_
              refine d_pure [(49, _), (53, _)] rfl rfl ⟨⟨rfl, rfl⟩, ⟨rfl, rfl⟩, trivial⟩ rfl (p_bin rfl rfl rfl) ?_
              refine lex_end (sl' := [(0, _), (3, _), (5, _), (42, _), (43, _), (54, _)]) rfl ⟨rfl, rfl, rfl, rfl, rfl, rfl, trivial⟩ rfl ?_
              refine hK22 _ ?_
              refine aw_cond_s rfl (fun hc6 => ?_) (fun hc6 => ?_)
              ·
                try simp only [Bool.not_eq_true', Bool.not_eq_false', Bool.not_true, Bool.not_false, Bool.not_not, decide_eq_true_eq, decide_eq_false_iff_not, beq_iff_eq, beq_eq_false_iff_ne, bne_iff_ne, bne_eq_false_iff_eq, ne_eq, Int.not_lt, Int.not_le, Nat.not_lt, Nat.not_le, gt_iff_lt, ge_iff_le, Bool.and_eq_true, Bool.or_eq_true, Int.ofNat_lt, Int.ofNat_le, Int.natCast_inj, strs_len, ints_len, List.length_cons, List.length_nil] at hc6
                simp_all
              ·
                try simp only [Bool.not_eq_true', Bool.not_eq_false', Bool.not_true, Bool.not_false, Bool.not_not, decide_eq_true_eq, decide_eq_false_iff_not, beq_iff_eq, beq_eq_false_iff_ne, bne_iff_ne, bne_eq_false_iff_eq, ne_eq, Int.not_lt, Int.not_le, Nat.not_lt, Nat.not_le, gt_iff_lt, ge_iff_le, Bool.and_eq_true, Bool.or_eq_true, Int.ofNat_lt, Int.ofNat_le, Int.natCast_inj, strs_len, ints_len, List.length_cons, List.length_nil] at hc6
                refine aw_skip ?_
                refine hK20 _ ?_
                refine aw_region ?_
                first | refine x_pure rfl (p_add rfl rfl (by omega) (by omega)) ?_ | refine x_pure rfl (p_bin rfl rfl rfl) ?_
                refine x_pure rfl (p_move rfl) ?_
                first | refine aops_end ?_ | refine aops_nil ?_
                exact ⟨k+1, (by (try simp only [List.length_cons, List.length_nil] at *); omega), (by (try simp only [List.length_cons, List.length_nil] at *); omega), le_of ⟨rfl, rfl, rfl, rfl, rfl, trivial⟩⟩
            ·
              try simp only [Bool.not_eq_true', Bool.not_eq_false', Bool.not_true, Bool.not_false, Bool.not_not, decide_eq_true_eq, decide_eq_false_iff_not, beq_iff_eq, beq_eq_false_iff_ne, bne_iff_ne, bne_eq_false_iff_eq, ne_eq, Int.not_lt, Int.not_le, Nat.not_lt, Nat.not_le, gt_iff_lt, ge_iff_le, Bool.and_eq_true, Bool.or_eq_true, Int.ofNat_lt, Int.ofNat_le, Int.natCast_inj, strs_len, ints_len, List.length_cons, List.length_nil] at hc5
              refine aw_exit ?_
              refine hK16 _ ?_
              refine aw_seq_k (fun K23 hK23 => ?_)
              refine aw_region ?_
              refine x_pure rfl (p_move rfl) ?_
              refine x_step hf rfl (r_call rfl rfl Try.ent17 rfl (least_den x xs (by simp only [List.length_cons]; omega))) ?_
              refine x_pure rfl (p_move rfl) ?_
              refine x_pure rfl (p_extract rfl rfl) ?_
              refine x_pure rfl (p_extract rfl rfl) ?_
              refine x_pure rfl (p_assign rfl) ?_
              refine x_pure rfl (p_assign rfl) ?_
              first | refine aops_end ?_ | refine aops_nil ?_
              refine hK23 _ ?_
              refine aw_seq_k (fun K24 hK24 => ?_)
              refine aw_region ?_
              refine x_step hf rfl (r_call rfl rfl Try.ent10 rfl (alive_den)) ?_
              refine x_pure rfl (p_move rfl) ?_
              refine x_guard_t rfl rfl rfl ?_
              refine x_pure rfl (p_move rfl) ?_
              refine x_guard_t rfl rfl rfl ?_
              refine x_pure rfl (p_move rfl) ?_
              refine x_guard_t rfl rfl rfl ?_
              first | refine x_pure rfl (p_len_sl rfl Try.e22) ?_ | refine x_pure rfl (p_len_own rfl Try.e22) ?_
              refine x_guard_t rfl rfl rfl ?_
              refine x_pure rfl (p_bin rfl rfl rfl) ?_
              refine x_guard_t rfl rfl rfl ?_
              refine x_pure rfl (p_bin rfl rfl rfl) ?_
              refine x_pure rfl (p_pick_t rfl rfl) ?_
              refine x_pure rfl (p_move rfl) ?_
              refine y_guard_s rfl rfl rfl (fun hg7 => ?_) (fun hg7 => ?_)
              ·
                try simp only [Bool.not_eq_true', Bool.not_eq_false', Bool.not_true, Bool.not_false, Bool.not_not, decide_eq_true_eq, decide_eq_false_iff_not, beq_iff_eq, beq_eq_false_iff_ne, bne_iff_ne, bne_eq_false_iff_eq, ne_eq, Int.not_lt, Int.not_le, Nat.not_lt, Nat.not_le, gt_iff_lt, ge_iff_le, Bool.and_eq_true, Bool.or_eq_true, Int.ofNat_lt, Int.ofNat_le, Int.natCast_inj, strs_len, ints_len, List.length_cons, List.length_nil] at hg7
                refine x_pure rfl (p_move rfl) ?_
                refine x_guard_t rfl rfl rfl ?_
                refine x_pure rfl (p_not rfl) ?_
                refine x_guard_t rfl rfl rfl ?_
                refine x_pure rfl (p_move rfl) ?_
                refine x_guard_f rfl rfl rfl ?_
                refine x_guard_f rfl rfl rfl ?_
                refine x_guard_t rfl rfl rfl ?_
                refine x_pure rfl (p_pick_f rfl rfl) ?_
                refine x_guard_t rfl rfl rfl ?_
                refine x_pure rfl (p_move rfl) ?_
                refine x_guard_t rfl rfl rfl ?_
                refine x_pure rfl (p_move rfl) ?_
                refine x_guard_t rfl rfl rfl ?_
                refine x_pure rfl (p_move rfl) ?_
                refine x_guard_t rfl rfl rfl ?_
                refine x_pure rfl (p_move rfl) ?_
                refine x_guard_t rfl rfl rfl ?_
                refine x_pure rfl (p_move rfl) ?_
                refine x_guard_t rfl rfl rfl ?_
                first | refine x_pure rfl (p_idx_sl rfl rfl Try.e22 Try.c9 (by first | assumption | (refine ⟨by omega, ?_⟩; first | assumption | exact strs_at (by omega) | exact strs_at (by simp only [List.length_cons] at *; omega) | exact ints_at (by omega) | exact list_at (by omega)))) ?_ | refine x_pure rfl (p_idx_own rfl rfl Try.e22 Try.c9 (by omega)) ?_
                refine x_guard_t rfl rfl rfl ?_
                first | refine x_pure rfl (p_load1 rfl Try.g9 rfl) ?_ | refine x_pure rfl (p_load1r rfl Try.g9 rfl rfl) ?_ | refine x_pure rfl (p_load1r rfl Try.g9 rfl (strs_ref (by simp only [List.length_cons] at *; omega))) ?_ | refine x_pure rfl (p_load1r rfl Try.g9 rfl (strs_ref (by omega))) ?_
                refine x_guard_t rfl rfl rfl ?_
                refine x_pure rfl (p_bin rfl rfl rfl) ?_
                refine x_guard_t rfl rfl rfl ?_
                refine x_pure rfl (p_pick_t rfl rfl) ?_
                refine x_guard_t rfl rfl rfl ?_
                refine x_pure rfl (p_pick_f rfl rfl) ?_
                refine x_pure rfl (p_pick_t rfl rfl) ?_
                refine x_pure rfl (p_assign rfl) ?_
                first | refine aops_end ?_ | refine aops_nil ?_
                refine hK24 _ ?_
                refine aw_ret ?_
                refine ⟨_, rfl, ?_⟩
                first | rfl | (refine ret_bool ?_; simp)
              ·
                try simp only [Bool.not_eq_true', Bool.not_eq_false', Bool.not_true, Bool.not_false, Bool.not_not, decide_eq_true_eq, decide_eq_false_iff_not, beq_iff_eq, beq_eq_false_iff_ne, bne_iff_ne, bne_eq_false_iff_eq, ne_eq, Int.not_lt, Int.not_le, Nat.not_lt, Nat.not_le, gt_iff_lt, ge_iff_le, Bool.and_eq_true, Bool.or_eq_true, Int.ofNat_lt, Int.ofNat_le, Int.natCast_inj, strs_len, ints_len, List.length_cons, List.length_nil] at hg7
                exfalso
                clear h0 hl2
                first | omega | (simp at hg7; done) | (simp at hg7; omega)

set_option maxHeartbeats 2000000 in
theorem nameSortsNil_den   : Den Try.prog 5 [.sl 1 (strs [])]  (· = .s (.bool true)) := by
  have h0 : True := trivial
  have hl2 : ∀ s ∈ ([] : List ByteArray), TS s := by simp
  have hln := strs_len []
  have hsl := sortedL_len []
  simp only [List.length_nil] at hln hsl
  refine den_of_aw Try.func5 rfl (Nat.le_of_ble_eq_true rfl) (fun w0 A hf => ?_)
  refine aw_seq_k (fun K1 hK1 => ?_)
  refine aw_region ?_
  refine x_pure rfl (p_assign_bad) ?_
  first | refine aops_end ?_ | refine aops_nil ?_
  refine hK1 _ ?_
  refine aw_seq_k (fun K2 hK2 => ?_)
  refine aw_seq_k (fun K3 hK3 => ?_)
  refine aw_region ?_
  refine x_pure rfl (p_move rfl) ?_
  first | refine x_pure rfl (p_len_sl rfl Try.e22) ?_ | refine x_pure rfl (p_len_own rfl Try.e22) ?_
  refine x_pure rfl (p_bin rfl rfl rfl) ?_
  first | refine aops_end ?_ | refine aops_nil ?_
  refine hK3 _ ?_
  refine aw_cond_s rfl (fun hc1 => ?_) (fun hc1 => ?_)
  ·
    try simp only [Bool.not_eq_true', Bool.not_eq_false', Bool.not_true, Bool.not_false, Bool.not_not, decide_eq_true_eq, decide_eq_false_iff_not, beq_iff_eq, beq_eq_false_iff_ne, bne_iff_ne, bne_eq_false_iff_eq, ne_eq, Int.not_lt, Int.not_le, Nat.not_lt, Nat.not_le, gt_iff_lt, ge_iff_le, Bool.and_eq_true, Bool.or_eq_true, Int.ofNat_lt, Int.ofNat_le, Int.natCast_inj, strs_len, ints_len, List.length_cons, List.length_nil] at hc1
    refine aw_seq_k (fun K4 hK4 => ?_)
    refine aw_region ?_
    refine x_step hf rfl (r_call rfl rfl Try.ent10 rfl (alive_den)) ?_
    refine x_pure rfl (p_assign rfl) ?_
    first | refine aops_end ?_ | refine aops_nil ?_
    refine hK4 _ ?_
    refine aw_ret ?_
    refine ⟨_, rfl, ?_⟩
    first | rfl | (refine ret_bool ?_; simp)
  ·
    try simp only [Bool.not_eq_true', Bool.not_eq_false', Bool.not_true, Bool.not_false, Bool.not_not, decide_eq_true_eq, decide_eq_false_iff_not, beq_iff_eq, beq_eq_false_iff_ne, bne_iff_ne, bne_eq_false_iff_eq, ne_eq, Int.not_lt, Int.not_le, Nat.not_lt, Nat.not_le, gt_iff_lt, ge_iff_le, Bool.and_eq_true, Bool.or_eq_true, Int.ofNat_lt, Int.ofNat_le, Int.natCast_inj, strs_len, ints_len, List.length_cons, List.length_nil] at hc1
    refine aw_skip ?_
    refine hK2 _ ?_
    refine aw_seq_k (fun K5 hK5 => ?_)
    refine aw_region ?_
    refine y_buildSlice hf rfl rfl rfl Try.ap22 rfl rfl rfl rfl (by simp [AV.cells, AV.leaf, Value.oneCell', splice, AV.kill, AV.clean, AV.only]) ?_
    refine x_pure rfl (p_move rfl) ?_
    refine x_append hf rfl Try.ap22 rfl rfl rfl (by first | exact Or.inl rfl | exact Or.inr rfl) (by first | rfl | assumption | simp) rfl (by first | rfl | simp [asrc, look]) (by simp [maxLen] <;> omega) (by simp <;> omega) ?_
    refine aops_le (le_of (sl' := [(0, _), (16, _)]) ⟨rfl, rfl, trivial⟩) ?_
    refine x_pure rfl (p_assign rfl) ?_
    first | refine aops_end ?_ | refine aops_nil ?_
    refine hK5 _ ?_
    refine aw_seq_k (fun K6 hK6 => ?_)
    refine aw_region ?_
    refine x_pure rfl (p_move rfl) ?_
    refine x_step hf rfl (r_call rfl rfl Try.ent15 rfl (sorted_den [] (by simp only [List.length_cons, List.length_nil] at *; omega))) ?_
    refine x_pure rfl (p_move rfl) ?_
    refine x_step hf rfl (r_call rfl rfl Try.ent16 rfl (refSorted_den [] (by simp only [List.length_cons, List.length_nil] at *; omega) hl2)) ?_
    refine x_pure rfl (p_assign rfl) ?_
    refine x_pure rfl (p_assign rfl) ?_
    first | refine aops_end ?_ | refine aops_nil ?_
    refine hK6 _ ?_
    refine aw_seq_k (fun K7 hK7 => ?_)
    refine aw_seq_k (fun K8 hK8 => ?_)
    refine aw_region ?_
    refine x_pure rfl (p_move rfl) ?_
    first | refine x_pure rfl (p_len_sl rfl Try.e22) ?_ | refine x_pure rfl (p_len_own rfl Try.e22) ?_
    refine x_pure rfl (p_move rfl) ?_
    first | refine x_pure rfl (p_len_sl rfl Try.e22) ?_ | refine x_pure rfl (p_len_own rfl Try.e22) ?_
    refine x_pure rfl (p_bin rfl rfl rfl) ?_
    first | refine aops_end ?_ | refine aops_nil ?_
    refine hK8 _ ?_
    refine aw_cond_s rfl (fun hc2 => ?_) (fun hc2 => ?_)
    ·
      try simp only [Bool.not_eq_true', Bool.not_eq_false', Bool.not_true, Bool.not_false, Bool.not_not, decide_eq_true_eq, decide_eq_false_iff_not, beq_iff_eq, beq_eq_false_iff_ne, bne_iff_ne, bne_eq_false_iff_eq, ne_eq, Int.not_lt, Int.not_le, Nat.not_lt, Nat.not_le, gt_iff_lt, ge_iff_le, Bool.and_eq_true, Bool.or_eq_true, Int.ofNat_lt, Int.ofNat_le, Int.natCast_inj, strs_len, ints_len, List.length_cons, List.length_nil] at hc2
      exact (hc2 trivial).elim
    ·
      try simp only [Bool.not_eq_true', Bool.not_eq_false', Bool.not_true, Bool.not_false, Bool.not_not, decide_eq_true_eq, decide_eq_false_iff_not, beq_iff_eq, beq_eq_false_iff_ne, bne_iff_ne, bne_eq_false_iff_eq, ne_eq, Int.not_lt, Int.not_le, Nat.not_lt, Nat.not_le, gt_iff_lt, ge_iff_le, Bool.and_eq_true, Bool.or_eq_true, Int.ofNat_lt, Int.ofNat_le, Int.natCast_inj, strs_len, ints_len, List.length_cons, List.length_nil] at hc2
      refine aw_skip ?_
      refine hK7 _ ?_
      refine aw_seq_k (fun K9 hK9 => ?_)
      refine aw_seq_k (fun K10 hK10 => ?_)
      refine aw_region ?_
      refine x_pure rfl (p_move rfl) ?_
      first | refine x_pure rfl (p_len_sl rfl Try.e22) ?_ | refine x_pure rfl (p_len_own rfl Try.e22) ?_
      refine x_pure rfl (p_move rfl) ?_
      first | refine aops_end ?_ | refine aops_nil ?_
      refine hK10 _ ?_
      refine aw_block ?_
      refine aw_loop (ι := Nat) (fun k => ⟨87, [(0, .sl 1 (strs [])), (3, .own 14 1 0 (0 + (strs []).length)), (4, .sl 1 (strs (sortedL []))), (5, .sl 1 (strs (sortedL []))), (27, .s (.int .i64 ((strs (sortedL [])).length : Nat))), (28, .s (.int .i64 (k : Nat)))], [(14, .buf 1 (strs []))]⟩) (fun k => k ≤ (sortedL []).length) (fun k => (sortedL []).length - k) 0 ?_ ?_ ?_
      · exact Nat.zero_le _
      · exact le_of ⟨rfl, rfl, rfl, rfl, rfl, rfl, trivial⟩
      ·
        rintro k hC
        refine aw_seq_k (fun K11 hK11 => ?_)
        refine aw_region ?_
        refine x_pure rfl (p_bin rfl rfl rfl) ?_
        first | refine aops_end ?_ | refine aops_nil ?_
        refine hK11 _ ?_
        refine aw_seq_k (fun K12 hK12 => ?_)
        refine aw_cond_s rfl (fun hc3 => ?_) (fun hc3 => ?_)
        ·
          try simp only [Bool.not_eq_true', Bool.not_eq_false', Bool.not_true, Bool.not_false, Bool.not_not, decide_eq_true_eq, decide_eq_false_iff_not, beq_iff_eq, beq_eq_false_iff_ne, bne_iff_ne, bne_eq_false_iff_eq, ne_eq, Int.not_lt, Int.not_le, Nat.not_lt, Nat.not_le, gt_iff_lt, ge_iff_le, Bool.and_eq_true, Bool.or_eq_true, Int.ofNat_lt, Int.ofNat_le, Int.natCast_inj, strs_len, ints_len, List.length_cons, List.length_nil] at hc3
          refine aw_skip ?_
          refine hK12 _ ?_
          refine aw_seq_k (fun K13 hK13 => ?_)
          refine aw_block ?_
          refine aw_seq_k (fun K14 hK14 => ?_)
          refine aw_region ?_
          refine x_pure rfl (p_move rfl) ?_
          refine x_pure rfl (p_assign rfl) ?_
          first | refine aops_end ?_ | refine aops_nil ?_
          refine hK14 _ ?_
          refine aw_seq_k (fun K15 hK15 => ?_)
          refine aw_draw hf Try.mixed (by kernel_rfl) rfl ?_
          refine d_pure [(4, _)] rfl rfl ⟨⟨rfl, rfl⟩, trivial⟩ rfl (p_move rfl) ?_
          refine d_pure [(6, _)] rfl rfl ⟨⟨rfl, rfl⟩, trivial⟩ rfl (p_move rfl) ?_
          first | refine d_pure [(31, _), (32, _)] rfl rfl ⟨⟨rfl, rfl⟩, ⟨rfl, rfl⟩, trivial⟩ rfl (p_idx_sl rfl rfl Try.e22 Try.c9 (by first | assumption | (refine ⟨by omega, ?_⟩; first | assumption | exact strs_at (by omega) | exact strs_at (by simp only [List.length_cons] at *; omega) | exact ints_at (by omega) | exact list_at (by omega)))) ?_ | refine d_pure [(31, _), (32, _)] rfl rfl ⟨⟨rfl, rfl⟩, ⟨rfl, rfl⟩, trivial⟩ rfl (p_idx_own rfl rfl Try.e22 Try.c9 (by omega)) ?_
          first | refine d_pure [(33, _)] rfl rfl ⟨⟨rfl, rfl⟩, trivial⟩ rfl (p_load1 rfl Try.g9 rfl) ?_ | refine d_pure [(33, _)] rfl rfl ⟨⟨rfl, rfl⟩, trivial⟩ rfl (p_load1r rfl Try.g9 rfl rfl) ?_ | refine d_pure [(33, _)] rfl rfl ⟨⟨rfl, rfl⟩, trivial⟩ rfl (p_load1r rfl Try.g9 rfl (strs_ref (by simp only [List.length_cons] at *; omega))) ?_ | refine d_pure [(33, _)] rfl rfl ⟨⟨rfl, rfl⟩, trivial⟩ rfl (p_load1r rfl Try.g9 rfl (strs_ref (by omega))) ?_
          refine d_pure [(5, _)] rfl rfl ⟨⟨rfl, rfl⟩, trivial⟩ rfl (p_move rfl) ?_
          refine d_pure [(6, _)] rfl rfl ⟨⟨rfl, rfl⟩, trivial⟩ rfl (p_move rfl) ?_
          first | refine d_pure [(35, _), (36, _)] rfl rfl ⟨⟨rfl, rfl⟩, ⟨rfl, rfl⟩, trivial⟩ rfl (p_idx_sl rfl rfl Try.e22 Try.c9 (by first | assumption | (refine ⟨by omega, ?_⟩; first | assumption | exact strs_at (by omega) | exact strs_at (by simp only [List.length_cons] at *; omega) | exact ints_at (by omega) | exact list_at (by omega)))) ?_ | refine d_pure [(35, _), (36, _)] rfl rfl ⟨⟨rfl, rfl⟩, ⟨rfl, rfl⟩, trivial⟩ rfl (p_idx_own rfl rfl Try.e22 Try.c9 (by omega)) ?_
          first | refine d_pure [(37, _)] rfl rfl ⟨⟨rfl, rfl⟩, trivial⟩ rfl (p_load1 rfl Try.g9 rfl) ?_ | refine d_pure [(37, _)] rfl rfl ⟨⟨rfl, rfl⟩, trivial⟩ rfl (p_load1r rfl Try.g9 rfl rfl) ?_ | refine d_pure [(37, _)] rfl rfl ⟨⟨rfl, rfl⟩, trivial⟩ rfl (p_load1r rfl Try.g9 rfl (strs_ref (by simp only [List.length_cons] at *; omega))) ?_ | refine d_pure [(37, _)] rfl rfl ⟨⟨rfl, rfl⟩, trivial⟩ rfl (p_load1r rfl Try.g9 rfl (strs_ref (by omega))) ?_
          refine d_pure [(34, _), (38, _)] rfl rfl ⟨⟨rfl, rfl⟩, ⟨rfl, rfl⟩, trivial⟩ rfl (p_bin rfl rfl rfl) ?_
          refine lex_end (sl' := [(0, _), (3, _), (4, _), (5, _), (27, _), (28, _), (39, _)]) rfl ⟨rfl, rfl, rfl, rfl, rfl, rfl, rfl, trivial⟩ rfl ?_
          refine hK15 _ ?_
          refine aw_cond_s rfl (fun hc4 => ?_) (fun hc4 => ?_)
          ·
            try simp only [Bool.not_eq_true', Bool.not_eq_false', Bool.not_true, Bool.not_false, Bool.not_not, decide_eq_true_eq, decide_eq_false_iff_not, beq_iff_eq, beq_eq_false_iff_ne, bne_iff_ne, bne_eq_false_iff_eq, ne_eq, Int.not_lt, Int.not_le, Nat.not_lt, Nat.not_le, gt_iff_lt, ge_iff_le, Bool.and_eq_true, Bool.or_eq_true, Int.ofNat_lt, Int.ofNat_le, Int.natCast_inj, strs_len, ints_len, List.length_cons, List.length_nil] at hc4
            simp_all
          ·
            try simp only [Bool.not_eq_true', Bool.not_eq_false', Bool.not_true, Bool.not_false, Bool.not_not, decide_eq_true_eq, decide_eq_false_iff_not, beq_iff_eq, beq_eq_false_iff_ne, bne_iff_ne, bne_eq_false_iff_eq, ne_eq, Int.not_lt, Int.not_le, Nat.not_lt, Nat.not_le, gt_iff_lt, ge_iff_le, Bool.and_eq_true, Bool.or_eq_true, Int.ofNat_lt, Int.ofNat_le, Int.natCast_inj, strs_len, ints_len, List.length_cons, List.length_nil] at hc4
            refine aw_skip ?_
            refine hK13 _ ?_
            refine aw_region ?_
            first | refine x_pure rfl (p_add rfl rfl (by omega) (by omega)) ?_ | refine x_pure rfl (p_bin rfl rfl rfl) ?_
            refine x_pure rfl (p_move rfl) ?_
            first | refine aops_end ?_ | refine aops_nil ?_
            exact ⟨k+1, (by omega), by omega, le_of ⟨rfl, rfl, rfl, rfl, rfl, rfl, trivial⟩⟩
        ·
          try simp only [Bool.not_eq_true', Bool.not_eq_false', Bool.not_true, Bool.not_false, Bool.not_not, decide_eq_true_eq, decide_eq_false_iff_not, beq_iff_eq, beq_eq_false_iff_ne, bne_iff_ne, bne_eq_false_iff_eq, ne_eq, Int.not_lt, Int.not_le, Nat.not_lt, Nat.not_le, gt_iff_lt, ge_iff_le, Bool.and_eq_true, Bool.or_eq_true, Int.ofNat_lt, Int.ofNat_le, Int.natCast_inj, strs_len, ints_len, List.length_cons, List.length_nil] at hc3
          refine aw_exit ?_
          refine hK9 _ ?_
          refine aw_seq_k (fun K16 hK16 => ?_)
          refine aw_seq_k (fun K17 hK17 => ?_)
          refine aw_region ?_
          refine x_pure rfl (p_move rfl) ?_
          first | refine x_pure rfl (p_len_sl rfl Try.e22) ?_ | refine x_pure rfl (p_len_own rfl Try.e22) ?_
          refine x_pure rfl (p_move rfl) ?_
          first | refine aops_end ?_ | refine aops_nil ?_
          refine hK17 _ ?_
          refine aw_block ?_
          refine aw_loop (ι := Nat) (fun k => ⟨87, [(0, .sl 1 (strs [])), (3, .own 14 1 0 (0 + (strs []).length)), (5, .sl 1 (strs (sortedL []))), (42, .s (.int .i64 ((strs []).length : Nat))), (43, .s (.int .i64 (k : Nat)))], [(14, .buf 1 (strs []))]⟩) (fun k => k ≤ ([] : List ByteArray).length) (fun k => ([] : List ByteArray).length - k) 0 ?_ ?_ ?_
          · exact Nat.zero_le _
          · exact le_of ⟨rfl, rfl, rfl, rfl, rfl, trivial⟩
          ·
            rintro k hC
            refine aw_seq_k (fun K18 hK18 => ?_)
            refine aw_region ?_
            refine x_pure rfl (p_bin rfl rfl rfl) ?_
            first | refine aops_end ?_ | refine aops_nil ?_
            refine hK18 _ ?_
            refine aw_seq_k (fun K19 hK19 => ?_)
            refine aw_cond_s rfl (fun hc5 => ?_) (fun hc5 => ?_)
            ·
              try simp only [Bool.not_eq_true', Bool.not_eq_false', Bool.not_true, Bool.not_false, Bool.not_not, decide_eq_true_eq, decide_eq_false_iff_not, beq_iff_eq, beq_eq_false_iff_ne, bne_iff_ne, bne_eq_false_iff_eq, ne_eq, Int.not_lt, Int.not_le, Nat.not_lt, Nat.not_le, gt_iff_lt, ge_iff_le, Bool.and_eq_true, Bool.or_eq_true, Int.ofNat_lt, Int.ofNat_le, Int.natCast_inj, strs_len, ints_len, List.length_cons, List.length_nil] at hc5
              refine aw_skip ?_
              refine hK19 _ ?_
              refine aw_seq_k (fun K20 hK20 => ?_)
              refine aw_block ?_
              refine aw_seq_k (fun K21 hK21 => ?_)
              refine aw_region ?_
              refine x_pure rfl (p_move rfl) ?_
              refine x_pure rfl (p_assign rfl) ?_
              first | refine aops_end ?_ | refine aops_nil ?_
              refine hK21 _ ?_
              refine aw_seq_k (fun K22 hK22 => ?_)
              refine aw_draw hf Try.mixed (by kernel_rfl) rfl ?_
              refine d_pure [(0, _)] rfl rfl ⟨⟨rfl, rfl⟩, trivial⟩ rfl (p_move rfl) ?_
              refine d_pure [(7, _)] rfl rfl ⟨⟨rfl, rfl⟩, trivial⟩ rfl (p_move rfl) ?_
              first | refine d_pure [(46, _), (47, _)] rfl rfl ⟨⟨rfl, rfl⟩, ⟨rfl, rfl⟩, trivial⟩ rfl (p_idx_sl rfl rfl Try.e22 Try.c9 (by first | assumption | (refine ⟨by omega, ?_⟩; first | assumption | exact strs_at (by omega) | exact strs_at (by simp only [List.length_cons] at *; omega) | exact ints_at (by omega) | exact list_at (by omega)))) ?_ | refine d_pure [(46, _), (47, _)] rfl rfl ⟨⟨rfl, rfl⟩, ⟨rfl, rfl⟩, trivial⟩ rfl (p_idx_own rfl rfl Try.e22 Try.c9 (by omega)) ?_
              first | refine d_pure [(48, _)] rfl rfl ⟨⟨rfl, rfl⟩, trivial⟩ rfl (p_load1 rfl Try.g9 rfl) ?_ | refine d_pure [(48, _)] rfl rfl ⟨⟨rfl, rfl⟩, trivial⟩ rfl (p_load1r rfl Try.g9 rfl rfl) ?_ | refine d_pure [(48, _)] rfl rfl ⟨⟨rfl, rfl⟩, trivial⟩ rfl (p_load1r rfl Try.g9 rfl (strs_ref (by simp only [List.length_cons] at *; omega))) ?_ | refine d_pure [(48, _)] rfl rfl ⟨⟨rfl, rfl⟩, trivial⟩ rfl (p_load1r rfl Try.g9 rfl (strs_ref (by omega))) ?_
              refine d_pure [(3, _)] rfl rfl ⟨⟨rfl, rfl⟩, trivial⟩ rfl (p_move rfl) ?_
              refine d_pure [(7, _)] rfl rfl ⟨⟨rfl, rfl⟩, trivial⟩ rfl (p_move rfl) ?_
              first | refine d_pure [(50, _), (51, _)] rfl rfl ⟨⟨rfl, rfl⟩, ⟨rfl, rfl⟩, trivial⟩ rfl (p_idx_sl rfl rfl Try.e22 Try.c9 (by first | assumption | (refine ⟨by omega, ?_⟩; first | assumption | exact strs_at (by omega) | exact strs_at (by simp only [List.length_cons] at *; omega) | exact ints_at (by omega) | exact list_at (by omega)))) ?_ | refine d_pure [(50, _), (51, _)] rfl rfl ⟨⟨rfl, rfl⟩, ⟨rfl, rfl⟩, trivial⟩ rfl (p_idx_own rfl rfl Try.e22 Try.c9 (by omega)) ?_
              first | refine d_pure [(52, _)] rfl rfl ⟨⟨rfl, rfl⟩, trivial⟩ rfl (p_load1 rfl Try.g9 rfl) ?_ | refine d_pure [(52, _)] rfl rfl ⟨⟨rfl, rfl⟩, trivial⟩ rfl (p_load1r rfl Try.g9 rfl rfl) ?_ | refine d_pure [(52, _)] rfl rfl ⟨⟨rfl, rfl⟩, trivial⟩ rfl (p_load1r rfl Try.g9 rfl (strs_ref (by simp only [List.length_cons] at *; omega))) ?_ | refine d_pure [(52, _)] rfl rfl ⟨⟨rfl, rfl⟩, trivial⟩ rfl (p_load1r rfl Try.g9 rfl (strs_ref (by omega))) ?_
              refine d_pure [(49, _), (53, _)] rfl rfl ⟨⟨rfl, rfl⟩, ⟨rfl, rfl⟩, trivial⟩ rfl (p_bin rfl rfl rfl) ?_
              refine lex_end (sl' := [(0, _), (3, _), (5, _), (42, _), (43, _), (54, _)]) rfl ⟨rfl, rfl, rfl, rfl, rfl, rfl, trivial⟩ rfl ?_
              refine hK22 _ ?_
              refine aw_cond_s rfl (fun hc6 => ?_) (fun hc6 => ?_)
              ·
                try simp only [Bool.not_eq_true', Bool.not_eq_false', Bool.not_true, Bool.not_false, Bool.not_not, decide_eq_true_eq, decide_eq_false_iff_not, beq_iff_eq, beq_eq_false_iff_ne, bne_iff_ne, bne_eq_false_iff_eq, ne_eq, Int.not_lt, Int.not_le, Nat.not_lt, Nat.not_le, gt_iff_lt, ge_iff_le, Bool.and_eq_true, Bool.or_eq_true, Int.ofNat_lt, Int.ofNat_le, Int.natCast_inj, strs_len, ints_len, List.length_cons, List.length_nil] at hc6
                simp_all
              ·
                try simp only [Bool.not_eq_true', Bool.not_eq_false', Bool.not_true, Bool.not_false, Bool.not_not, decide_eq_true_eq, decide_eq_false_iff_not, beq_iff_eq, beq_eq_false_iff_ne, bne_iff_ne, bne_eq_false_iff_eq, ne_eq, Int.not_lt, Int.not_le, Nat.not_lt, Nat.not_le, gt_iff_lt, ge_iff_le, Bool.and_eq_true, Bool.or_eq_true, Int.ofNat_lt, Int.ofNat_le, Int.natCast_inj, strs_len, ints_len, List.length_cons, List.length_nil] at hc6
                refine aw_skip ?_
                refine hK20 _ ?_
                refine aw_region ?_
                first | refine x_pure rfl (p_add rfl rfl (by omega) (by omega)) ?_ | refine x_pure rfl (p_bin rfl rfl rfl) ?_
                refine x_pure rfl (p_move rfl) ?_
                first | refine aops_end ?_ | refine aops_nil ?_
                exact ⟨k+1, (by (try simp only [List.length_cons, List.length_nil] at *); omega), (by (try simp only [List.length_cons, List.length_nil] at *); omega), le_of ⟨rfl, rfl, rfl, rfl, rfl, trivial⟩⟩
            ·
              try simp only [Bool.not_eq_true', Bool.not_eq_false', Bool.not_true, Bool.not_false, Bool.not_not, decide_eq_true_eq, decide_eq_false_iff_not, beq_iff_eq, beq_eq_false_iff_ne, bne_iff_ne, bne_eq_false_iff_eq, ne_eq, Int.not_lt, Int.not_le, Nat.not_lt, Nat.not_le, gt_iff_lt, ge_iff_le, Bool.and_eq_true, Bool.or_eq_true, Int.ofNat_lt, Int.ofNat_le, Int.natCast_inj, strs_len, ints_len, List.length_cons, List.length_nil] at hc5
              refine aw_exit ?_
              refine hK16 _ ?_
              refine aw_seq_k (fun K23 hK23 => ?_)
              refine aw_region ?_
              refine x_pure rfl (p_move rfl) ?_
              refine x_step hf rfl (r_call rfl rfl Try.ent17 rfl (leastNil_den)) ?_
              refine x_pure rfl (p_move rfl) ?_
              refine x_pure rfl (p_extract rfl rfl) ?_
              refine x_pure rfl (p_extract rfl rfl) ?_
              refine x_pure rfl (p_assign rfl) ?_
              refine x_pure rfl (p_assign rfl) ?_
              first | refine aops_end ?_ | refine aops_nil ?_
              refine hK23 _ ?_
              refine aw_seq_k (fun K24 hK24 => ?_)
              refine aw_region ?_
              refine x_step hf rfl (r_call rfl rfl Try.ent10 rfl (alive_den)) ?_
              refine x_pure rfl (p_move rfl) ?_
              refine x_guard_t rfl rfl rfl ?_
              refine x_pure rfl (p_move rfl) ?_
              refine x_guard_t rfl rfl rfl ?_
              refine x_pure rfl (p_move rfl) ?_
              refine x_guard_t rfl rfl rfl ?_
              first | refine x_pure rfl (p_len_sl rfl Try.e22) ?_ | refine x_pure rfl (p_len_own rfl Try.e22) ?_
              refine x_guard_t rfl rfl rfl ?_
              refine x_pure rfl (p_bin rfl rfl rfl) ?_
              refine x_guard_t rfl rfl rfl ?_
              refine x_pure rfl (p_bin rfl rfl rfl) ?_
              refine x_pure rfl (p_pick_t rfl rfl) ?_
              refine x_pure rfl (p_move rfl) ?_
              refine y_guard_s rfl rfl rfl (fun hg7 => ?_) (fun hg7 => ?_)
              ·
                try simp only [Bool.not_eq_true', Bool.not_eq_false', Bool.not_true, Bool.not_false, Bool.not_not, decide_eq_true_eq, decide_eq_false_iff_not, beq_iff_eq, beq_eq_false_iff_ne, bne_iff_ne, bne_eq_false_iff_eq, ne_eq, Int.not_lt, Int.not_le, Nat.not_lt, Nat.not_le, gt_iff_lt, ge_iff_le, Bool.and_eq_true, Bool.or_eq_true, Int.ofNat_lt, Int.ofNat_le, Int.natCast_inj, strs_len, ints_len, List.length_cons, List.length_nil] at hg7
                refine x_pure rfl (p_move rfl) ?_
                refine x_guard_t rfl rfl rfl ?_
                refine x_pure rfl (p_not rfl) ?_
                refine x_guard_t rfl rfl rfl ?_
                refine x_pure rfl (p_move rfl) ?_
                refine x_guard_t rfl rfl rfl ?_
                refine x_pure rfl (p_move rfl) ?_
                refine x_guard_t rfl rfl rfl ?_
                refine x_pure rfl (p_bin rfl rfl (streq_t _)) ?_
                refine x_guard_t rfl rfl rfl ?_
                refine x_pure rfl (p_pick_t rfl rfl) ?_
                refine x_guard_t rfl rfl rfl ?_
                refine x_pure rfl (p_move rfl) ?_
                refine x_guard_f rfl rfl rfl ?_
                refine x_guard_f rfl rfl rfl ?_
                refine x_guard_u rfl rfl rfl ?_
                refine x_guard_u rfl rfl rfl ?_
                refine x_guard_u rfl rfl rfl ?_
                refine x_guard_u rfl rfl rfl ?_
                refine x_guard_u rfl rfl rfl ?_
                refine x_guard_f rfl rfl rfl ?_
                refine x_guard_t rfl rfl rfl ?_
                refine x_pure rfl (p_pick_t rfl rfl) ?_
                refine x_pure rfl (p_pick_t rfl rfl) ?_
                refine x_pure rfl (p_assign rfl) ?_
                first | refine aops_end ?_ | refine aops_nil ?_
                refine hK24 _ ?_
                refine aw_ret ?_
                refine ⟨_, rfl, ?_⟩
                first | rfl | (refine ret_bool ?_; simp)
              ·
                try simp only [Bool.not_eq_true', Bool.not_eq_false', Bool.not_true, Bool.not_false, Bool.not_not, decide_eq_true_eq, decide_eq_false_iff_not, beq_iff_eq, beq_eq_false_iff_ne, bne_iff_ne, bne_eq_false_iff_eq, ne_eq, Int.not_lt, Int.not_le, Nat.not_lt, Nat.not_le, gt_iff_lt, ge_iff_le, Bool.and_eq_true, Bool.or_eq_true, Int.ofNat_lt, Int.ofNat_le, Int.natCast_inj, strs_len, ints_len, List.length_cons, List.length_nil] at hg7
                exfalso
                clear h0 hl2
                first | omega | (simp at hg7; done) | (simp at hg7; omega)

theorem nameSorts_den (l : List ByteArray) (hl : TL l) : Den Try.prog 5 [.sl 1 (strs l)] (· = .s (.bool true)) := by
  cases l with
  | nil => exact nameSortsNil_den
  | cons x xs => exact nameSortsCons_den x xs hl.1 hl.2
end Go.Proofs.Ytpicjibfbghonaa
