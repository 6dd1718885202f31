import Derived.Test.YtpblgmhljnfabaaW8
import Derived.Test.YtpblgmhljnfabaaS3
set_option linter.unusedVariables false
set_option linter.unusedSimpArgs false
namespace Go.Proofs.Ytpblgmhljnfabaa
open Go Go.Abs

theorem sameT_den (a b : List Sp) (h : a = b) (ha : a.length ≤ 9223372036854775807) : Den Try.prog 21 [.sl 2 (a.map spC), .sl 2 (b.map spC)] (· = .s (.bool true)) := by
  subst h
  exact (same7_den a a ha ha).mono fun r h => h.trans (by simp)
theorem refSameT_den (a b : List Sp) (h : a = b) (ha : a.length ≤ 9223372036854775807) : Den Try.prog 18 [.sl 2 (a.map spC), .sl 2 (b.map spC)] (· = .s (.bool true)) := by
  subst h
  exact (same_den a a ha ha).mono fun r h => h.trans (by simp)
theorem joinT_den (a b : List Sp) (h : (a.length + b.length) * 16 ≤ 140737488355328) : Den Try.prog 20 [.sl 1 [[.sl 2 (a.map spC)], [.sl 2 (b.map spC)]]] (· = .sl 2 (normL (List.flatten [a, b]) |>.map spC)) :=
  join_den [a, b] (by simp) (by simp; omega)

set_option maxHeartbeats 2000000 in
theorem spanNorm_den (l : List Sp) (hl : l.length ≤ 9223372036854775807)  : Den Try.prog 4 [.sl 2 (l.map spC)]  (· = .s (.bool true)) := by
  refine den_of_aw Try.func4 rfl (Nat.le_of_ble_eq_true rfl) (fun w0 A hf => ?_)
  refine aw_seq_k (fun K1 hK1 => ?_)
  refine aw_region ?_
  refine x_pure rfl (p_assign_bad) ?_
  first | refine aops_end ?_ | refine aops_nil ?_
  refine hK1 _ ?_
  refine aw_seq_k (fun K2 hK2 => ?_)
  refine aw_seq_k (fun K3 hK3 => ?_)
  refine aw_region ?_
  refine x_pure rfl (p_move rfl) ?_
  first | refine x_pure rfl (p_len_sl rfl Try.e29) ?_ | refine x_pure rfl (p_len_own rfl Try.e29) ?_ | refine x_pure rfl (p_len_nil rfl Try.e29) ?_
  refine x_pure rfl (p_bin rfl rfl rfl) ?_
  first | refine aops_end ?_ | refine aops_nil ?_
  refine hK3 _ ?_
  refine aw_cond_s rfl (fun hc1 => ?_) (fun hc1 => ?_)
  ·
    try simp only [Bool.not_eq_true', Bool.not_eq_false', Bool.not_true, Bool.not_false, Bool.not_not, decide_eq_true_eq, decide_eq_false_iff_not, beq_iff_eq, beq_eq_false_iff_ne, bne_iff_ne, bne_eq_false_iff_eq, ne_eq, Int.not_lt, Int.not_le, Nat.not_lt, Nat.not_le, gt_iff_lt, ge_iff_le, Bool.and_eq_true, Bool.or_eq_true, Int.ofNat_lt, Int.ofNat_le, Int.natCast_inj, List.length_map, List.length_cons, List.length_nil, List.length_append] at hc1
    refine aw_seq_k (fun K4 hK4 => ?_)
    refine aw_region ?_
    refine x_step hf rfl (r_call rfl rfl Try.ent12 rfl (alive_den)) ?_
    refine x_pure rfl (p_assign rfl) ?_
    first | refine aops_end ?_ | refine aops_nil ?_
    refine hK4 _ ?_
    refine aw_ret ?_
    refine ⟨_, rfl, ?_⟩
    rfl
  ·
    try simp only [Bool.not_eq_true', Bool.not_eq_false', Bool.not_true, Bool.not_false, Bool.not_not, decide_eq_true_eq, decide_eq_false_iff_not, beq_iff_eq, beq_eq_false_iff_ne, bne_iff_ne, bne_eq_false_iff_eq, ne_eq, Int.not_lt, Int.not_le, Nat.not_lt, Nat.not_le, gt_iff_lt, ge_iff_le, Bool.and_eq_true, Bool.or_eq_true, Int.ofNat_lt, Int.ofNat_le, Int.natCast_inj, List.length_map, List.length_cons, List.length_nil, List.length_append] at hc1
    refine aw_skip ?_
    refine hK2 _ ?_
    refine aw_seq_k (fun K5 hK5 => ?_)
    refine aw_region ?_
    refine x_pure rfl (p_move rfl) ?_
    refine x_step hf rfl (r_call rfl rfl Try.ent15 rfl (news_den _ (by omega))) ?_
    refine x_pure rfl (p_assign rfl) ?_
    first | refine aops_end ?_ | refine aops_nil ?_
    refine hK5 _ ?_
    refine aw_seq_k (fun K6 hK6 => ?_)
    refine aw_region ?_
    have hnl := norm_len l
    have hN := (norm_spec l).1
    refine x_pure rfl (p_move rfl) ?_
    refine x_step hf rfl (r_call rfl rfl Try.ent17 rfl (norm_den _ (by omega))) ?_
    refine x_step hf rfl (r_call rfl rfl Try.ent16 rfl (olds_den _ (by omega))) ?_
    refine x_pure rfl (p_assign rfl) ?_
    first | refine aops_end ?_ | refine aops_nil ?_
    refine hK6 _ ?_
    refine aw_seq_k (fun K7 hK7 => ?_)
    refine aw_seq_k (fun K8 hK8 => ?_)
    refine aw_region ?_
    refine x_pure rfl (p_move rfl) ?_
    first | refine x_pure rfl (p_len_sl rfl Try.e29) ?_ | refine x_pure rfl (p_len_own rfl Try.e29) ?_ | refine x_pure rfl (p_len_nil rfl Try.e29) ?_
    refine x_pure rfl (p_move rfl) ?_
    first | refine aops_end ?_ | refine aops_nil ?_
    refine hK8 _ ?_
    refine aw_block ?_
    refine aw_loop (ι := Nat) (fun k => ⟨57, [(0, .sl 2 (l.map spC)), (3, .sl 2 (l.map spC)), (4, .sl 2 ((normL l).map spC)), (16, .sl 2 ((normL l).map spC)), (17, .s (.int .i64 (((normL l).map spC).length : Nat))), (18, .s (.int .i64 (k : Nat)))], []⟩) (fun k => k ≤ (normL l).length) (fun k => (normL l).length - k) 0 ?_ ?_ ?_
    · exact Nat.zero_le _
    · exact le_of ⟨rfl, rfl, rfl, rfl, rfl, rfl, trivial⟩
    ·
      rintro k hC
      refine aw_seq_k (fun K9 hK9 => ?_)
      refine aw_region ?_
      refine x_pure rfl (p_bin rfl rfl rfl) ?_
      first | refine aops_end ?_ | refine aops_nil ?_
      refine hK9 _ ?_
      refine aw_seq_k (fun K10 hK10 => ?_)
      refine aw_cond_s rfl (fun hc2 => ?_) (fun hc2 => ?_)
      ·
        try simp only [Bool.not_eq_true', Bool.not_eq_false', Bool.not_true, Bool.not_false, Bool.not_not, decide_eq_true_eq, decide_eq_false_iff_not, beq_iff_eq, beq_eq_false_iff_ne, bne_iff_ne, bne_eq_false_iff_eq, ne_eq, Int.not_lt, Int.not_le, Nat.not_lt, Nat.not_le, gt_iff_lt, ge_iff_le, Bool.and_eq_true, Bool.or_eq_true, Int.ofNat_lt, Int.ofNat_le, Int.natCast_inj, List.length_map, List.length_cons, List.length_nil, List.length_append] at hc2
        refine aw_skip ?_
        refine hK10 _ ?_
        refine aw_seq_k (fun K11 hK11 => ?_)
        refine aw_block ?_
        refine aw_seq_k (fun K12 hK12 => ?_)
        refine aw_region ?_
        refine x_pure rfl (p_move rfl) ?_
        first | refine x_pure rfl (p_idx_sl rfl rfl Try.e29 Try.c23 (by first | assumption | (refine ⟨by omega, ?_⟩; first | assumption | exact strs_at (by omega) | exact strs_at (by simp only [List.length_cons] at *; omega) | exact ints_at (by omega) | exact map_at (by omega) | exact list_at (by omega)) | exact ⟨by decide, rfl⟩)) ?_ | refine x_pure rfl (p_idx_own rfl rfl Try.e29 Try.c23 (by omega)) ?_
        first | refine x_pure rfl (p_loads rfl Try.g23 Try.c23 rfl rfl) ?_ | refine x_pure rfl (p_loadsr rfl Try.g23 Try.c23 rfl rfl rfl) ?_
        refine x_alloc hf rfl rfl rfl Try.z23 ?_
        refine x_pure rfl (p_assign rfl) ?_
        refine x_store hf rfl rfl Try.c23 rfl rfl (by simp [spC, AV.cells, AV.one, Value.oneCell', splice, AV.kill, AV.clean, cleanL, AV.only]) (by simp [spC, AV.cells, AV.leaf, Value.oneCell', splice, AV.kill, AV.clean, cleanL, AV.only]) rfl ?_
        refine aops_le (le_keep (nee 6) (sl' := [(0, _), (3, _), (4, _), (5, _), (6, _), (16, _), (17, _), (18, _)]) (m' := []) ⟨⟨_, rfl, rfl⟩, ⟨_, rfl, rfl⟩, ⟨_, rfl, rfl⟩, ⟨_, rfl, rfl⟩, ⟨_, rfl, rfl⟩, ⟨_, rfl, rfl⟩, ⟨_, rfl, rfl⟩, ⟨_, rfl, rfl⟩, trivial⟩ rfl) ?_
        first | refine aops_end ?_ | refine aops_nil ?_
        refine hK12 _ ?_
        refine aw_seq_k (fun K13 hK13 => ?_)
        refine aw_draw hf Try.mixed (by kernel_rfl) rfl ?_
        first | refine d_pure [(6, _)] rfl rfl ⟨⟨rfl, rfl⟩, trivial⟩ rfl (p_fld_adr rfl Try.fd23_1 Try.c3 rfl) ?_ | refine d_pure [(6, _)] rfl rfl ⟨⟨rfl, rfl⟩, trivial⟩ rfl (p_fld_ref rfl Try.fd23_1 Try.c3 rfl) ?_
        first | refine d_pure [(23, _)] rfl rfl ⟨⟨rfl, rfl⟩, trivial⟩ rfl (p_load1 rfl Try.g3 rfl) ?_ | refine d_pure [(23, _)] rfl rfl ⟨⟨rfl, rfl⟩, trivial⟩ rfl (p_load1r rfl Try.g3 rfl rfl) ?_ | refine d_pure [(23, _)] rfl rfl ⟨⟨rfl, rfl⟩, trivial⟩ rfl (p_load1r rfl Try.g3 rfl (strs_ref (by simp only [List.length_cons] at *; omega))) ?_ | refine d_pure [(23, _)] rfl rfl ⟨⟨rfl, rfl⟩, trivial⟩ rfl (p_load1r rfl Try.g3 rfl (strs_ref (by omega))) ?_
        first | refine d_pure [(6, _)] rfl rfl ⟨⟨rfl, rfl⟩, trivial⟩ rfl (p_fld_adr rfl Try.fd23_0 Try.c3 rfl) ?_ | refine d_pure [(6, _)] rfl rfl ⟨⟨rfl, rfl⟩, trivial⟩ rfl (p_fld_ref rfl Try.fd23_0 Try.c3 rfl) ?_
        first | refine d_pure [(25, _)] rfl rfl ⟨⟨rfl, rfl⟩, trivial⟩ rfl (p_load1 rfl Try.g3 rfl) ?_ | refine d_pure [(25, _)] rfl rfl ⟨⟨rfl, rfl⟩, trivial⟩ rfl (p_load1r rfl Try.g3 rfl rfl) ?_ | refine d_pure [(25, _)] rfl rfl ⟨⟨rfl, rfl⟩, trivial⟩ rfl (p_load1r rfl Try.g3 rfl (strs_ref (by simp only [List.length_cons] at *; omega))) ?_ | refine d_pure [(25, _)] rfl rfl ⟨⟨rfl, rfl⟩, trivial⟩ rfl (p_load1r rfl Try.g3 rfl (strs_ref (by omega))) ?_
        refine d_pure [(24, _), (26, _)] rfl rfl ⟨⟨rfl, rfl⟩, ⟨rfl, rfl⟩, trivial⟩ rfl (p_bin rfl rfl rfl) ?_
        refine d_pure [(27, _)] rfl rfl ⟨⟨rfl, rfl⟩, trivial⟩ rfl (p_move rfl) ?_
        refine d_split 28 false rfl (fun hg3 => ?_) (fun hg3 => ?_)
        ·
          try simp only [Bool.not_eq_true', Bool.not_eq_false', Bool.not_true, Bool.not_false, Bool.not_not, decide_eq_true_eq, decide_eq_false_iff_not, beq_iff_eq, beq_eq_false_iff_ne, bne_iff_ne, bne_eq_false_iff_eq, ne_eq, Int.not_lt, Int.not_le, Nat.not_lt, Nat.not_le, gt_iff_lt, ge_iff_le, Bool.and_eq_true, Bool.or_eq_true, Int.ofNat_lt, Int.ofNat_le, Int.natCast_inj, List.length_map, List.length_cons, List.length_nil, List.length_append] at hg3
          refine d_pure [(5, _)] rfl rfl ⟨⟨rfl, rfl⟩, trivial⟩ rfl (p_move rfl) ?_
          refine d_pure [(29, _)] rfl rfl ⟨⟨rfl, rfl⟩, trivial⟩ rfl (p_bin rfl rfl rfl) ?_
          refine d_pure [(30, _)] rfl rfl ⟨⟨rfl, rfl⟩, trivial⟩ rfl (p_move rfl) ?_
          refine d_split 31 true rfl (fun hg4 => ?_) (fun hg4 => ?_)
          ·
            try simp only [Bool.not_eq_true', Bool.not_eq_false', Bool.not_true, Bool.not_false, Bool.not_not, decide_eq_true_eq, decide_eq_false_iff_not, beq_iff_eq, beq_eq_false_iff_ne, bne_iff_ne, bne_eq_false_iff_eq, ne_eq, Int.not_lt, Int.not_le, Nat.not_lt, Nat.not_le, gt_iff_lt, ge_iff_le, Bool.and_eq_true, Bool.or_eq_true, Int.ofNat_lt, Int.ofNat_le, Int.natCast_inj, List.length_map, List.length_cons, List.length_nil, List.length_append] at hg4
            first | refine d_pure [(6, _)] rfl rfl ⟨⟨rfl, rfl⟩, trivial⟩ rfl (p_fld_adr rfl Try.fd23_0 Try.c3 rfl) ?_ | refine d_pure [(6, _)] rfl rfl ⟨⟨rfl, rfl⟩, trivial⟩ rfl (p_fld_ref rfl Try.fd23_0 Try.c3 rfl) ?_
            first | refine d_pure [(32, _)] rfl rfl ⟨⟨rfl, rfl⟩, trivial⟩ rfl (p_load1 rfl Try.g3 rfl) ?_ | refine d_pure [(32, _)] rfl rfl ⟨⟨rfl, rfl⟩, trivial⟩ rfl (p_load1r rfl Try.g3 rfl rfl) ?_ | refine d_pure [(32, _)] rfl rfl ⟨⟨rfl, rfl⟩, trivial⟩ rfl (p_load1r rfl Try.g3 rfl (strs_ref (by simp only [List.length_cons] at *; omega))) ?_ | refine d_pure [(32, _)] rfl rfl ⟨⟨rfl, rfl⟩, trivial⟩ rfl (p_load1r rfl Try.g3 rfl (strs_ref (by omega))) ?_
            refine d_pure [(4, _)] rfl rfl ⟨⟨rfl, rfl⟩, trivial⟩ rfl (p_move rfl) ?_
            refine d_pure [(5, _)] rfl rfl ⟨⟨rfl, rfl⟩, trivial⟩ rfl (p_move rfl) ?_
            first | refine d_pure [(35, _)] rfl rfl ⟨⟨rfl, rfl⟩, trivial⟩ rfl (p_sub rfl rfl (by omega) (by omega)) ?_ | refine d_pure [(35, _)] rfl rfl ⟨⟨rfl, rfl⟩, trivial⟩ rfl (p_bin rfl rfl rfl) ?_
            refine d_pure [(34, _), (36, _)] rfl rfl ⟨⟨rfl, rfl⟩, ⟨rfl, rfl⟩, trivial⟩ rfl (p_idx_sl rfl rfl Try.e29 Try.c23 (map_atZ (k := k - 1) (by omega) (by omega))) ?_
            first | refine d_pure [(37, _)] rfl rfl ⟨⟨rfl, rfl⟩, trivial⟩ rfl (p_fld_adr rfl Try.fd23_1 Try.c3 rfl) ?_ | refine d_pure [(37, _)] rfl rfl ⟨⟨rfl, rfl⟩, trivial⟩ rfl (p_fld_ref rfl Try.fd23_1 Try.c3 rfl) ?_
            first | refine d_pure [(38, _)] rfl rfl ⟨⟨rfl, rfl⟩, trivial⟩ rfl (p_load1 rfl Try.g3 rfl) ?_ | refine d_pure [(38, _)] rfl rfl ⟨⟨rfl, rfl⟩, trivial⟩ rfl (p_load1r rfl Try.g3 rfl rfl) ?_ | refine d_pure [(38, _)] rfl rfl ⟨⟨rfl, rfl⟩, trivial⟩ rfl (p_load1r rfl Try.g3 rfl (strs_ref (by simp only [List.length_cons] at *; omega))) ?_ | refine d_pure [(38, _)] rfl rfl ⟨⟨rfl, rfl⟩, trivial⟩ rfl (p_load1r rfl Try.g3 rfl (strs_ref (by omega))) ?_
            refine d_pure [(33, _), (39, _)] rfl rfl ⟨⟨rfl, rfl⟩, ⟨rfl, rfl⟩, trivial⟩ rfl (p_bin rfl rfl rfl) ?_
            refine d_pure [(31, _), (40, _)] rfl rfl ⟨⟨rfl, rfl⟩, ⟨rfl, rfl⟩, trivial⟩ rfl (p_pick_t rfl rfl) ?_
            refine d_pure [(28, _), (41, _)] rfl rfl ⟨⟨rfl, rfl⟩, ⟨rfl, rfl⟩, trivial⟩ rfl (p_pick_f rfl rfl) ?_
            refine lex_end (sl' := [(0, _), (3, _), (4, _), (16, _), (17, _), (18, _), (42, _)]) rfl ⟨rfl, rfl, rfl, rfl, rfl, rfl, rfl, trivial⟩ rfl ?_
            refine hK13 _ ?_
            refine aw_cond_s rfl (fun hc5 => ?_) (fun hc5 => ?_)
            ·
              try simp only [Bool.not_eq_true', Bool.not_eq_false', Bool.not_true, Bool.not_false, Bool.not_not, decide_eq_true_eq, decide_eq_false_iff_not, beq_iff_eq, beq_eq_false_iff_ne, bne_iff_ne, bne_eq_false_iff_eq, ne_eq, Int.not_lt, Int.not_le, Nat.not_lt, Nat.not_le, gt_iff_lt, ge_iff_le, Bool.and_eq_true, Bool.or_eq_true, Int.ofNat_lt, Int.ofNat_le, Int.natCast_inj, List.length_map, List.length_cons, List.length_nil, List.length_append] at hc5
              exfalso
              have hpos := hN.1 _ (List.getElem_mem (show k < (normL l).length by omega))
              first | omega | (have hap := List.pairwise_iff_getElem.1 hN.2 (k - 1) k (by omega) (by omega) (by omega); omega)
            ·
              try simp only [Bool.not_eq_true', Bool.not_eq_false', Bool.not_true, Bool.not_false, Bool.not_not, decide_eq_true_eq, decide_eq_false_iff_not, beq_iff_eq, beq_eq_false_iff_ne, bne_iff_ne, bne_eq_false_iff_eq, ne_eq, Int.not_lt, Int.not_le, Nat.not_lt, Nat.not_le, gt_iff_lt, ge_iff_le, Bool.and_eq_true, Bool.or_eq_true, Int.ofNat_lt, Int.ofNat_le, Int.natCast_inj, List.length_map, List.length_cons, List.length_nil, List.length_append] at hc5
              refine aw_skip ?_
              refine hK11 _ ?_
              refine aw_region ?_
              first | refine x_pure rfl (p_add rfl rfl (by omega) (by omega)) ?_ | refine x_pure rfl (p_bin rfl rfl rfl) ?_
              refine x_pure rfl (p_move rfl) ?_
              first | refine aops_end ?_ | refine aops_nil ?_
              exact ⟨k+1, (by omega), by omega, le_of ⟨rfl, rfl, rfl, rfl, rfl, rfl, trivial⟩⟩
          ·
            try simp only [Bool.not_eq_true', Bool.not_eq_false', Bool.not_true, Bool.not_false, Bool.not_not, decide_eq_true_eq, decide_eq_false_iff_not, beq_iff_eq, beq_eq_false_iff_ne, bne_iff_ne, bne_eq_false_iff_eq, ne_eq, Int.not_lt, Int.not_le, Nat.not_lt, Nat.not_le, gt_iff_lt, ge_iff_le, Bool.and_eq_true, Bool.or_eq_true, Int.ofNat_lt, Int.ofNat_le, Int.natCast_inj, List.length_map, List.length_cons, List.length_nil, List.length_append] at hg4
            refine d_skip rfl rfl ?_
            refine d_skip rfl rfl ?_
            refine d_skip rfl rfl ?_
            refine d_skip rfl rfl ?_
            refine d_skip rfl rfl ?_
            refine d_skip rfl rfl ?_
            refine d_skip rfl rfl ?_
            refine d_skip rfl rfl ?_
            refine d_skip rfl rfl ?_
            refine d_pure [(31, _), (40, _)] rfl rfl ⟨⟨rfl, rfl⟩, ⟨rfl, rfl⟩, trivial⟩ rfl (p_pick_f rfl rfl) ?_
            refine d_pure [(28, _), (41, _)] rfl rfl ⟨⟨rfl, rfl⟩, ⟨rfl, rfl⟩, trivial⟩ rfl (p_pick_f rfl rfl) ?_
            refine lex_end (sl' := [(0, _), (3, _), (4, _), (16, _), (17, _), (18, _), (42, _)]) rfl ⟨rfl, rfl, rfl, rfl, rfl, rfl, rfl, trivial⟩ rfl ?_
            refine hK13 _ ?_
            refine aw_cond_f rfl ?_
            refine aw_skip ?_
            refine hK11 _ ?_
            refine aw_region ?_
            first | refine x_pure rfl (p_add rfl rfl (by omega) (by omega)) ?_ | refine x_pure rfl (p_bin rfl rfl rfl) ?_
            refine x_pure rfl (p_move rfl) ?_
            first | refine aops_end ?_ | refine aops_nil ?_
            exact ⟨k+1, (by omega), by omega, le_of ⟨rfl, rfl, rfl, rfl, rfl, rfl, trivial⟩⟩
        ·
          try simp only [Bool.not_eq_true', Bool.not_eq_false', Bool.not_true, Bool.not_false, Bool.not_not, decide_eq_true_eq, decide_eq_false_iff_not, beq_iff_eq, beq_eq_false_iff_ne, bne_iff_ne, bne_eq_false_iff_eq, ne_eq, Int.not_lt, Int.not_le, Nat.not_lt, Nat.not_le, gt_iff_lt, ge_iff_le, Bool.and_eq_true, Bool.or_eq_true, Int.ofNat_lt, Int.ofNat_le, Int.natCast_inj, List.length_map, List.length_cons, List.length_nil, List.length_append] at hg3
          refine d_skip rfl rfl ?_
          refine d_skip rfl rfl ?_
          refine d_skip rfl rfl ?_
          refine d_skip rfl rfl ?_
          refine d_skip rfl rfl ?_
          refine d_skip rfl rfl ?_
          refine d_skip rfl rfl ?_
          refine d_skip rfl rfl ?_
          refine d_skip rfl rfl ?_
          refine d_skip rfl rfl ?_
          refine d_skip rfl rfl ?_
          refine d_skip rfl rfl ?_
          refine d_skip rfl rfl ?_
          refine d_pure [(28, _), (41, _)] rfl rfl ⟨⟨rfl, rfl⟩, ⟨rfl, rfl⟩, trivial⟩ rfl (p_pick_t rfl rfl) ?_
          refine lex_end (sl' := [(0, _), (3, _), (4, _), (16, _), (17, _), (18, _), (42, _)]) rfl ⟨rfl, rfl, rfl, rfl, rfl, rfl, rfl, trivial⟩ rfl ?_
          refine hK13 _ ?_
          exfalso
          have hpos := hN.1 _ (List.getElem_mem (show k < (normL l).length by omega))
          first | omega | (have hap := List.pairwise_iff_getElem.1 hN.2 (k - 1) k (by omega) (by omega) (by omega); omega)
      ·
        try simp only [Bool.not_eq_true', Bool.not_eq_false', Bool.not_true, Bool.not_false, Bool.not_not, decide_eq_true_eq, decide_eq_false_iff_not, beq_iff_eq, beq_eq_false_iff_ne, bne_iff_ne, bne_eq_false_iff_eq, ne_eq, Int.not_lt, Int.not_le, Nat.not_lt, Nat.not_le, gt_iff_lt, ge_iff_le, Bool.and_eq_true, Bool.or_eq_true, Int.ofNat_lt, Int.ofNat_le, Int.natCast_inj, List.length_map, List.length_cons, List.length_nil, List.length_append] at hc2
        refine aw_exit ?_
        refine hK7 _ ?_
        refine aw_seq_k (fun K14 hK14 => ?_)
        refine aw_region ?_
        refine x_step hf rfl (r_call rfl rfl Try.ent12 rfl (alive_den)) ?_
        refine x_pure rfl (p_move rfl) ?_
        refine x_guard_t rfl rfl rfl ?_
        refine x_pure rfl (p_move rfl) ?_
        refine x_guard_t rfl rfl rfl ?_
        refine x_pure rfl (p_move rfl) ?_
        refine x_guard_t rfl rfl rfl ?_
        refine x_step hf rfl (r_call rfl rfl Try.ent19 rfl (refNorm_den _ (by omega))) ?_
        refine x_guard_t rfl rfl rfl ?_
        refine x_step hf rfl (r_call rfl rfl Try.ent18 rfl (refSameT_den _ _ (rfl) (by omega))) ?_
        refine x_pure rfl (p_pick_t rfl rfl) ?_
        refine x_pure rfl (p_move rfl) ?_
        refine x_guard_t rfl rfl rfl ?_
        refine x_pure rfl (p_move rfl) ?_
        refine x_guard_t rfl rfl rfl ?_
        refine x_step hf rfl (r_call rfl rfl Try.ent16 rfl (olds_den _ (by omega))) ?_
        refine x_guard_t rfl rfl rfl ?_
        refine x_pure rfl (p_move rfl) ?_
        refine x_guard_t rfl rfl rfl ?_
        refine x_step hf rfl (r_call rfl rfl Try.ent18 rfl (refSameT_den _ _ (rfl) (by omega))) ?_
        refine x_pure rfl (p_pick_t rfl rfl) ?_
        refine x_pure rfl (p_assign rfl) ?_
        first | refine aops_end ?_ | refine aops_nil ?_
        refine hK14 _ ?_
        refine aw_ret ?_
        refine ⟨_, rfl, ?_⟩
        rfl

set_option maxHeartbeats 2000000 in
theorem spanMeets_den (a b : List Sp) (ha : a.length ≤ 9223372036854775807) (hb0 : b.length ≤ 9223372036854775807)  : Den Try.prog 6 [.sl 2 (a.map spC), .sl 2 (b.map spC)]  (· = .s (.bool true)) := by
  refine den_of_aw Try.func6 rfl (Nat.le_of_ble_eq_true rfl) (fun w0 A hf => ?_)
  refine aw_seq_k (fun K1 hK1 => ?_)
  refine aw_region ?_
  refine x_pure rfl (p_assign_bad) ?_
  first | refine aops_end ?_ | refine aops_nil ?_
  refine hK1 _ ?_
  refine aw_seq_k (fun K2 hK2 => ?_)
  refine aw_seq_k (fun K3 hK3 => ?_)
  refine aw_region ?_
  refine x_pure rfl (p_move rfl) ?_
  first | refine x_pure rfl (p_len_sl rfl Try.e29) ?_ | refine x_pure rfl (p_len_own rfl Try.e29) ?_ | refine x_pure rfl (p_len_nil rfl Try.e29) ?_
  refine x_pure rfl (p_bin rfl rfl rfl) ?_
  refine x_pure rfl (p_move rfl) ?_
  refine y_guard_s rfl rfl rfl (fun hg1 => ?_) (fun hg1 => ?_)
  ·
    try simp only [Bool.not_eq_true', Bool.not_eq_false', Bool.not_true, Bool.not_false, Bool.not_not, decide_eq_true_eq, decide_eq_false_iff_not, beq_iff_eq, beq_eq_false_iff_ne, bne_iff_ne, bne_eq_false_iff_eq, ne_eq, Int.not_lt, Int.not_le, Nat.not_lt, Nat.not_le, gt_iff_lt, ge_iff_le, Bool.and_eq_true, Bool.or_eq_true, Int.ofNat_lt, Int.ofNat_le, Int.natCast_inj, List.length_map, List.length_cons, List.length_nil, List.length_append] at hg1
    refine x_pure rfl (p_move rfl) ?_
    refine x_guard_t rfl rfl rfl ?_
    first | refine x_pure rfl (p_len_sl rfl Try.e29) ?_ | refine x_pure rfl (p_len_own rfl Try.e29) ?_ | refine x_pure rfl (p_len_nil rfl Try.e29) ?_
    refine x_guard_t rfl rfl rfl ?_
    refine x_pure rfl (p_bin rfl rfl rfl) ?_
    refine x_pure rfl (p_pick_f rfl rfl) ?_
    first | refine aops_end ?_ | refine aops_nil ?_
    refine hK3 _ ?_
    refine aw_cond_s rfl (fun hc2 => ?_) (fun hc2 => ?_)
    ·
      try simp only [Bool.not_eq_true', Bool.not_eq_false', Bool.not_true, Bool.not_false, Bool.not_not, decide_eq_true_eq, decide_eq_false_iff_not, beq_iff_eq, beq_eq_false_iff_ne, bne_iff_ne, bne_eq_false_iff_eq, ne_eq, Int.not_lt, Int.not_le, Nat.not_lt, Nat.not_le, gt_iff_lt, ge_iff_le, Bool.and_eq_true, Bool.or_eq_true, Int.ofNat_lt, Int.ofNat_le, Int.natCast_inj, List.length_map, List.length_cons, List.length_nil, List.length_append] at hc2
      refine aw_seq_k (fun K4 hK4 => ?_)
      refine aw_region ?_
      refine x_step hf rfl (r_call rfl rfl Try.ent12 rfl (alive_den)) ?_
      refine x_pure rfl (p_assign rfl) ?_
      first | refine aops_end ?_ | refine aops_nil ?_
      refine hK4 _ ?_
      refine aw_ret ?_
      refine ⟨_, rfl, ?_⟩
      rfl
    ·
      try simp only [Bool.not_eq_true', Bool.not_eq_false', Bool.not_true, Bool.not_false, Bool.not_not, decide_eq_true_eq, decide_eq_false_iff_not, beq_iff_eq, beq_eq_false_iff_ne, bne_iff_ne, bne_eq_false_iff_eq, ne_eq, Int.not_lt, Int.not_le, Nat.not_lt, Nat.not_le, gt_iff_lt, ge_iff_le, Bool.and_eq_true, Bool.or_eq_true, Int.ofNat_lt, Int.ofNat_le, Int.natCast_inj, List.length_map, List.length_cons, List.length_nil, List.length_append] at hc2
      refine aw_skip ?_
      refine hK2 _ ?_
      refine aw_seq_k (fun K5 hK5 => ?_)
      refine aw_region ?_
      have hm1 := Nat.mul_le_mul (show a.length ≤ 30 by omega) (show b.length ≤ 30 by omega)
      have hm2 := Nat.mul_comm b.length a.length
      have hml := meet_len a b
      have hml2 := meet_len b a
      have hll := less_len a b
      have hnl := norm_len a
      have hlm := meet_len (lessL a b) b
      have hlm1 := Nat.mul_le_mul (show (lessL a b).length ≤ 120 by omega) (show b.length ≤ 30 by omega)
      refine x_pure rfl (p_move rfl) ?_
      refine x_step hf rfl (r_call rfl rfl Try.ent15 rfl (news_den _ (by omega))) ?_
      refine x_pure rfl (p_move rfl) ?_
      refine x_step hf rfl (r_call rfl rfl Try.ent15 rfl (news_den _ (by omega))) ?_
      refine x_pure rfl (p_assign rfl) ?_
      refine x_pure rfl (p_assign rfl) ?_
      first | refine aops_end ?_ | refine aops_nil ?_
      refine hK5 _ ?_
      refine aw_seq_k (fun K6 hK6 => ?_)
      refine aw_region ?_
      refine x_step hf rfl (r_call rfl rfl Try.ent12 rfl (alive_den)) ?_
      refine x_pure rfl (p_move rfl) ?_
      refine x_guard_t rfl rfl rfl ?_
      refine x_pure rfl (p_move rfl) ?_
      refine x_guard_t rfl rfl rfl ?_
      refine x_pure rfl (p_move rfl) ?_
      refine x_guard_t rfl rfl rfl ?_
      refine x_step hf rfl (r_call rfl rfl Try.ent22 rfl (meet_den _ _ (by omega) (by omega) (by omega))) ?_
      refine x_guard_t rfl rfl rfl ?_
      refine x_step hf rfl (r_call rfl rfl Try.ent16 rfl (olds_den _ (by omega))) ?_
      refine x_guard_t rfl rfl rfl ?_
      refine x_pure rfl (p_move rfl) ?_
      refine x_guard_t rfl rfl rfl ?_
      refine x_pure rfl (p_move rfl) ?_
      refine x_guard_t rfl rfl rfl ?_
      refine x_step hf rfl (r_call rfl rfl Try.ent23 rfl (refMeet_den _ _ (by omega) (by omega))) ?_
      refine x_guard_t rfl rfl rfl ?_
      refine x_step hf rfl (r_call rfl rfl Try.ent18 rfl (refSameT_den _ _ (rfl) (by omega))) ?_
      refine x_pure rfl (p_pick_t rfl rfl) ?_
      refine x_pure rfl (p_move rfl) ?_
      refine x_guard_t rfl rfl rfl ?_
      refine x_pure rfl (p_move rfl) ?_
      refine x_guard_t rfl rfl rfl ?_
      refine x_pure rfl (p_move rfl) ?_
      refine x_guard_t rfl rfl rfl ?_
      refine x_step hf rfl (r_call rfl rfl Try.ent24 rfl (less_den _ _ (by omega))) ?_
      refine x_guard_t rfl rfl rfl ?_
      refine x_step hf rfl (r_call rfl rfl Try.ent16 rfl (olds_den _ (by omega))) ?_
      refine x_guard_t rfl rfl rfl ?_
      refine x_pure rfl (p_move rfl) ?_
      refine x_guard_t rfl rfl rfl ?_
      refine x_pure rfl (p_move rfl) ?_
      refine x_guard_t rfl rfl rfl ?_
      refine x_step hf rfl (r_call rfl rfl Try.ent25 rfl (refLess_den _ _ (by omega) (by omega))) ?_
      refine x_guard_t rfl rfl rfl ?_
      refine x_step hf rfl (r_call rfl rfl Try.ent18 rfl (refSameT_den _ _ (rfl) (by omega))) ?_
      refine x_pure rfl (p_pick_t rfl rfl) ?_
      refine x_pure rfl (p_move rfl) ?_
      refine x_guard_t rfl rfl rfl ?_
      refine x_pure rfl (p_move rfl) ?_
      refine x_guard_t rfl rfl rfl ?_
      refine x_pure rfl (p_move rfl) ?_
      refine x_guard_t rfl rfl rfl ?_
      refine x_step hf rfl (r_call rfl rfl Try.ent22 rfl (meet_den _ _ (by omega) (by omega) (by omega))) ?_
      refine x_guard_t rfl rfl rfl ?_
      refine x_pure rfl (p_move rfl) ?_
      refine x_guard_t rfl rfl rfl ?_
      refine x_pure rfl (p_move rfl) ?_
      refine x_guard_t rfl rfl rfl ?_
      refine x_step hf rfl (r_call rfl rfl Try.ent22 rfl (meet_den _ _ (by omega) (by omega) (by omega))) ?_
      refine x_guard_t rfl rfl rfl ?_
      refine x_step hf rfl (r_call rfl rfl Try.ent21 rfl (sameT_den _ _ (meet_comm a b) (by omega))) ?_
      refine x_pure rfl (p_pick_t rfl rfl) ?_
      refine x_pure rfl (p_move rfl) ?_
      refine x_guard_t rfl rfl rfl ?_
      refine x_pure rfl (p_move rfl) ?_
      refine x_guard_t rfl rfl rfl ?_
      refine x_step hf rfl (r_call rfl rfl Try.ent16 rfl (olds_den _ (by omega))) ?_
      refine x_guard_t rfl rfl rfl ?_
      refine x_pure rfl (p_move rfl) ?_
      refine x_guard_t rfl rfl rfl ?_
      refine x_step hf rfl (r_call rfl rfl Try.ent18 rfl (refSameT_den _ _ (rfl) (by omega))) ?_
      refine x_pure rfl (p_pick_t rfl rfl) ?_
      refine x_pure rfl (p_move rfl) ?_
      refine x_guard_t rfl rfl rfl ?_
      refine x_pure rfl (p_move rfl) ?_
      refine x_guard_t rfl rfl rfl ?_
      refine x_step hf rfl (r_call rfl rfl Try.ent16 rfl (olds_den _ (by omega))) ?_
      refine x_guard_t rfl rfl rfl ?_
      refine x_pure rfl (p_move rfl) ?_
      refine x_guard_t rfl rfl rfl ?_
      refine x_step hf rfl (r_call rfl rfl Try.ent18 rfl (refSameT_den _ _ (rfl) (by omega))) ?_
      refine x_pure rfl (p_pick_t rfl rfl) ?_
      refine x_pure rfl (p_assign rfl) ?_
      first | refine aops_end ?_ | refine aops_nil ?_
      refine hK6 _ ?_
      refine aw_ret ?_
      refine ⟨_, rfl, ?_⟩
      rfl
  ·
    try simp only [Bool.not_eq_true', Bool.not_eq_false', Bool.not_true, Bool.not_false, Bool.not_not, decide_eq_true_eq, decide_eq_false_iff_not, beq_iff_eq, beq_eq_false_iff_ne, bne_iff_ne, bne_eq_false_iff_eq, ne_eq, Int.not_lt, Int.not_le, Nat.not_lt, Nat.not_le, gt_iff_lt, ge_iff_le, Bool.and_eq_true, Bool.or_eq_true, Int.ofNat_lt, Int.ofNat_le, Int.natCast_inj, List.length_map, List.length_cons, List.length_nil, List.length_append] at hg1
    refine x_guard_f rfl rfl rfl ?_
    refine x_guard_f rfl rfl rfl ?_
    refine x_pure rfl (p_pick_t rfl rfl) ?_
    first | refine aops_end ?_ | refine aops_nil ?_
    refine hK3 _ ?_
    refine aw_cond_t rfl ?_
    refine aw_seq_k (fun K7 hK7 => ?_)
    refine aw_region ?_
    refine x_step hf rfl (r_call rfl rfl Try.ent12 rfl (alive_den)) ?_
    refine x_pure rfl (p_assign rfl) ?_
    first | refine aops_end ?_ | refine aops_nil ?_
    refine hK7 _ ?_
    refine aw_ret ?_
    refine ⟨_, rfl, ?_⟩
    rfl
end Go.Proofs.Ytpblgmhljnfabaa
