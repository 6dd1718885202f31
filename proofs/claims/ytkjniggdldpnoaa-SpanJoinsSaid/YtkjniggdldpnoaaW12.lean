import Derived.Test.YtkjniggdldpnoaaW11
import Derived.Test.YtkjniggdldpnoaaS5
set_option linter.unusedVariables false
set_option linter.unusedSimpArgs false
namespace Go.Proofs.Ytkjniggdldpnoaa
open Go Go.Abs

set_option maxRecDepth 20000 in
set_option maxHeartbeats 4000000 in
theorem move_den (l : List Sp) (d : Int) (hl : l.length * 16 ≤ 140737488355328) (hd : -1073741824 ≤ d ∧ d ≤ 1073741824)  : Den Try.prog 27 [.sl 2 (l.map spC), .adr [.s (.int .i64 d)]]  (· = .tup [.sl 2 (mvL d l |>.map spC), .s (.bool (okL l))]) := by
  obtain ⟨hd1, hd2⟩ := hd
  refine den_of_aw Try.func27 rfl (Nat.le_of_ble_eq_true rfl) (fun w0 A hf => ?_)
  refine aw_seq_k (fun K1 hK1 => ?_)
  refine aw_region ?_
  refine x_pure rfl (p_assign_bad) ?_
  refine x_pure rfl (p_assign_bad) ?_
  first | refine aops_end ?_ | refine aops_nil ?_
  refine hK1 _ ?_
  refine aw_seq_k (fun K2 hK2 => ?_)
  refine aw_region ?_
  refine x_nil hf 2 rfl rfl rfl ?_
  first | refine aops_end ?_ | refine aops_nil ?_
  refine hK2 _ ?_
  refine aw_seq_k (fun K3 hK3 => ?_)
  refine aw_seq_k (fun K4 hK4 => ?_)
  refine aw_region ?_
  refine x_pure rfl (p_move rfl) ?_
  first | refine x_pure rfl (p_len_sl rfl Try.e31) ?_ | refine x_pure rfl (p_len_own rfl Try.e31) ?_ | refine x_pure rfl (p_len_nil rfl Try.e31) ?_
  refine x_pure rfl (p_move rfl) ?_
  first | refine aops_end ?_ | refine aops_nil ?_
  refine hK4 _ ?_
  refine aw_block ?_
  refine aw_loop (ι := Nat) (fun k => ⟨46, [(1, .adr [.s (.int .i64 d)]), (5, .own 5 2 0 (moveL d (l.take k)).length), (8, .sl 2 (l.map spC)), (9, .s (.int .i64 ((l.map spC).length : Nat))), (10, .s (.int .i64 (k : Nat)))], [(5, .buf 2 ((moveL d (l.take k)).map spC))]⟩) (fun k => k ≤ l.length ∧ okL (l.take k) = true) (fun k => l.length - k) 0 ?_ ?_ ?_
  · exact ⟨Nat.zero_le _, rfl⟩
  · exact le_of ⟨rfl, rfl, rfl, rfl, rfl, trivial⟩
  ·
    rintro k hC
    obtain ⟨h1, h2⟩ := hC
    have hml := mv_len d (l.take k)
    have htl : (l.take k).length ≤ k := by rw [List.length_take]; omega
    refine aw_seq_k (fun K5 hK5 => ?_)
    refine aw_region ?_
    refine x_pure rfl (p_bin rfl rfl rfl) ?_
    first | refine aops_end ?_ | refine aops_nil ?_
    refine hK5 _ ?_
    refine aw_seq_k (fun K6 hK6 => ?_)
    refine aw_cond_s rfl (fun hc1 => ?_) (fun hc1 => ?_)
    ·
      try simp only [Bool.not_eq_true', Bool.not_eq_false', Bool.not_true, Bool.not_false, Bool.not_not, decide_eq_true_eq, decide_eq_false_iff_not, beq_iff_eq, beq_eq_false_iff_ne, bne_iff_ne, bne_eq_false_iff_eq, ne_eq, Int.not_lt, Int.not_le, Nat.not_lt, Nat.not_le, gt_iff_lt, ge_iff_le, Bool.and_eq_true, Bool.or_eq_true, Int.ofNat_lt, Int.ofNat_le, Int.natCast_inj, List.length_map, List.length_cons, List.length_nil, List.length_append] at hc1
      refine aw_skip ?_
      refine hK6 _ ?_
      refine aw_seq_k (fun K7 hK7 => ?_)
      refine aw_block ?_
      refine aw_seq_k (fun K8 hK8 => ?_)
      refine aw_region ?_
      first | refine x_pure rfl (p_idx_sl rfl rfl Try.e31 Try.c42 (by first | assumption | (refine ⟨by omega, ?_⟩; first | assumption | exact strs_at (by omega) | exact strs_at (by simp only [List.length_cons] at *; omega) | exact ints_at (by omega) | exact map_at (by omega) | exact list_at (by omega)) | exact ⟨by decide, rfl⟩)) ?_ | refine x_pure rfl (p_idx_own rfl rfl Try.e31 Try.c42 (by omega)) ?_
      first | refine x_pure rfl (p_loads rfl Try.g42 Try.c42 rfl rfl) ?_ | refine x_pure rfl (p_loadsr rfl Try.g42 Try.c42 rfl rfl rfl) ?_
      refine x_allocst hf rfl Try.z42 rfl Try.c42 rfl rfl rfl rfl (by simp [spC, AV.cells, AV.leaf, Value.oneCell', splice, AV.kill, AV.clean, cleanL, AV.only]) ?_
      first | refine aops_end ?_ | refine aops_nil ?_
      refine hK8 _ ?_
      refine aw_seq_k (fun K9 hK9 => ?_)
      refine aw_seq_k (fun K10 hK10 => ?_)
      refine aw_region ?_
      first | refine x_pure rfl (p_fld_adr rfl Try.fd42_0 Try.c3 rfl) ?_ | refine x_pure rfl (p_fld_ref rfl Try.fd42_0 Try.c3 rfl) ?_
      first | refine x_pure rfl (p_load1 rfl Try.g3 rfl) ?_ | refine x_pure rfl (p_load1r rfl Try.g3 rfl rfl) ?_ | refine x_pure rfl (p_load1r rfl Try.g3 rfl (strs_ref (by simp only [List.length_cons] at *; omega))) ?_ | refine x_pure rfl (p_load1r rfl Try.g3 rfl (strs_ref (by omega))) ?_
      refine x_pure rfl (p_bin rfl rfl rfl) ?_
      refine x_pure rfl (p_move rfl) ?_
      refine y_guard_s rfl rfl rfl (fun hg2 => ?_) (fun hg2 => ?_)
      ·
        try simp only [Bool.not_eq_true', Bool.not_eq_false', Bool.not_true, Bool.not_false, Bool.not_not, decide_eq_true_eq, decide_eq_false_iff_not, beq_iff_eq, beq_eq_false_iff_ne, bne_iff_ne, bne_eq_false_iff_eq, ne_eq, Int.not_lt, Int.not_le, Nat.not_lt, Nat.not_le, gt_iff_lt, ge_iff_le, Bool.and_eq_true, Bool.or_eq_true, Int.ofNat_lt, Int.ofNat_le, Int.natCast_inj, List.length_map, List.length_cons, List.length_nil, List.length_append] at hg2
        first | refine x_pure rfl (p_fld_adr rfl Try.fd42_0 Try.c3 rfl) ?_ | refine x_pure rfl (p_fld_ref rfl Try.fd42_0 Try.c3 rfl) ?_
        refine x_guard_t rfl rfl rfl ?_
        first | refine x_pure rfl (p_load1 rfl Try.g3 rfl) ?_ | refine x_pure rfl (p_load1r rfl Try.g3 rfl rfl) ?_ | refine x_pure rfl (p_load1r rfl Try.g3 rfl (strs_ref (by simp only [List.length_cons] at *; omega))) ?_ | refine x_pure rfl (p_load1r rfl Try.g3 rfl (strs_ref (by omega))) ?_
        refine x_guard_t rfl rfl rfl ?_
        refine x_pure rfl (p_bin rfl rfl rfl) ?_
        refine x_pure rfl (p_pick_f rfl rfl) ?_
        refine x_pure rfl (p_move rfl) ?_
        refine y_guard_s rfl rfl rfl (fun hg3 => ?_) (fun hg3 => ?_)
        ·
          try simp only [Bool.not_eq_true', Bool.not_eq_false', Bool.not_true, Bool.not_false, Bool.not_not, decide_eq_true_eq, decide_eq_false_iff_not, beq_iff_eq, beq_eq_false_iff_ne, bne_iff_ne, bne_eq_false_iff_eq, ne_eq, Int.not_lt, Int.not_le, Nat.not_lt, Nat.not_le, gt_iff_lt, ge_iff_le, Bool.and_eq_true, Bool.or_eq_true, Int.ofNat_lt, Int.ofNat_le, Int.natCast_inj, List.length_map, List.length_cons, List.length_nil, List.length_append] at hg3
          first | refine x_pure rfl (p_fld_adr rfl Try.fd42_1 Try.c3 rfl) ?_ | refine x_pure rfl (p_fld_ref rfl Try.fd42_1 Try.c3 rfl) ?_
          refine x_guard_t rfl rfl rfl ?_
          first | refine x_pure rfl (p_load1 rfl Try.g3 rfl) ?_ | refine x_pure rfl (p_load1r rfl Try.g3 rfl rfl) ?_ | refine x_pure rfl (p_load1r rfl Try.g3 rfl (strs_ref (by simp only [List.length_cons] at *; omega))) ?_ | refine x_pure rfl (p_load1r rfl Try.g3 rfl (strs_ref (by omega))) ?_
          refine x_guard_t rfl rfl rfl ?_
          refine x_pure rfl (p_bin rfl rfl rfl) ?_
          refine x_pure rfl (p_pick_f rfl rfl) ?_
          refine x_pure rfl (p_move rfl) ?_
          refine y_guard_s rfl rfl rfl (fun hg4 => ?_) (fun hg4 => ?_)
          ·
            try simp only [Bool.not_eq_true', Bool.not_eq_false', Bool.not_true, Bool.not_false, Bool.not_not, decide_eq_true_eq, decide_eq_false_iff_not, beq_iff_eq, beq_eq_false_iff_ne, bne_iff_ne, bne_eq_false_iff_eq, ne_eq, Int.not_lt, Int.not_le, Nat.not_lt, Nat.not_le, gt_iff_lt, ge_iff_le, Bool.and_eq_true, Bool.or_eq_true, Int.ofNat_lt, Int.ofNat_le, Int.natCast_inj, List.length_map, List.length_cons, List.length_nil, List.length_append] at hg4
            first | refine x_pure rfl (p_fld_adr rfl Try.fd42_1 Try.c3 rfl) ?_ | refine x_pure rfl (p_fld_ref rfl Try.fd42_1 Try.c3 rfl) ?_
            refine x_guard_t rfl rfl rfl ?_
            first | refine x_pure rfl (p_load1 rfl Try.g3 rfl) ?_ | refine x_pure rfl (p_load1r rfl Try.g3 rfl rfl) ?_ | refine x_pure rfl (p_load1r rfl Try.g3 rfl (strs_ref (by simp only [List.length_cons] at *; omega))) ?_ | refine x_pure rfl (p_load1r rfl Try.g3 rfl (strs_ref (by omega))) ?_
            refine x_guard_t rfl rfl rfl ?_
            refine x_pure rfl (p_bin rfl rfl rfl) ?_
            refine x_pure rfl (p_pick_f rfl rfl) ?_
            first | refine aops_end ?_ | refine aops_nil ?_
            refine hK10 _ ?_
            refine aw_cond_s rfl (fun hc5 => ?_) (fun hc5 => ?_)
            ·
              try simp only [Bool.not_eq_true', Bool.not_eq_false', Bool.not_true, Bool.not_false, Bool.not_not, decide_eq_true_eq, decide_eq_false_iff_not, beq_iff_eq, beq_eq_false_iff_ne, bne_iff_ne, bne_eq_false_iff_eq, ne_eq, Int.not_lt, Int.not_le, Nat.not_lt, Nat.not_le, gt_iff_lt, ge_iff_le, Bool.and_eq_true, Bool.or_eq_true, Int.ofNat_lt, Int.ofNat_le, Int.natCast_inj, List.length_map, List.length_cons, List.length_nil, List.length_append] at hc5
              refine aw_seq_k (fun K11 hK11 => ?_)
              refine aw_region ?_
              refine x_pure rfl (p_nil (k := 2)) ?_
              refine x_pure rfl (p_assign rfl) ?_
              first | refine aops_end ?_ | refine aops_nil ?_
              refine hK11 _ ?_
              refine aw_ret ?_
              refine ⟨_, rfl, ?_⟩
              rw [mv_f (ok_not (k := k) (by omega) (by omega)), ok_not (k := k) (by omega) (by omega)]; rfl
            ·
              try simp only [Bool.not_eq_true', Bool.not_eq_false', Bool.not_true, Bool.not_false, Bool.not_not, decide_eq_true_eq, decide_eq_false_iff_not, beq_iff_eq, beq_eq_false_iff_ne, bne_iff_ne, bne_eq_false_iff_eq, ne_eq, Int.not_lt, Int.not_le, Nat.not_lt, Nat.not_le, gt_iff_lt, ge_iff_le, Bool.and_eq_true, Bool.or_eq_true, Int.ofNat_lt, Int.ofNat_le, Int.natCast_inj, List.length_map, List.length_cons, List.length_nil, List.length_append] at hc5
              refine aw_skip ?_
              refine hK9 _ ?_
              refine aw_region ?_
              refine x_pure rfl (p_move rfl) ?_
              first | refine x_pure rfl (p_fld_adr rfl Try.fd42_0 Try.c3 rfl) ?_ | refine x_pure rfl (p_fld_ref rfl Try.fd42_0 Try.c3 rfl) ?_
              first | refine x_pure rfl (p_load1 rfl Try.g3 rfl) ?_ | refine x_pure rfl (p_load1r rfl Try.g3 rfl rfl) ?_ | refine x_pure rfl (p_load1r rfl Try.g3 rfl (strs_ref (by simp only [List.length_cons] at *; omega))) ?_ | refine x_pure rfl (p_load1r rfl Try.g3 rfl (strs_ref (by omega))) ?_
              first | refine x_pure rfl (p_load1 rfl Try.g3 rfl) ?_ | refine x_pure rfl (p_load1r rfl Try.g3 rfl rfl) ?_ | refine x_pure rfl (p_load1r rfl Try.g3 rfl (strs_ref (by simp only [List.length_cons] at *; omega))) ?_ | refine x_pure rfl (p_load1r rfl Try.g3 rfl (strs_ref (by omega))) ?_
              first | refine x_pure rfl (p_add rfl rfl (by omega) (by omega)) ?_ | refine x_pure rfl (p_bin rfl rfl rfl) ?_
              first | refine x_pure rfl (p_fld_adr rfl Try.fd42_1 Try.c3 rfl) ?_ | refine x_pure rfl (p_fld_ref rfl Try.fd42_1 Try.c3 rfl) ?_
              first | refine x_pure rfl (p_load1 rfl Try.g3 rfl) ?_ | refine x_pure rfl (p_load1r rfl Try.g3 rfl rfl) ?_ | refine x_pure rfl (p_load1r rfl Try.g3 rfl (strs_ref (by simp only [List.length_cons] at *; omega))) ?_ | refine x_pure rfl (p_load1r rfl Try.g3 rfl (strs_ref (by omega))) ?_
              first | refine x_pure rfl (p_load1 rfl Try.g3 rfl) ?_ | refine x_pure rfl (p_load1r rfl Try.g3 rfl rfl) ?_ | refine x_pure rfl (p_load1r rfl Try.g3 rfl (strs_ref (by simp only [List.length_cons] at *; omega))) ?_ | refine x_pure rfl (p_load1r rfl Try.g3 rfl (strs_ref (by omega))) ?_
              first | refine x_pure rfl (p_add rfl rfl (by omega) (by omega)) ?_ | refine x_pure rfl (p_bin rfl rfl rfl) ?_
              refine x_pure rfl (p_build rfl Try.z43 Try.pl43 (by simp [spC, AV.cells, AV.one, Value.oneCell', splice, AV.kill, AV.clean, cleanL, AV.only]) rfl) ?_
              refine x_step hf rfl (r_buildSlice Try.ap33 rfl rfl rfl rfl (by simp [spC, AV.cells, AV.leaf, Value.oneCell', splice, AV.kill, AV.clean, cleanL, AV.only])) ?_
              refine x_append hf rfl Try.ap33 rfl rfl rfl (.inl rfl) (by rw [List.length_map]) rfl (by first | rfl | simp [asrc, look]) (by first | (simp only [maxLen, List.length_map, List.length_append, List.length_cons, List.length_nil]; omega) | (simp [maxLen] <;> omega)) (by first | (simp only [List.length_map, List.length_append, List.length_cons, List.length_nil]; omega) | (simp <;> omega)) ?_
              refine aops_le (le_of (sl' := [(1, _), (8, _), (9, _), (10, _), (43, _)]) ⟨rfl, rfl, rfl, rfl, rfl, trivial⟩) ?_
              refine x_pure rfl (p_assign rfl) ?_
              first | refine aops_end ?_ | refine aops_nil ?_
              refine hK7 _ ?_
              refine aw_region ?_
              first | refine x_pure rfl (p_add rfl rfl (by omega) (by omega)) ?_ | refine x_pure rfl (p_bin rfl rfl rfl) ?_
              refine x_pure rfl (p_move rfl) ?_
              first | refine aops_end ?_ | refine aops_nil ?_
              exact ⟨k + 1, ⟨by omega, ok_next h2 (by omega) (by omega) (by omega) (by omega) (by omega)⟩, by omega, le_to ⟨rfl, (by rw [mv_next d l k (by omega), List.length_append]; rfl), rfl, rfl, rfl, trivial⟩ (by rw [mv_next d l k (by omega), List.map_append]; rfl)⟩
          ·
            try simp only [Bool.not_eq_true', Bool.not_eq_false', Bool.not_true, Bool.not_false, Bool.not_not, decide_eq_true_eq, decide_eq_false_iff_not, beq_iff_eq, beq_eq_false_iff_ne, bne_iff_ne, bne_eq_false_iff_eq, ne_eq, Int.not_lt, Int.not_le, Nat.not_lt, Nat.not_le, gt_iff_lt, ge_iff_le, Bool.and_eq_true, Bool.or_eq_true, Int.ofNat_lt, Int.ofNat_le, Int.natCast_inj, List.length_map, List.length_cons, List.length_nil, List.length_append] at hg4
            refine x_guard_f rfl rfl rfl ?_
            refine x_guard_f rfl rfl rfl ?_
            refine x_pure rfl (p_pick_t rfl rfl) ?_
            first | refine aops_end ?_ | refine aops_nil ?_
            refine hK10 _ ?_
            refine aw_cond_t rfl ?_
            refine aw_seq_k (fun K12 hK12 => ?_)
            refine aw_region ?_
            refine x_pure rfl (p_nil (k := 2)) ?_
            refine x_pure rfl (p_assign rfl) ?_
            first | refine aops_end ?_ | refine aops_nil ?_
            refine hK12 _ ?_
            refine aw_ret ?_
            refine ⟨_, rfl, ?_⟩
            rw [mv_f (ok_not (k := k) (by omega) (by omega)), ok_not (k := k) (by omega) (by omega)]; rfl
        ·
          try simp only [Bool.not_eq_true', Bool.not_eq_false', Bool.not_true, Bool.not_false, Bool.not_not, decide_eq_true_eq, decide_eq_false_iff_not, beq_iff_eq, beq_eq_false_iff_ne, bne_iff_ne, bne_eq_false_iff_eq, ne_eq, Int.not_lt, Int.not_le, Nat.not_lt, Nat.not_le, gt_iff_lt, ge_iff_le, Bool.and_eq_true, Bool.or_eq_true, Int.ofNat_lt, Int.ofNat_le, Int.natCast_inj, List.length_map, List.length_cons, List.length_nil, List.length_append] at hg3
          refine x_guard_f rfl rfl rfl ?_
          refine x_guard_f rfl rfl rfl ?_
          refine x_pure rfl (p_pick_t rfl rfl) ?_
          refine x_pure rfl (p_move rfl) ?_
          refine x_guard_f rfl rfl rfl ?_
          refine x_guard_f rfl rfl rfl ?_
          refine x_guard_f rfl rfl rfl ?_
          refine x_pure rfl (p_pick_t rfl rfl) ?_
          first | refine aops_end ?_ | refine aops_nil ?_
          refine hK10 _ ?_
          refine aw_cond_t rfl ?_
          refine aw_seq_k (fun K13 hK13 => ?_)
          refine aw_region ?_
          refine x_pure rfl (p_nil (k := 2)) ?_
          refine x_pure rfl (p_assign rfl) ?_
          first | refine aops_end ?_ | refine aops_nil ?_
          refine hK13 _ ?_
          refine aw_ret ?_
          refine ⟨_, rfl, ?_⟩
          rw [mv_f (ok_not (k := k) (by omega) (by omega)), ok_not (k := k) (by omega) (by omega)]; rfl
      ·
        try simp only [Bool.not_eq_true', Bool.not_eq_false', Bool.not_true, Bool.not_false, Bool.not_not, decide_eq_true_eq, decide_eq_false_iff_not, beq_iff_eq, beq_eq_false_iff_ne, bne_iff_ne, bne_eq_false_iff_eq, ne_eq, Int.not_lt, Int.not_le, Nat.not_lt, Nat.not_le, gt_iff_lt, ge_iff_le, Bool.and_eq_true, Bool.or_eq_true, Int.ofNat_lt, Int.ofNat_le, Int.natCast_inj, List.length_map, List.length_cons, List.length_nil, List.length_append] at hg2
        refine x_guard_f rfl rfl rfl ?_
        refine x_guard_f rfl rfl rfl ?_
        refine x_pure rfl (p_pick_t rfl rfl) ?_
        refine x_pure rfl (p_move rfl) ?_
        refine x_guard_f rfl rfl rfl ?_
        refine x_guard_f rfl rfl rfl ?_
        refine x_guard_f rfl rfl rfl ?_
        refine x_pure rfl (p_pick_t rfl rfl) ?_
        refine x_pure rfl (p_move rfl) ?_
        refine x_guard_f rfl rfl rfl ?_
        refine x_guard_f rfl rfl rfl ?_
        refine x_guard_f rfl rfl rfl ?_
        refine x_pure rfl (p_pick_t rfl rfl) ?_
        first | refine aops_end ?_ | refine aops_nil ?_
        refine hK10 _ ?_
        refine aw_cond_t rfl ?_
        refine aw_seq_k (fun K14 hK14 => ?_)
        refine aw_region ?_
        refine x_pure rfl (p_nil (k := 2)) ?_
        refine x_pure rfl (p_assign rfl) ?_
        first | refine aops_end ?_ | refine aops_nil ?_
        refine hK14 _ ?_
        refine aw_ret ?_
        refine ⟨_, rfl, ?_⟩
        rw [mv_f (ok_not (k := k) (by omega) (by omega)), ok_not (k := k) (by omega) (by omega)]; rfl
    ·
      try simp only [Bool.not_eq_true', Bool.not_eq_false', Bool.not_true, Bool.not_false, Bool.not_not, decide_eq_true_eq, decide_eq_false_iff_not, beq_iff_eq, beq_eq_false_iff_ne, bne_iff_ne, bne_eq_false_iff_eq, ne_eq, Int.not_lt, Int.not_le, Nat.not_lt, Nat.not_le, gt_iff_lt, ge_iff_le, Bool.and_eq_true, Bool.or_eq_true, Int.ofNat_lt, Int.ofNat_le, Int.natCast_inj, List.length_map, List.length_cons, List.length_nil, List.length_append] at hc1
      refine aw_exit ?_
      refine hK3 _ ?_
      refine aw_seq_k (fun K15 hK15 => ?_)
      refine aw_region ?_
      refine x_pure rfl (p_move rfl) ?_
      refine x_pure rfl (p_assign rfl) ?_
      refine x_pure rfl (p_assign rfl) ?_
      first | refine aops_end ?_ | refine aops_nil ?_
      refine hK15 _ ?_
      refine aw_ret ?_
      refine ⟨_, rfl, ?_⟩
      have hk : l.take k = l := List.take_of_length_le (by omega)
      rw [hk] at h2
      rw [hk, mv_t h2, h2]
      exact congrArg (fun z => AV.tup [z, .s (.bool true)]) (conv_whole (g := 5) rfl (by rw [List.length_map]))

set_option maxRecDepth 20000 in
set_option maxHeartbeats 4000000 in
theorem spanMoves_den (a b : List Sp) (d : Int) (ha : a.length * 16 ≤ 140737488355328) (hb0 : b.length * 16 ≤ 140737488355328)  : Den Try.prog 5 [.sl 2 (a.map spC), .sl 2 (b.map spC), .s (.int .i64 d)]  (· = .s (.bool true)) := by
  refine den_of_aw Try.func5 rfl (Nat.le_of_ble_eq_true rfl) (fun w0 A hf => ?_)
  refine aw_seq_k (fun K1 hK1 => ?_)
  refine aw_region ?_
  refine x_step hf rfl (r_box rfl rfl (by simp [spC, AV.cells, AV.leaf, Value.oneCell', splice, AV.kill, AV.clean, cleanL, AV.only])) ?_
  refine x_pure rfl (p_assign_bad) ?_
  first | refine aops_end ?_ | refine aops_nil ?_
  refine hK1 _ ?_
  refine aw_seq_k (fun K2 hK2 => ?_)
  refine aw_seq_k (fun K3 hK3 => ?_)
  refine aw_region ?_
  refine x_pure rfl (p_move rfl) ?_
  first | refine x_pure rfl (p_len_sl rfl Try.e31) ?_ | refine x_pure rfl (p_len_own rfl Try.e31) ?_ | refine x_pure rfl (p_len_nil rfl Try.e31) ?_
  refine x_pure rfl (p_bin rfl rfl rfl) ?_
  refine x_pure rfl (p_move rfl) ?_
  refine y_guard_s rfl rfl rfl (fun hg1 => ?_) (fun hg1 => ?_)
  ·
    try simp only [Bool.not_eq_true', Bool.not_eq_false', Bool.not_true, Bool.not_false, Bool.not_not, decide_eq_true_eq, decide_eq_false_iff_not, beq_iff_eq, beq_eq_false_iff_ne, bne_iff_ne, bne_eq_false_iff_eq, ne_eq, Int.not_lt, Int.not_le, Nat.not_lt, Nat.not_le, gt_iff_lt, ge_iff_le, Bool.and_eq_true, Bool.or_eq_true, Int.ofNat_lt, Int.ofNat_le, Int.natCast_inj, List.length_map, List.length_cons, List.length_nil, List.length_append] at hg1
    refine x_pure rfl (p_move rfl) ?_
    refine x_guard_t rfl rfl rfl ?_
    first | refine x_pure rfl (p_len_sl rfl Try.e31) ?_ | refine x_pure rfl (p_len_own rfl Try.e31) ?_ | refine x_pure rfl (p_len_nil rfl Try.e31) ?_
    refine x_guard_t rfl rfl rfl ?_
    refine x_pure rfl (p_bin rfl rfl rfl) ?_
    refine x_pure rfl (p_pick_f rfl rfl) ?_
    refine x_pure rfl (p_move rfl) ?_
    refine y_guard_s rfl rfl rfl (fun hg2 => ?_) (fun hg2 => ?_)
    ·
      try simp only [Bool.not_eq_true', Bool.not_eq_false', Bool.not_true, Bool.not_false, Bool.not_not, decide_eq_true_eq, decide_eq_false_iff_not, beq_iff_eq, beq_eq_false_iff_ne, bne_iff_ne, bne_eq_false_iff_eq, ne_eq, Int.not_lt, Int.not_le, Nat.not_lt, Nat.not_le, gt_iff_lt, ge_iff_le, Bool.and_eq_true, Bool.or_eq_true, Int.ofNat_lt, Int.ofNat_le, Int.natCast_inj, List.length_map, List.length_cons, List.length_nil, List.length_append] at hg2
      first | refine x_pure rfl (p_load1 rfl Try.g3 rfl) ?_ | refine x_pure rfl (p_load1r rfl Try.g3 rfl rfl) ?_ | refine x_pure rfl (p_load1r rfl Try.g3 rfl (strs_ref (by simp only [List.length_cons] at *; omega))) ?_ | refine x_pure rfl (p_load1r rfl Try.g3 rfl (strs_ref (by omega))) ?_
      refine x_guard_t rfl rfl rfl ?_
      refine x_pure rfl (p_bin rfl rfl rfl) ?_
      refine x_pure rfl (p_pick_f rfl rfl) ?_
      refine x_pure rfl (p_move rfl) ?_
      refine y_guard_s rfl rfl rfl (fun hg3 => ?_) (fun hg3 => ?_)
      ·
        try simp only [Bool.not_eq_true', Bool.not_eq_false', Bool.not_true, Bool.not_false, Bool.not_not, decide_eq_true_eq, decide_eq_false_iff_not, beq_iff_eq, beq_eq_false_iff_ne, bne_iff_ne, bne_eq_false_iff_eq, ne_eq, Int.not_lt, Int.not_le, Nat.not_lt, Nat.not_le, gt_iff_lt, ge_iff_le, Bool.and_eq_true, Bool.or_eq_true, Int.ofNat_lt, Int.ofNat_le, Int.natCast_inj, List.length_map, List.length_cons, List.length_nil, List.length_append] at hg3
        first | refine x_pure rfl (p_load1 rfl Try.g3 rfl) ?_ | refine x_pure rfl (p_load1r rfl Try.g3 rfl rfl) ?_ | refine x_pure rfl (p_load1r rfl Try.g3 rfl (strs_ref (by simp only [List.length_cons] at *; omega))) ?_ | refine x_pure rfl (p_load1r rfl Try.g3 rfl (strs_ref (by omega))) ?_
        refine x_guard_t rfl rfl rfl ?_
        refine x_pure rfl (p_bin rfl rfl rfl) ?_
        refine x_pure rfl (p_pick_f rfl rfl) ?_
        first | refine aops_end ?_ | refine aops_nil ?_
        refine hK3 _ ?_
        refine aw_cond_s rfl (fun hc4 => ?_) (fun hc4 => ?_)
        ·
          try simp only [Bool.not_eq_true', Bool.not_eq_false', Bool.not_true, Bool.not_false, Bool.not_not, decide_eq_true_eq, decide_eq_false_iff_not, beq_iff_eq, beq_eq_false_iff_ne, bne_iff_ne, bne_eq_false_iff_eq, ne_eq, Int.not_lt, Int.not_le, Nat.not_lt, Nat.not_le, gt_iff_lt, ge_iff_le, Bool.and_eq_true, Bool.or_eq_true, Int.ofNat_lt, Int.ofNat_le, Int.natCast_inj, List.length_map, List.length_cons, List.length_nil, List.length_append] at hc4
          refine aw_seq_k (fun K4 hK4 => ?_)
          refine aw_region ?_
          refine x_step hf rfl (r_call rfl rfl Try.ent20 rfl (alive_den)) ?_
          refine x_pure rfl (p_assign rfl) ?_
          first | refine aops_end ?_ | refine aops_nil ?_
          refine hK4 _ ?_
          refine aw_ret ?_
          refine ⟨_, rfl, ?_⟩
          rfl
        ·
          try simp only [Bool.not_eq_true', Bool.not_eq_false', Bool.not_true, Bool.not_false, Bool.not_not, decide_eq_true_eq, decide_eq_false_iff_not, beq_iff_eq, beq_eq_false_iff_ne, bne_iff_ne, bne_eq_false_iff_eq, ne_eq, Int.not_lt, Int.not_le, Nat.not_lt, Nat.not_le, gt_iff_lt, ge_iff_le, Bool.and_eq_true, Bool.or_eq_true, Int.ofNat_lt, Int.ofNat_le, Int.natCast_inj, List.length_map, List.length_cons, List.length_nil, List.length_append] at hc4
          refine aw_skip ?_
          refine hK2 _ ?_
          refine aw_seq_k (fun K5 hK5 => ?_)
          refine aw_region ?_
          refine x_pure rfl (p_makeFunc rfl) ?_
          refine x_pure rfl (p_assign rfl) ?_
          first | refine aops_end ?_ | refine aops_nil ?_
          refine hK5 _ ?_
          refine aw_seq_k (fun K6 hK6 => ?_)
          refine aw_region ?_
          refine x_pure rfl (p_move rfl) ?_
          refine x_pure rfl (p_move rfl) ?_
          refine x_step hf rfl (r_call rfl rfl Try.ent27 rfl (move_den a d (by omega) ⟨by omega, by omega⟩)) ?_
          refine x_pure rfl (p_move rfl) ?_
          refine x_pure rfl (p_extract rfl rfl) ?_
          refine x_pure rfl (p_extract rfl rfl) ?_
          refine x_pure rfl (p_assign rfl) ?_
          refine x_pure rfl (p_assign rfl) ?_
          first | refine aops_end ?_ | refine aops_nil ?_
          refine hK6 _ ?_
          refine aw_seq_k (fun K7 hK7 => ?_)
          refine aw_region ?_
          refine x_pure rfl (p_move rfl) ?_
          refine x_pure rfl (p_move rfl) ?_
          refine x_step hf rfl (r_call rfl rfl Try.ent27 rfl (move_den b d (by omega) ⟨by omega, by omega⟩)) ?_
          refine x_pure rfl (p_move rfl) ?_
          refine x_pure rfl (p_extract rfl rfl) ?_
          refine x_pure rfl (p_extract rfl rfl) ?_
          refine x_pure rfl (p_assign rfl) ?_
          refine x_pure rfl (p_assign rfl) ?_
          first | refine aops_end ?_ | refine aops_nil ?_
          refine hK7 _ ?_
          refine aw_seq_k (fun K8 hK8 => ?_)
          refine aw_seq_k (fun K9 hK9 => ?_)
          refine aw_region ?_
          refine x_pure rfl (p_move rfl) ?_
          refine x_pure rfl (p_not rfl) ?_
          refine x_pure rfl (p_move rfl) ?_
          refine y_guard_s rfl rfl rfl (fun hg5 => ?_) (fun hg5 => ?_)
          ·
            try simp only [Bool.not_eq_true', Bool.not_eq_false', Bool.not_true, Bool.not_false, Bool.not_not, decide_eq_true_eq, decide_eq_false_iff_not, beq_iff_eq, beq_eq_false_iff_ne, bne_iff_ne, bne_eq_false_iff_eq, ne_eq, Int.not_lt, Int.not_le, Nat.not_lt, Nat.not_le, gt_iff_lt, ge_iff_le, Bool.and_eq_true, Bool.or_eq_true, Int.ofNat_lt, Int.ofNat_le, Int.natCast_inj, List.length_map, List.length_cons, List.length_nil, List.length_append] at hg5
            refine x_pure rfl (p_move rfl) ?_
            refine x_guard_t rfl rfl rfl ?_
            refine x_pure rfl (p_not rfl) ?_
            refine x_pure rfl (p_pick_f rfl rfl) ?_
            first | refine aops_end ?_ | refine aops_nil ?_
            refine hK9 _ ?_
            refine aw_cond_s rfl (fun hc6 => ?_) (fun hc6 => ?_)
            ·
              try simp only [Bool.not_eq_true', Bool.not_eq_false', Bool.not_true, Bool.not_false, Bool.not_not, decide_eq_true_eq, decide_eq_false_iff_not, beq_iff_eq, beq_eq_false_iff_ne, bne_iff_ne, bne_eq_false_iff_eq, ne_eq, Int.not_lt, Int.not_le, Nat.not_lt, Nat.not_le, gt_iff_lt, ge_iff_le, Bool.and_eq_true, Bool.or_eq_true, Int.ofNat_lt, Int.ofNat_le, Int.natCast_inj, List.length_map, List.length_cons, List.length_nil, List.length_append] at hc6
              refine aw_seq_k (fun K10 hK10 => ?_)
              refine aw_region ?_
              refine x_step hf rfl (r_call rfl rfl Try.ent20 rfl (alive_den)) ?_
              refine x_pure rfl (p_assign rfl) ?_
              first | refine aops_end ?_ | refine aops_nil ?_
              refine hK10 _ ?_
              refine aw_ret ?_
              refine ⟨_, rfl, ?_⟩
              rfl
            ·
              try simp only [Bool.not_eq_true', Bool.not_eq_false', Bool.not_true, Bool.not_false, Bool.not_not, decide_eq_true_eq, decide_eq_false_iff_not, beq_iff_eq, beq_eq_false_iff_ne, bne_iff_ne, bne_eq_false_iff_eq, ne_eq, Int.not_lt, Int.not_le, Nat.not_lt, Nat.not_le, gt_iff_lt, ge_iff_le, Bool.and_eq_true, Bool.or_eq_true, Int.ofNat_lt, Int.ofNat_le, Int.natCast_inj, List.length_map, List.length_cons, List.length_nil, List.length_append] at hc6
              refine aw_skip ?_
              refine hK8 _ ?_
              refine aw_seq_k (fun K11 hK11 => ?_)
              refine aw_region ?_
              have oa : okL a = true := by assumption
              have ob : okL b = true := by assumption
              have m1 := mv_len d a
              have m2 := mv_len d b
              have n1 := norm_len a
              have n2 := meet_len a b
              have n3 := less_len a b
              have n4 := norm_len (moveL d a)
              have n5 := meet_len (moveL d a) (moveL d b)
              have n6 := less_len (moveL d a) (moveL d b)
              have hm1 := Nat.mul_le_mul (show (moveL d a).length ≤ 30 by omega) (show (moveL d b).length ≤ 30 by omega)
              rw [mv_t oa, mv_t ob]
              refine x_pure rfl (p_move rfl) ?_
              refine x_pure rfl (p_move rfl) ?_
              refine x_step hf rfl (r_call rfl rfl Try.ent25 rfl (refNorm_den _ (by omega))) ?_
              refine x_step hf rfl (r_call rfl rfl Try.ent27 rfl (move_den (normL a) d (by omega) ⟨by omega, by omega⟩)) ?_
              refine x_pure rfl (p_move rfl) ?_
              refine x_pure rfl (p_extract rfl rfl) ?_
              refine x_pure rfl (p_extract rfl rfl) ?_
              refine x_pure rfl (p_assign rfl) ?_
              refine x_pure rfl (p_assign_bad) ?_
              first | refine aops_end ?_ | refine aops_nil ?_
              refine hK11 _ ?_
              refine aw_seq_k (fun K12 hK12 => ?_)
              refine aw_region ?_
              refine x_pure rfl (p_move rfl) ?_
              refine x_pure rfl (p_move rfl) ?_
              refine x_pure rfl (p_move rfl) ?_
              refine x_step hf rfl (r_call rfl rfl Try.ent28 rfl (refMeet_den _ _ (by omega) (by omega))) ?_
              refine x_step hf rfl (r_call rfl rfl Try.ent27 rfl (move_den (meetL a b) d (by omega) ⟨by omega, by omega⟩)) ?_
              refine x_pure rfl (p_move rfl) ?_
              refine x_pure rfl (p_extract rfl rfl) ?_
              refine x_pure rfl (p_extract rfl rfl) ?_
              refine x_pure rfl (p_assign rfl) ?_
              refine x_pure rfl (p_assign_bad) ?_
              first | refine aops_end ?_ | refine aops_nil ?_
              refine hK12 _ ?_
              refine aw_seq_k (fun K13 hK13 => ?_)
              refine aw_region ?_
              refine x_pure rfl (p_move rfl) ?_
              refine x_pure rfl (p_move rfl) ?_
              refine x_pure rfl (p_move rfl) ?_
              refine x_step hf rfl (r_call rfl rfl Try.ent29 rfl (refLess_den _ _ (by omega) (by omega))) ?_
              refine x_step hf rfl (r_call rfl rfl Try.ent27 rfl (move_den (lessL a b) d (by omega) ⟨by omega, by omega⟩)) ?_
              refine x_pure rfl (p_move rfl) ?_
              refine x_pure rfl (p_extract rfl rfl) ?_
              refine x_pure rfl (p_extract rfl rfl) ?_
              refine x_pure rfl (p_assign rfl) ?_
              refine x_pure rfl (p_assign_bad) ?_
              first | refine aops_end ?_ | refine aops_nil ?_
              refine hK13 _ ?_
              refine aw_seq_k (fun K14 hK14 => ?_)
              refine aw_region ?_
              refine x_step hf rfl (r_call rfl rfl Try.ent20 rfl (alive_den)) ?_
              refine x_pure rfl (p_move rfl) ?_
              refine x_guard_t rfl rfl rfl ?_
              refine x_pure rfl (p_move rfl) ?_
              refine x_guard_t rfl rfl rfl ?_
              refine x_step hf rfl (r_call rfl rfl Try.ent30 rfl (norm_den _ (by omega))) ?_
              refine x_guard_t rfl rfl rfl ?_
              refine x_pure rfl (p_move rfl) ?_
              refine x_guard_t rfl rfl rfl ?_
              refine x_step hf rfl (r_call rfl rfl Try.ent26 rfl (sameT_den _ _ (mvs_norm d oa) (by omega))) ?_
              refine x_pure rfl (p_pick_t rfl rfl) ?_
              refine x_pure rfl (p_move rfl) ?_
              refine x_guard_t rfl rfl rfl ?_
              refine x_pure rfl (p_move rfl) ?_
              refine x_guard_t rfl rfl rfl ?_
              refine x_pure rfl (p_move rfl) ?_
              refine x_guard_t rfl rfl rfl ?_
              refine x_step hf rfl (r_call rfl rfl Try.ent31 rfl (meet_den _ _ (by omega) (by omega) (by omega))) ?_
              refine x_guard_t rfl rfl rfl ?_
              refine x_pure rfl (p_move rfl) ?_
              refine x_guard_t rfl rfl rfl ?_
              refine x_step hf rfl (r_call rfl rfl Try.ent26 rfl (sameT_den _ _ (mvs_meet d oa ob) (by omega))) ?_
              refine x_pure rfl (p_pick_t rfl rfl) ?_
              refine x_pure rfl (p_move rfl) ?_
              refine x_guard_t rfl rfl rfl ?_
              refine x_pure rfl (p_move rfl) ?_
              refine x_guard_t rfl rfl rfl ?_
              refine x_pure rfl (p_move rfl) ?_
              refine x_guard_t rfl rfl rfl ?_
              refine x_step hf rfl (r_call rfl rfl Try.ent32 rfl (less_den _ _ (by omega))) ?_
              refine x_guard_t rfl rfl rfl ?_
              refine x_pure rfl (p_move rfl) ?_
              refine x_guard_t rfl rfl rfl ?_
              refine x_step hf rfl (r_call rfl rfl Try.ent26 rfl (sameT_den _ _ (mvs_less d oa ob) (by omega))) ?_
              refine x_pure rfl (p_pick_t rfl rfl) ?_
              refine x_pure rfl (p_assign rfl) ?_
              first | refine aops_end ?_ | refine aops_nil ?_
              refine hK14 _ ?_
              refine aw_ret ?_
              refine ⟨_, rfl, ?_⟩
              rfl
          ·
            try simp only [Bool.not_eq_true', Bool.not_eq_false', Bool.not_true, Bool.not_false, Bool.not_not, decide_eq_true_eq, decide_eq_false_iff_not, beq_iff_eq, beq_eq_false_iff_ne, bne_iff_ne, bne_eq_false_iff_eq, ne_eq, Int.not_lt, Int.not_le, Nat.not_lt, Nat.not_le, gt_iff_lt, ge_iff_le, Bool.and_eq_true, Bool.or_eq_true, Int.ofNat_lt, Int.ofNat_le, Int.natCast_inj, List.length_map, List.length_cons, List.length_nil, List.length_append] at hg5
            refine x_guard_f rfl rfl rfl ?_
            refine x_pure rfl (p_pick_t rfl rfl) ?_
            first | refine aops_end ?_ | refine aops_nil ?_
            refine hK9 _ ?_
            refine aw_cond_t rfl ?_
            refine aw_seq_k (fun K15 hK15 => ?_)
            refine aw_region ?_
            refine x_step hf rfl (r_call rfl rfl Try.ent20 rfl (alive_den)) ?_
            refine x_pure rfl (p_assign rfl) ?_
            first | refine aops_end ?_ | refine aops_nil ?_
            refine hK15 _ ?_
            refine aw_ret ?_
            refine ⟨_, rfl, ?_⟩
            rfl
      ·
        try simp only [Bool.not_eq_true', Bool.not_eq_false', Bool.not_true, Bool.not_false, Bool.not_not, decide_eq_true_eq, decide_eq_false_iff_not, beq_iff_eq, beq_eq_false_iff_ne, bne_iff_ne, bne_eq_false_iff_eq, ne_eq, Int.not_lt, Int.not_le, Nat.not_lt, Nat.not_le, gt_iff_lt, ge_iff_le, Bool.and_eq_true, Bool.or_eq_true, Int.ofNat_lt, Int.ofNat_le, Int.natCast_inj, List.length_map, List.length_cons, List.length_nil, List.length_append] at hg3
        refine x_guard_f rfl rfl rfl ?_
        refine x_pure rfl (p_pick_t rfl rfl) ?_
        first | refine aops_end ?_ | refine aops_nil ?_
        refine hK3 _ ?_
        refine aw_cond_t rfl ?_
        refine aw_seq_k (fun K16 hK16 => ?_)
        refine aw_region ?_
        refine x_step hf rfl (r_call rfl rfl Try.ent20 rfl (alive_den)) ?_
        refine x_pure rfl (p_assign rfl) ?_
        first | refine aops_end ?_ | refine aops_nil ?_
        refine hK16 _ ?_
        refine aw_ret ?_
        refine ⟨_, rfl, ?_⟩
        rfl
    ·
      try simp only [Bool.not_eq_true', Bool.not_eq_false', Bool.not_true, Bool.not_false, Bool.not_not, decide_eq_true_eq, decide_eq_false_iff_not, beq_iff_eq, beq_eq_false_iff_ne, bne_iff_ne, bne_eq_false_iff_eq, ne_eq, Int.not_lt, Int.not_le, Nat.not_lt, Nat.not_le, gt_iff_lt, ge_iff_le, Bool.and_eq_true, Bool.or_eq_true, Int.ofNat_lt, Int.ofNat_le, Int.natCast_inj, List.length_map, List.length_cons, List.length_nil, List.length_append] at hg2
      refine x_guard_f rfl rfl rfl ?_
      refine x_pure rfl (p_pick_t rfl rfl) ?_
      refine x_pure rfl (p_move rfl) ?_
      refine x_guard_f rfl rfl rfl ?_
      refine x_guard_f rfl rfl rfl ?_
      refine x_pure rfl (p_pick_t rfl rfl) ?_
      first | refine aops_end ?_ | refine aops_nil ?_
      refine hK3 _ ?_
      refine aw_cond_t rfl ?_
      refine aw_seq_k (fun K17 hK17 => ?_)
      refine aw_region ?_
      refine x_step hf rfl (r_call rfl rfl Try.ent20 rfl (alive_den)) ?_
      refine x_pure rfl (p_assign rfl) ?_
      first | refine aops_end ?_ | refine aops_nil ?_
      refine hK17 _ ?_
      refine aw_ret ?_
      refine ⟨_, rfl, ?_⟩
      rfl
  ·
    try simp only [Bool.not_eq_true', Bool.not_eq_false', Bool.not_true, Bool.not_false, Bool.not_not, decide_eq_true_eq, decide_eq_false_iff_not, beq_iff_eq, beq_eq_false_iff_ne, bne_iff_ne, bne_eq_false_iff_eq, ne_eq, Int.not_lt, Int.not_le, Nat.not_lt, Nat.not_le, gt_iff_lt, ge_iff_le, Bool.and_eq_true, Bool.or_eq_true, Int.ofNat_lt, Int.ofNat_le, Int.natCast_inj, List.length_map, List.length_cons, List.length_nil, List.length_append] at hg1
    refine x_guard_f rfl rfl rfl ?_
    refine x_guard_f rfl rfl rfl ?_
    refine x_pure rfl (p_pick_t rfl rfl) ?_
    refine x_pure rfl (p_move rfl) ?_
    refine x_guard_f rfl rfl rfl ?_
    refine x_guard_f rfl rfl rfl ?_
    refine x_pure rfl (p_pick_t rfl rfl) ?_
    refine x_pure rfl (p_move rfl) ?_
    refine x_guard_f rfl rfl rfl ?_
    refine x_guard_f rfl rfl rfl ?_
    refine x_pure rfl (p_pick_t rfl rfl) ?_
    first | refine aops_end ?_ | refine aops_nil ?_
    refine hK3 _ ?_
    refine aw_cond_t rfl ?_
    refine aw_seq_k (fun K18 hK18 => ?_)
    refine aw_region ?_
    refine x_step hf rfl (r_call rfl rfl Try.ent20 rfl (alive_den)) ?_
    refine x_pure rfl (p_assign rfl) ?_
    first | refine aops_end ?_ | refine aops_nil ?_
    refine hK18 _ ?_
    refine aw_ret ?_
    refine ⟨_, rfl, ?_⟩
    rfl

set_option maxRecDepth 20000 in
set_option maxHeartbeats 8000000 in
theorem spanJoins_den (l : List (List Sp)) (hl : l.length * 24 ≤ 140737488355328) (hr : ∀ r ∈ l, r.length * 16 ≤ 140737488355328)  : Den Try.prog 4 [.sl 1 ((l).map fun r => [AV.sl 2 (r.map spC)])]  (· = .s (.bool true)) := by
  refine den_of_aw Try.func4 rfl (Nat.le_of_ble_eq_true rfl) (fun w0 A hf => ?_)
  refine aw_seq_k (fun K1 hK1 => ?_)
  refine aw_region ?_
  refine x_pure rfl (p_assign_bad) ?_
  first | refine aops_end ?_ | refine aops_nil ?_
  refine hK1 _ ?_
  refine aw_seq_k (fun K2 hK2 => ?_)
  refine aw_region ?_
  refine x_pure rfl (p_assign rfl) ?_
  first | refine aops_end ?_ | refine aops_nil ?_
  refine hK2 _ ?_
  refine aw_seq_k (fun K3 hK3 => ?_)
  refine aw_region ?_
  refine x_nil hf 2 rfl rfl rfl ?_
  first | refine aops_end ?_ | refine aops_nil ?_
  refine hK3 _ ?_
  refine aw_seq_k (fun K4 hK4 => ?_)
  refine aw_region ?_
  refine x_nil hf 1 rfl rfl rfl ?_
  refine x_nil hf 1 rfl rfl rfl ?_
  first | refine aops_end ?_ | refine aops_nil ?_
  refine hK4 _ ?_
  refine aw_seq_k (fun K5 hK5 => ?_)
  refine aw_seq_k (fun K6 hK6 => ?_)
  refine aw_region ?_
  refine x_pure rfl (p_move rfl) ?_
  first | refine x_pure rfl (p_len_sl rfl Try.e30) ?_ | refine x_pure rfl (p_len_own rfl Try.e30) ?_ | refine x_pure rfl (p_len_nil rfl Try.e30) ?_
  refine x_pure rfl (p_move rfl) ?_
  first | refine aops_end ?_ | refine aops_nil ?_
  refine hK6 _ ?_
  refine aw_block ?_
  refine aw_loop (ι := Nat) (fun k => ⟨78, [(0, .sl 1 ((l).map fun r => [AV.sl 2 (r.map spC)])), (3, .s (.int .i64 ((l.take k).flatten.length : Nat))), (4, .own 4 2 0 (l.take k).flatten.length), (5, .own 5 1 0 (l.take k).length), (6, .own 6 1 0 (l.reverse.take k).length), (11, .sl 1 ((l).map fun r => [AV.sl 2 (r.map spC)])), (12, .s (.int .i64 (((l).map fun r => [AV.sl 2 (r.map spC)]).length : Nat))), (13, .s (.int .i64 (k : Nat)))], [(6, .buf 1 ((l.reverse.take k).map fun r => [AV.sl 2 (r.map spC)])), (5, .buf 1 ((l.take k).map fun r => [AV.sl 2 (r.map spC)])), (4, .buf 2 ((l.take k).flatten.map spC))]⟩) (fun k => k ≤ l.length ∧ (l.take k).flatten.length ≤ 60) (fun k => l.length - k) 0 ?_ ?_ ?_
  · exact ⟨Nat.zero_le _, Nat.zero_le _⟩
  · exact le_of ⟨rfl, rfl, rfl, rfl, rfl, rfl, rfl, rfl, trivial⟩
  ·
    rintro k hC
    obtain ⟨h1, h2⟩ := hC
    have hlm : ((l).map fun r => [AV.sl 2 (r.map spC)]).length = l.length := List.length_map _
    have htl : (l.take k).length = k := by rw [List.length_take]; omega
    have htr : (l.reverse.take k).length = k := by rw [List.length_take, List.length_reverse]; omega
    refine aw_seq_k (fun K7 hK7 => ?_)
    refine aw_region ?_
    refine x_pure rfl (p_bin rfl rfl rfl) ?_
    first | refine aops_end ?_ | refine aops_nil ?_
    refine hK7 _ ?_
    refine aw_seq_k (fun K8 hK8 => ?_)
    refine aw_cond_s rfl (fun hc1 => ?_) (fun hc1 => ?_)
    ·
      try simp only [Bool.not_eq_true', Bool.not_eq_false', Bool.not_true, Bool.not_false, Bool.not_not, decide_eq_true_eq, decide_eq_false_iff_not, beq_iff_eq, beq_eq_false_iff_ne, bne_iff_ne, bne_eq_false_iff_eq, ne_eq, Int.not_lt, Int.not_le, Nat.not_lt, Nat.not_le, gt_iff_lt, ge_iff_le, Bool.and_eq_true, Bool.or_eq_true, Int.ofNat_lt, Int.ofNat_le, Int.natCast_inj, List.length_map, List.length_cons, List.length_nil, List.length_append] at hc1
      refine aw_skip ?_
      refine hK8 _ ?_
      refine aw_seq_k (fun K9 hK9 => ?_)
      refine aw_block ?_
      refine aw_seq_k (fun K10 hK10 => ?_)
      refine aw_region ?_
      have hk : k < l.length := by omega
      have e1 := congrArg List.length (take_flat l k hk)
      rw [List.length_append] at e1
      have e3 : (l[k].map spC).length = l[k].length := List.length_map _
      have e4 := hr l[k] (List.getElem_mem _)
      have e5 := hr (l[l.length - 1 - k]'(by omega)) (List.getElem_mem _)
      have er : l.reverse[k]'(by simp; omega) = l[l.length - 1 - k]'(by omega) := List.getElem_reverse _
      refine x_pure rfl (p_move rfl) ?_
      first | refine x_pure rfl (p_idx_sl rfl rfl Try.e30 Try.c31 (by first | assumption | (refine ⟨by omega, ?_⟩; first | assumption | exact strs_at (by omega) | exact strs_at (by simp only [List.length_cons] at *; omega) | exact ints_at (by omega) | exact map_at (by omega) | exact list_at (by omega)) | exact ⟨by decide, rfl⟩)) ?_ | refine x_pure rfl (p_idx_own rfl rfl Try.e30 Try.c31 (by omega)) ?_
      first | refine x_pure rfl (p_load1 rfl Try.g31 rfl) ?_ | refine x_pure rfl (p_load1r rfl Try.g31 rfl rfl) ?_ | refine x_pure rfl (p_load1r rfl Try.g31 rfl (strs_ref (by simp only [List.length_cons] at *; omega))) ?_ | refine x_pure rfl (p_load1r rfl Try.g31 rfl (strs_ref (by omega))) ?_
      refine x_pure rfl (p_assign rfl) ?_
      refine x_pure rfl (p_assign rfl) ?_
      first | refine aops_end ?_ | refine aops_nil ?_
      refine hK10 _ ?_
      refine aw_seq_k (fun K11 hK11 => ?_)
      refine aw_region ?_
      refine x_pure rfl (p_move rfl) ?_
      refine x_pure rfl (p_move rfl) ?_
      first | refine x_pure rfl (p_len_sl rfl Try.e31) ?_ | refine x_pure rfl (p_len_own rfl Try.e31) ?_ | refine x_pure rfl (p_len_nil rfl Try.e31) ?_
      first | refine x_pure rfl (p_add rfl rfl (by omega) (by omega)) ?_ | refine x_pure rfl (p_bin rfl rfl rfl) ?_
      rw [show (((l.take k).flatten.length : Nat) : Int) + (((l[k].map spC).length : Nat) : Int) = (((l.take (k + 1)).flatten.length : Nat) : Int) from by omega]
      refine x_pure rfl (p_assign rfl) ?_
      first | refine aops_end ?_ | refine aops_nil ?_
      refine hK11 _ ?_
      refine aw_seq_k (fun K12 hK12 => ?_)
      refine aw_seq_k (fun K13 hK13 => ?_)
      refine aw_region ?_
      refine x_pure rfl (p_move rfl) ?_
      refine x_pure rfl (p_bin rfl rfl rfl) ?_
      refine x_pure rfl (p_move rfl) ?_
      refine y_guard_s rfl rfl rfl (fun hg2 => ?_) (fun hg2 => ?_)
      ·
        try simp only [Bool.not_eq_true', Bool.not_eq_false', Bool.not_true, Bool.not_false, Bool.not_not, decide_eq_true_eq, decide_eq_false_iff_not, beq_iff_eq, beq_eq_false_iff_ne, bne_iff_ne, bne_eq_false_iff_eq, ne_eq, Int.not_lt, Int.not_le, Nat.not_lt, Nat.not_le, gt_iff_lt, ge_iff_le, Bool.and_eq_true, Bool.or_eq_true, Int.ofNat_lt, Int.ofNat_le, Int.natCast_inj, List.length_map, List.length_cons, List.length_nil, List.length_append] at hg2
        refine x_pure rfl (p_move rfl) ?_
        refine x_guard_t rfl rfl rfl ?_
        first | refine x_pure rfl (p_len_sl rfl Try.e30) ?_ | refine x_pure rfl (p_len_own rfl Try.e30) ?_ | refine x_pure rfl (p_len_nil rfl Try.e30) ?_
        refine x_guard_t rfl rfl rfl ?_
        refine x_pure rfl (p_bin rfl rfl rfl) ?_
        refine x_pure rfl (p_pick_f rfl rfl) ?_
        first | refine aops_end ?_ | refine aops_nil ?_
        refine hK13 _ ?_
        refine aw_cond_s rfl (fun hc3 => ?_) (fun hc3 => ?_)
        ·
          try simp only [Bool.not_eq_true', Bool.not_eq_false', Bool.not_true, Bool.not_false, Bool.not_not, decide_eq_true_eq, decide_eq_false_iff_not, beq_iff_eq, beq_eq_false_iff_ne, bne_iff_ne, bne_eq_false_iff_eq, ne_eq, Int.not_lt, Int.not_le, Nat.not_lt, Nat.not_le, gt_iff_lt, ge_iff_le, Bool.and_eq_true, Bool.or_eq_true, Int.ofNat_lt, Int.ofNat_le, Int.natCast_inj, List.length_map, List.length_cons, List.length_nil, List.length_append] at hc3
          refine aw_seq_k (fun K14 hK14 => ?_)
          refine aw_region ?_
          refine x_step hf rfl (r_call rfl rfl Try.ent20 rfl (alive_den)) ?_
          refine x_pure rfl (p_assign rfl) ?_
          first | refine aops_end ?_ | refine aops_nil ?_
          refine hK14 _ ?_
          refine aw_ret ?_
          refine ⟨_, rfl, ?_⟩
          rfl
        ·
          try simp only [Bool.not_eq_true', Bool.not_eq_false', Bool.not_true, Bool.not_false, Bool.not_not, decide_eq_true_eq, decide_eq_false_iff_not, beq_iff_eq, beq_eq_false_iff_ne, bne_iff_ne, bne_eq_false_iff_eq, ne_eq, Int.not_lt, Int.not_le, Nat.not_lt, Nat.not_le, gt_iff_lt, ge_iff_le, Bool.and_eq_true, Bool.or_eq_true, Int.ofNat_lt, Int.ofNat_le, Int.natCast_inj, List.length_map, List.length_cons, List.length_nil, List.length_append] at hc3
          refine aw_skip ?_
          refine hK12 _ ?_
          refine aw_seq_k (fun K15 hK15 => ?_)
          refine aw_region ?_
          refine x_pure rfl (p_move rfl) ?_
          refine x_pure rfl (p_move rfl) ?_
          refine x_append hf rfl Try.ap31 rfl rfl rfl (.inl rfl) (by simp only [List.length_map]) rfl (by first | rfl | simp [asrc, look]) (by first | (simp only [maxLen, List.length_map, List.length_append, List.length_cons, List.length_nil]; omega) | (simp [maxLen] <;> omega)) (by first | (simp only [List.length_map, List.length_append, List.length_cons, List.length_nil]; omega) | (simp <;> omega)) ?_
          refine aops_le (le_of (sl' := [(0, _), (3, _), (5, _), (6, _), (7, _), (8, _), (11, _), (12, _), (13, _), (32, _)]) ⟨rfl, rfl, rfl, rfl, rfl, rfl, rfl, rfl, rfl, rfl, trivial⟩) ?_
          rw [show (l.take k).flatten.length + (l[k].map spC).length = (l.take (k + 1)).flatten.length from by omega, ← List.map_append, ← take_flat l k hk]
          refine x_pure rfl (p_assign rfl) ?_
          first | refine aops_end ?_ | refine aops_nil ?_
          refine hK15 _ ?_
          refine aw_region_any Try.mixed ?_
          refine af_step (listed' := #[true, false, false, false, false, false, false, false, false, false, false, false, false, false, false, false, false, false, false]) 0 rfl (by kernel_rfl) (by kernel_rfl) (by kernel_rfl) rfl (fun _ _ h => h) (w_move rfl) ?_
          refine af_step (listed' := #[true, true, false, false, false, false, false, false, false, false, false, false, false, false, false, false, false, false, false]) 1 rfl (by kernel_rfl) (by kernel_rfl) (by kernel_rfl) rfl (fun _ _ h => h) (w_move rfl) ?_
          refine af_step (listed' := #[true, true, false, false, false, true, false, false, false, false, false, false, false, false, false, false, false, false, false]) 5 rfl (by kernel_rfl) (by kernel_rfl) (by kernel_rfl) rfl (fun _ _ h => h) (w_move rfl) ?_
          refine af_step (listed' := #[true, true, false, false, false, true, true, false, false, false, false, false, false, false, false, false, false, false, false]) 6 rfl (by kernel_rfl) (by kernel_rfl) (by kernel_rfl) rfl (fun _ _ h => h) (w_move rfl) ?_
          refine af_step (listed' := #[true, true, false, false, false, true, true, true, false, false, false, false, false, false, false, false, false, false, false]) 7 rfl (by kernel_rfl) (by kernel_rfl) (by kernel_rfl) rfl (fun _ _ h => h) (w_move rfl) ?_
          first | refine af_step (listed' := #[true, true, false, false, false, true, true, true, true, false, false, false, false, false, false, false, false, false, false]) 8 rfl (by kernel_rfl) (by kernel_rfl) (by kernel_rfl) rfl (fun _ _ h => h) (w_len_sl rfl Try.e30) ?_ | refine af_step (listed' := #[true, true, false, false, false, true, true, true, true, false, false, false, false, false, false, false, false, false, false]) 8 rfl (by kernel_rfl) (by kernel_rfl) (by kernel_rfl) rfl (fun _ _ h => h) (w_len_own rfl Try.e30) ?_
          first | refine af_step (listed' := #[true, true, false, false, false, true, true, true, true, true, false, false, false, false, false, false, false, false, false]) 9 rfl (by kernel_rfl) (by kernel_rfl) (by kernel_rfl) rfl (fun _ _ h => h) (w_sub rfl rfl (by omega) (by omega)) ?_ | refine af_step (listed' := #[true, true, false, false, false, true, true, true, true, true, false, false, false, false, false, false, false, false, false]) 9 rfl (by kernel_rfl) (by kernel_rfl) (by kernel_rfl) rfl (fun _ _ h => h) (w_bin rfl rfl rfl) ?_
          refine af_step (listed' := #[true, true, false, false, false, true, true, true, true, true, true, false, false, false, false, false, false, false, false]) 10 rfl (by kernel_rfl) (by kernel_rfl) (by kernel_rfl) rfl (fun _ _ h => h) (w_move rfl) ?_
          first | refine af_step (listed' := #[true, true, false, false, false, true, true, true, true, true, true, true, false, false, false, false, false, false, false]) 11 rfl (by kernel_rfl) (by kernel_rfl) (by kernel_rfl) rfl (fun _ _ h => h) (w_sub rfl rfl (by omega) (by omega)) ?_ | refine af_step (listed' := #[true, true, false, false, false, true, true, true, true, true, true, true, false, false, false, false, false, false, false]) 11 rfl (by kernel_rfl) (by kernel_rfl) (by kernel_rfl) rfl (fun _ _ h => h) (w_bin rfl rfl rfl) ?_
          refine af_step (listed' := #[true, true, false, false, false, true, true, true, true, true, true, true, true, false, false, false, false, false, false]) 12 rfl (by kernel_rfl) (by kernel_rfl) (by kernel_rfl) rfl (fun _ _ h => h) (w_idx_sl rfl rfl Try.e30 Try.c31 (map_atZ (enc := (fun r : List Sp => [AV.sl 2 (r.map spC)])) (k := l.length - 1 - k) (by omega) (by omega))) ?_
          refine aany_le (le_of (sl' := [(0, _), (3, _), (4, _), (5, _), (6, _), (11, _), (12, _), (13, _), (33, _), (34, _), (38, _), (45, _)]) ⟨rfl, rfl, rfl, rfl, rfl, rfl, rfl, rfl, rfl, rfl, rfl, rfl, trivial⟩) ?_
          refine aany_step 2 [13] (by kernel_rfl) ⟨?_, ?_, trivial⟩
          ·
            refine ⟨_, rfl, rfl, ?_⟩
            refine aop_of_aops (ops := #[]) rfl ?_
            refine x_step hf rfl (r_call rfl rfl Try.ent21 rfl (news_den _ (by omega))) ?_
            refine aops_any ?_
            refine aany_step 3 [13] (by kernel_rfl) ⟨?_, ?_, trivial⟩
            ·
              refine ⟨_, rfl, rfl, ?_⟩
              refine aop_of_aops (ops := #[]) rfl ?_
              refine x_step hf rfl (r_buildSlice Try.ap32 rfl rfl rfl rfl (by simp [spC, AV.cells, AV.leaf, Value.oneCell', splice, AV.kill, AV.clean, cleanL, AV.only])) ?_
              refine aops_any ?_
              refine aany_step 4 [13] (by kernel_rfl) ⟨?_, ?_, trivial⟩
              ·
                refine ⟨_, rfl, rfl, ?_⟩
                refine aop_of_aops (ops := #[]) rfl ?_
                refine x_append hf rfl Try.ap32 rfl rfl rfl (.inl rfl) (by simp only [List.length_map]) rfl (by first | rfl | simp [asrc, look]) (by first | (simp only [maxLen, List.length_map, List.length_append, List.length_cons, List.length_nil]; omega) | (simp [maxLen] <;> omega)) (by first | (simp only [List.length_map, List.length_append, List.length_cons, List.length_nil]; omega) | (simp <;> omega)) ?_
                refine aops_le (le_of (sl' := [(0, _), (3, _), (4, _), (5, _), (6, _), (11, _), (12, _), (13, _), (37, _), (38, _), (45, _)]) ⟨rfl, rfl, rfl, rfl, rfl, rfl, rfl, rfl, rfl, rfl, rfl, trivial⟩) ?_
                refine aops_any ?_
                refine aany_step 13 [] (by kernel_rfl) ⟨?_, trivial⟩
                ·
                  refine ⟨_, rfl, rfl, ?_⟩
                  refine aop_of_aops (ops := #[]) rfl ?_
                  first | refine x_pure rfl (p_load1 rfl Try.g31 rfl) ?_ | refine x_pure rfl (p_load1r rfl Try.g31 rfl rfl) ?_ | refine x_pure rfl (p_load1r rfl Try.g31 rfl (strs_ref (by simp only [List.length_cons] at *; omega))) ?_ | refine x_pure rfl (p_load1r rfl Try.g31 rfl (strs_ref (by omega))) ?_
                  refine aops_any ?_
                  refine aany_step 14 [] (by kernel_rfl) ⟨?_, trivial⟩
                  ·
                    refine ⟨_, rfl, rfl, ?_⟩
                    refine aop_of_aops (ops := #[]) rfl ?_
                    refine x_step hf rfl (r_call rfl rfl Try.ent21 rfl (news_den _ (by omega))) ?_
                    refine aops_any ?_
                    refine aany_step 15 [] (by kernel_rfl) ⟨?_, trivial⟩
                    ·
                      refine ⟨_, rfl, rfl, ?_⟩
                      refine aop_of_aops (ops := #[]) rfl ?_
                      refine x_step hf rfl (r_buildSlice Try.ap32 rfl rfl rfl rfl (by simp [spC, AV.cells, AV.leaf, Value.oneCell', splice, AV.kill, AV.clean, cleanL, AV.only])) ?_
                      refine aops_any ?_
                      refine aany_step 16 [] (by kernel_rfl) ⟨?_, trivial⟩
                      ·
                        refine ⟨_, rfl, rfl, ?_⟩
                        refine aop_of_aops (ops := #[]) rfl ?_
                        refine x_append hf rfl Try.ap32 rfl rfl rfl (.inl rfl) (by simp only [List.length_map]) rfl (by first | rfl | simp [asrc, look]) (by first | (simp only [maxLen, List.length_map, List.length_append, List.length_cons, List.length_nil]; omega) | (simp [maxLen] <;> omega)) (by first | (simp only [List.length_map, List.length_append, List.length_cons, List.length_nil]; omega) | (simp <;> omega)) ?_
                        refine aops_le (le_of (sl' := [(0, _), (3, _), (4, _), (5, _), (6, _), (11, _), (12, _), (13, _), (37, _), (49, _)]) ⟨rfl, rfl, rfl, rfl, rfl, rfl, rfl, rfl, rfl, rfl, trivial⟩) ?_
                        refine aops_any ?_
                        refine aany_step 17 [] (by kernel_rfl) ⟨?_, trivial⟩
                        ·
                          refine ⟨_, rfl, rfl, ?_⟩
                          refine aop_of_aops (ops := #[]) rfl ?_
                          refine x_pure rfl (p_assign rfl) ?_
                          refine aops_any ?_
                          refine aany_step 18 [] (by kernel_rfl) ⟨?_, trivial⟩
                          ·
                            refine ⟨_, rfl, rfl, ?_⟩
                            refine aop_of_aops (ops := #[]) rfl ?_
                            refine x_pure rfl (p_assign rfl) ?_
                            refine aops_any ?_
                            refine aany_end (by kernel_rfl) ?_
                            refine hK9 _ ?_
                            refine aw_region ?_
                            first | refine x_pure rfl (p_add rfl rfl (by omega) (by omega)) ?_ | refine x_pure rfl (p_bin rfl rfl rfl) ?_
                            refine x_pure rfl (p_move rfl) ?_
                            first | refine aops_end ?_ | refine aops_nil ?_
                            have h3 : (l.take (k + 1)).flatten.length ≤ 60 := by omega
                            refine ⟨k + 1, ⟨by omega, h3⟩, by omega, le_to ⟨rfl, rfl, rfl, (by rw [take_len1 l k (by omega)]; rfl), (by rw [take_len1 l.reverse k (by simp; omega)]; rfl), rfl, rfl, rfl, trivial⟩ ?_⟩
                            rw [take_map l (fun r : List Sp => [AV.sl 2 (r.map spC)]) k (by omega), take_map l.reverse (fun r : List Sp => [AV.sl 2 (r.map spC)]) k (by simp; omega), er]
                            rfl
              ·
                refine ⟨_, rfl, rfl, ?_⟩
                refine aop_of_aops (ops := #[]) rfl ?_
                first | refine x_pure rfl (p_load1 rfl Try.g31 rfl) ?_ | refine x_pure rfl (p_load1r rfl Try.g31 rfl rfl) ?_ | refine x_pure rfl (p_load1r rfl Try.g31 rfl (strs_ref (by simp only [List.length_cons] at *; omega))) ?_ | refine x_pure rfl (p_load1r rfl Try.g31 rfl (strs_ref (by omega))) ?_
                refine aops_any ?_
                refine aany_step 4 [] (by kernel_rfl) ⟨?_, trivial⟩
                ·
                  refine ⟨_, rfl, rfl, ?_⟩
                  refine aop_of_aops (ops := #[]) rfl ?_
                  refine x_append hf rfl Try.ap32 rfl rfl rfl (.inl rfl) (by simp only [List.length_map]) rfl (by first | rfl | simp [asrc, look]) (by first | (simp only [maxLen, List.length_map, List.length_append, List.length_cons, List.length_nil]; omega) | (simp [maxLen] <;> omega)) (by first | (simp only [List.length_map, List.length_append, List.length_cons, List.length_nil]; omega) | (simp <;> omega)) ?_
                  refine aops_le (le_of (sl' := [(0, _), (3, _), (4, _), (5, _), (6, _), (11, _), (12, _), (13, _), (37, _), (38, _), (46, _)]) ⟨rfl, rfl, rfl, rfl, rfl, rfl, rfl, rfl, rfl, rfl, rfl, trivial⟩) ?_
                  refine aops_any ?_
                  refine aany_step 14 [] (by kernel_rfl) ⟨?_, trivial⟩
                  ·
                    refine ⟨_, rfl, rfl, ?_⟩
                    refine aop_of_aops (ops := #[]) rfl ?_
                    refine x_step hf rfl (r_call rfl rfl Try.ent21 rfl (news_den _ (by omega))) ?_
                    refine aops_any ?_
                    refine aany_step 15 [] (by kernel_rfl) ⟨?_, trivial⟩
                    ·
                      refine ⟨_, rfl, rfl, ?_⟩
                      refine aop_of_aops (ops := #[]) rfl ?_
                      refine x_step hf rfl (r_buildSlice Try.ap32 rfl rfl rfl rfl (by simp [spC, AV.cells, AV.leaf, Value.oneCell', splice, AV.kill, AV.clean, cleanL, AV.only])) ?_
                      refine aops_any ?_
                      refine aany_step 16 [] (by kernel_rfl) ⟨?_, trivial⟩
                      ·
                        refine ⟨_, rfl, rfl, ?_⟩
                        refine aop_of_aops (ops := #[]) rfl ?_
                        refine x_append hf rfl Try.ap32 rfl rfl rfl (.inl rfl) (by simp only [List.length_map]) rfl (by first | rfl | simp [asrc, look]) (by first | (simp only [maxLen, List.length_map, List.length_append, List.length_cons, List.length_nil]; omega) | (simp [maxLen] <;> omega)) (by first | (simp only [List.length_map, List.length_append, List.length_cons, List.length_nil]; omega) | (simp <;> omega)) ?_
                        refine aops_le (le_of (sl' := [(0, _), (3, _), (4, _), (5, _), (6, _), (11, _), (12, _), (13, _), (37, _), (49, _)]) ⟨rfl, rfl, rfl, rfl, rfl, rfl, rfl, rfl, rfl, rfl, trivial⟩) ?_
                        refine aops_any ?_
                        refine aany_step 17 [] (by kernel_rfl) ⟨?_, trivial⟩
                        ·
                          refine ⟨_, rfl, rfl, ?_⟩
                          refine aop_of_aops (ops := #[]) rfl ?_
                          refine x_pure rfl (p_assign rfl) ?_
                          refine aops_any ?_
                          refine aany_step 18 [] (by kernel_rfl) ⟨?_, trivial⟩
                          ·
                            refine ⟨_, rfl, rfl, ?_⟩
                            refine aop_of_aops (ops := #[]) rfl ?_
                            refine x_pure rfl (p_assign rfl) ?_
                            refine aops_any ?_
                            refine aany_end (by kernel_rfl) ?_
                            refine hK9 _ ?_
                            refine aw_region ?_
                            first | refine x_pure rfl (p_add rfl rfl (by omega) (by omega)) ?_ | refine x_pure rfl (p_bin rfl rfl rfl) ?_
                            refine x_pure rfl (p_move rfl) ?_
                            first | refine aops_end ?_ | refine aops_nil ?_
                            have h3 : (l.take (k + 1)).flatten.length ≤ 60 := by omega
                            refine ⟨k + 1, ⟨by omega, h3⟩, by omega, le_to ⟨rfl, rfl, rfl, (by rw [take_len1 l k (by omega)]; rfl), (by rw [take_len1 l.reverse k (by simp; omega)]; rfl), rfl, rfl, rfl, trivial⟩ ?_⟩
                            rw [take_map l (fun r : List Sp => [AV.sl 2 (r.map spC)]) k (by omega), take_map l.reverse (fun r : List Sp => [AV.sl 2 (r.map spC)]) k (by simp; omega), er]
                            rfl
            ·
              refine ⟨_, rfl, rfl, ?_⟩
              refine aop_of_aops (ops := #[]) rfl ?_
              first | refine x_pure rfl (p_load1 rfl Try.g31 rfl) ?_ | refine x_pure rfl (p_load1r rfl Try.g31 rfl rfl) ?_ | refine x_pure rfl (p_load1r rfl Try.g31 rfl (strs_ref (by simp only [List.length_cons] at *; omega))) ?_ | refine x_pure rfl (p_load1r rfl Try.g31 rfl (strs_ref (by omega))) ?_
              refine aops_any ?_
              refine aany_step 3 [] (by kernel_rfl) ⟨?_, trivial⟩
              ·
                refine ⟨_, rfl, rfl, ?_⟩
                refine aop_of_aops (ops := #[]) rfl ?_
                refine x_step hf rfl (r_buildSlice Try.ap32 rfl rfl rfl rfl (by simp [spC, AV.cells, AV.leaf, Value.oneCell', splice, AV.kill, AV.clean, cleanL, AV.only])) ?_
                refine aops_any ?_
                refine aany_step 4 [] (by kernel_rfl) ⟨?_, trivial⟩
                ·
                  refine ⟨_, rfl, rfl, ?_⟩
                  refine aop_of_aops (ops := #[]) rfl ?_
                  refine x_append hf rfl Try.ap32 rfl rfl rfl (.inl rfl) (by simp only [List.length_map]) rfl (by first | rfl | simp [asrc, look]) (by first | (simp only [maxLen, List.length_map, List.length_append, List.length_cons, List.length_nil]; omega) | (simp [maxLen] <;> omega)) (by first | (simp only [List.length_map, List.length_append, List.length_cons, List.length_nil]; omega) | (simp <;> omega)) ?_
                  refine aops_le (le_of (sl' := [(0, _), (3, _), (4, _), (5, _), (6, _), (11, _), (12, _), (13, _), (37, _), (38, _), (46, _)]) ⟨rfl, rfl, rfl, rfl, rfl, rfl, rfl, rfl, rfl, rfl, rfl, trivial⟩) ?_
                  refine aops_any ?_
                  refine aany_step 14 [] (by kernel_rfl) ⟨?_, trivial⟩
                  ·
                    refine ⟨_, rfl, rfl, ?_⟩
                    refine aop_of_aops (ops := #[]) rfl ?_
                    refine x_step hf rfl (r_call rfl rfl Try.ent21 rfl (news_den _ (by omega))) ?_
                    refine aops_any ?_
                    refine aany_step 15 [] (by kernel_rfl) ⟨?_, trivial⟩
                    ·
                      refine ⟨_, rfl, rfl, ?_⟩
                      refine aop_of_aops (ops := #[]) rfl ?_
                      refine x_step hf rfl (r_buildSlice Try.ap32 rfl rfl rfl rfl (by simp [spC, AV.cells, AV.leaf, Value.oneCell', splice, AV.kill, AV.clean, cleanL, AV.only])) ?_
                      refine aops_any ?_
                      refine aany_step 16 [] (by kernel_rfl) ⟨?_, trivial⟩
                      ·
                        refine ⟨_, rfl, rfl, ?_⟩
                        refine aop_of_aops (ops := #[]) rfl ?_
                        refine x_append hf rfl Try.ap32 rfl rfl rfl (.inl rfl) (by simp only [List.length_map]) rfl (by first | rfl | simp [asrc, look]) (by first | (simp only [maxLen, List.length_map, List.length_append, List.length_cons, List.length_nil]; omega) | (simp [maxLen] <;> omega)) (by first | (simp only [List.length_map, List.length_append, List.length_cons, List.length_nil]; omega) | (simp <;> omega)) ?_
                        refine aops_le (le_of (sl' := [(0, _), (3, _), (4, _), (5, _), (6, _), (11, _), (12, _), (13, _), (37, _), (49, _)]) ⟨rfl, rfl, rfl, rfl, rfl, rfl, rfl, rfl, rfl, rfl, trivial⟩) ?_
                        refine aops_any ?_
                        refine aany_step 17 [] (by kernel_rfl) ⟨?_, trivial⟩
                        ·
                          refine ⟨_, rfl, rfl, ?_⟩
                          refine aop_of_aops (ops := #[]) rfl ?_
                          refine x_pure rfl (p_assign rfl) ?_
                          refine aops_any ?_
                          refine aany_step 18 [] (by kernel_rfl) ⟨?_, trivial⟩
                          ·
                            refine ⟨_, rfl, rfl, ?_⟩
                            refine aop_of_aops (ops := #[]) rfl ?_
                            refine x_pure rfl (p_assign rfl) ?_
                            refine aops_any ?_
                            refine aany_end (by kernel_rfl) ?_
                            refine hK9 _ ?_
                            refine aw_region ?_
                            first | refine x_pure rfl (p_add rfl rfl (by omega) (by omega)) ?_ | refine x_pure rfl (p_bin rfl rfl rfl) ?_
                            refine x_pure rfl (p_move rfl) ?_
                            first | refine aops_end ?_ | refine aops_nil ?_
                            have h3 : (l.take (k + 1)).flatten.length ≤ 60 := by omega
                            refine ⟨k + 1, ⟨by omega, h3⟩, by omega, le_to ⟨rfl, rfl, rfl, (by rw [take_len1 l k (by omega)]; rfl), (by rw [take_len1 l.reverse k (by simp; omega)]; rfl), rfl, rfl, rfl, trivial⟩ ?_⟩
                            rw [take_map l (fun r : List Sp => [AV.sl 2 (r.map spC)]) k (by omega), take_map l.reverse (fun r : List Sp => [AV.sl 2 (r.map spC)]) k (by simp; omega), er]
                            rfl
          ·
            refine ⟨_, rfl, rfl, ?_⟩
            refine aop_of_aops (ops := #[]) rfl ?_
            first | refine x_pure rfl (p_load1 rfl Try.g31 rfl) ?_ | refine x_pure rfl (p_load1r rfl Try.g31 rfl rfl) ?_ | refine x_pure rfl (p_load1r rfl Try.g31 rfl (strs_ref (by simp only [List.length_cons] at *; omega))) ?_ | refine x_pure rfl (p_load1r rfl Try.g31 rfl (strs_ref (by omega))) ?_
            refine aops_any ?_
            refine aany_step 2 [] (by kernel_rfl) ⟨?_, trivial⟩
            ·
              refine ⟨_, rfl, rfl, ?_⟩
              refine aop_of_aops (ops := #[]) rfl ?_
              refine x_step hf rfl (r_call rfl rfl Try.ent21 rfl (news_den _ (by omega))) ?_
              refine aops_any ?_
              refine aany_step 3 [] (by kernel_rfl) ⟨?_, trivial⟩
              ·
                refine ⟨_, rfl, rfl, ?_⟩
                refine aop_of_aops (ops := #[]) rfl ?_
                refine x_step hf rfl (r_buildSlice Try.ap32 rfl rfl rfl rfl (by simp [spC, AV.cells, AV.leaf, Value.oneCell', splice, AV.kill, AV.clean, cleanL, AV.only])) ?_
                refine aops_any ?_
                refine aany_step 4 [] (by kernel_rfl) ⟨?_, trivial⟩
                ·
                  refine ⟨_, rfl, rfl, ?_⟩
                  refine aop_of_aops (ops := #[]) rfl ?_
                  refine x_append hf rfl Try.ap32 rfl rfl rfl (.inl rfl) (by simp only [List.length_map]) rfl (by first | rfl | simp [asrc, look]) (by first | (simp only [maxLen, List.length_map, List.length_append, List.length_cons, List.length_nil]; omega) | (simp [maxLen] <;> omega)) (by first | (simp only [List.length_map, List.length_append, List.length_cons, List.length_nil]; omega) | (simp <;> omega)) ?_
                  refine aops_le (le_of (sl' := [(0, _), (3, _), (4, _), (5, _), (6, _), (11, _), (12, _), (13, _), (37, _), (38, _), (46, _)]) ⟨rfl, rfl, rfl, rfl, rfl, rfl, rfl, rfl, rfl, rfl, rfl, trivial⟩) ?_
                  refine aops_any ?_
                  refine aany_step 14 [] (by kernel_rfl) ⟨?_, trivial⟩
                  ·
                    refine ⟨_, rfl, rfl, ?_⟩
                    refine aop_of_aops (ops := #[]) rfl ?_
                    refine x_step hf rfl (r_call rfl rfl Try.ent21 rfl (news_den _ (by omega))) ?_
                    refine aops_any ?_
                    refine aany_step 15 [] (by kernel_rfl) ⟨?_, trivial⟩
                    ·
                      refine ⟨_, rfl, rfl, ?_⟩
                      refine aop_of_aops (ops := #[]) rfl ?_
                      refine x_step hf rfl (r_buildSlice Try.ap32 rfl rfl rfl rfl (by simp [spC, AV.cells, AV.leaf, Value.oneCell', splice, AV.kill, AV.clean, cleanL, AV.only])) ?_
                      refine aops_any ?_
                      refine aany_step 16 [] (by kernel_rfl) ⟨?_, trivial⟩
                      ·
                        refine ⟨_, rfl, rfl, ?_⟩
                        refine aop_of_aops (ops := #[]) rfl ?_
                        refine x_append hf rfl Try.ap32 rfl rfl rfl (.inl rfl) (by simp only [List.length_map]) rfl (by first | rfl | simp [asrc, look]) (by first | (simp only [maxLen, List.length_map, List.length_append, List.length_cons, List.length_nil]; omega) | (simp [maxLen] <;> omega)) (by first | (simp only [List.length_map, List.length_append, List.length_cons, List.length_nil]; omega) | (simp <;> omega)) ?_
                        refine aops_le (le_of (sl' := [(0, _), (3, _), (4, _), (5, _), (6, _), (11, _), (12, _), (13, _), (37, _), (49, _)]) ⟨rfl, rfl, rfl, rfl, rfl, rfl, rfl, rfl, rfl, rfl, trivial⟩) ?_
                        refine aops_any ?_
                        refine aany_step 17 [] (by kernel_rfl) ⟨?_, trivial⟩
                        ·
                          refine ⟨_, rfl, rfl, ?_⟩
                          refine aop_of_aops (ops := #[]) rfl ?_
                          refine x_pure rfl (p_assign rfl) ?_
                          refine aops_any ?_
                          refine aany_step 18 [] (by kernel_rfl) ⟨?_, trivial⟩
                          ·
                            refine ⟨_, rfl, rfl, ?_⟩
                            refine aop_of_aops (ops := #[]) rfl ?_
                            refine x_pure rfl (p_assign rfl) ?_
                            refine aops_any ?_
                            refine aany_end (by kernel_rfl) ?_
                            refine hK9 _ ?_
                            refine aw_region ?_
                            first | refine x_pure rfl (p_add rfl rfl (by omega) (by omega)) ?_ | refine x_pure rfl (p_bin rfl rfl rfl) ?_
                            refine x_pure rfl (p_move rfl) ?_
                            first | refine aops_end ?_ | refine aops_nil ?_
                            have h3 : (l.take (k + 1)).flatten.length ≤ 60 := by omega
                            refine ⟨k + 1, ⟨by omega, h3⟩, by omega, le_to ⟨rfl, rfl, rfl, (by rw [take_len1 l k (by omega)]; rfl), (by rw [take_len1 l.reverse k (by simp; omega)]; rfl), rfl, rfl, rfl, trivial⟩ ?_⟩
                            rw [take_map l (fun r : List Sp => [AV.sl 2 (r.map spC)]) k (by omega), take_map l.reverse (fun r : List Sp => [AV.sl 2 (r.map spC)]) k (by simp; omega), er]
                            rfl
      ·
        try simp only [Bool.not_eq_true', Bool.not_eq_false', Bool.not_true, Bool.not_false, Bool.not_not, decide_eq_true_eq, decide_eq_false_iff_not, beq_iff_eq, beq_eq_false_iff_ne, bne_iff_ne, bne_eq_false_iff_eq, ne_eq, Int.not_lt, Int.not_le, Nat.not_lt, Nat.not_le, gt_iff_lt, ge_iff_le, Bool.and_eq_true, Bool.or_eq_true, Int.ofNat_lt, Int.ofNat_le, Int.natCast_inj, List.length_map, List.length_cons, List.length_nil, List.length_append] at hg2
        refine x_guard_f rfl rfl rfl ?_
        refine x_guard_f rfl rfl rfl ?_
        refine x_pure rfl (p_pick_t rfl rfl) ?_
        first | refine aops_end ?_ | refine aops_nil ?_
        refine hK13 _ ?_
        refine aw_cond_t rfl ?_
        refine aw_seq_k (fun K16 hK16 => ?_)
        refine aw_region ?_
        refine x_step hf rfl (r_call rfl rfl Try.ent20 rfl (alive_den)) ?_
        refine x_pure rfl (p_assign rfl) ?_
        first | refine aops_end ?_ | refine aops_nil ?_
        refine hK16 _ ?_
        refine aw_ret ?_
        refine ⟨_, rfl, ?_⟩
        rfl
    ·
      try simp only [Bool.not_eq_true', Bool.not_eq_false', Bool.not_true, Bool.not_false, Bool.not_not, decide_eq_true_eq, decide_eq_false_iff_not, beq_iff_eq, beq_eq_false_iff_ne, bne_iff_ne, bne_eq_false_iff_eq, ne_eq, Int.not_lt, Int.not_le, Nat.not_lt, Nat.not_le, gt_iff_lt, ge_iff_le, Bool.and_eq_true, Bool.or_eq_true, Int.ofNat_lt, Int.ofNat_le, Int.natCast_inj, List.length_map, List.length_cons, List.length_nil, List.length_append] at hc1
      refine aw_exit ?_
      refine hK5 _ ?_
      refine aw_seq_k (fun K17 hK17 => ?_)
      refine aw_seq_k (fun K18 hK18 => ?_)
      refine aw_region ?_
      have hk : l.take k = l := List.take_of_length_le (by omega)
      have hk2 : l.reverse.take k = l.reverse := List.take_of_length_le (by simp; omega)
      rw [hk] at h2
      rw [hk, hk2]
      have hlm2 : ((l.reverse).map fun r => [AV.sl 2 (r.map spC)]).length = l.reverse.length := List.length_map _
      have hrl : l.reverse.length = l.length := List.length_reverse
      have hfr : l.reverse.flatten.length = l.flatten.length := by rw [List.length_flatten, List.length_flatten, List.map_reverse, List.sum_reverse]
      have hnf := norm_len l.flatten
      have hnr := norm_len l.reverse.flatten
      refine aops_le (le_freeze (sl' := [(4, .sl 2 (l.flatten.map spC)), (5, .sl 1 ((l).map fun r => [AV.sl 2 (r.map spC)])), (6, .sl 1 ((l.reverse).map fun r => [AV.sl 2 (r.map spC)]))]) ⟨⟨_, rfl, only_whole (g := 4) rfl (by rw [List.length_map])⟩, ⟨_, rfl, only_whole (g := 5) rfl (by rw [List.length_map])⟩, ⟨_, rfl, only_whole (g := 6) rfl (by rw [List.length_map])⟩, trivial⟩) ?_
      refine x_pure rfl (p_move rfl) ?_
      first | refine x_pure rfl (p_len_sl rfl Try.e32) ?_ | refine x_pure rfl (p_len_own rfl Try.e32) ?_ | refine x_pure rfl (p_len_nil rfl Try.e32) ?_
      refine x_pure rfl (p_move rfl) ?_
      first | refine aops_end ?_ | refine aops_nil ?_
      refine hK18 _ ?_
      refine aw_block ?_
      refine aw_loop (ι := Nat) (fun j => ⟨78, [(4, .sl 2 (l.flatten.map spC)), (5, .sl 1 ((l).map fun r => [AV.sl 2 (r.map spC)])), (6, .sl 1 ((l.reverse).map fun r => [AV.sl 2 (r.map spC)])), (51, .sl 1 ((l.reverse).map fun r => [AV.sl 2 (r.map spC)])), (52, .s (.int .i64 (((l.reverse).map fun r => [AV.sl 2 (r.map spC)]).length : Nat))), (53, .s (.int .i64 (j : Nat)))], []⟩) (fun j => j ≤ l.reverse.length) (fun j => l.reverse.length - j) 0 ?_ ?_ ?_
      · exact Nat.zero_le _
      · exact le_of ⟨rfl, rfl, rfl, rfl, rfl, rfl, trivial⟩
      ·
        rintro j hC
        refine aw_seq_k (fun K19 hK19 => ?_)
        refine aw_region ?_
        refine x_pure rfl (p_bin rfl rfl rfl) ?_
        first | refine aops_end ?_ | refine aops_nil ?_
        refine hK19 _ ?_
        refine aw_seq_k (fun K20 hK20 => ?_)
        refine aw_cond_s rfl (fun hc5 => ?_) (fun hc5 => ?_)
        ·
          try simp only [Bool.not_eq_true', Bool.not_eq_false', Bool.not_true, Bool.not_false, Bool.not_not, decide_eq_true_eq, decide_eq_false_iff_not, beq_iff_eq, beq_eq_false_iff_ne, bne_iff_ne, bne_eq_false_iff_eq, ne_eq, Int.not_lt, Int.not_le, Nat.not_lt, Nat.not_le, gt_iff_lt, ge_iff_le, Bool.and_eq_true, Bool.or_eq_true, Int.ofNat_lt, Int.ofNat_le, Int.natCast_inj, List.length_map, List.length_cons, List.length_nil, List.length_append] at hc5
          refine aw_skip ?_
          refine hK20 _ ?_
          refine aw_seq_k (fun K21 hK21 => ?_)
          refine aw_block ?_
          refine aw_seq_k (fun K22 hK22 => ?_)
          refine aw_region ?_
          first | refine x_pure rfl (p_idx_sl rfl rfl Try.e32 Try.c33 (by first | assumption | (refine ⟨by omega, ?_⟩; first | assumption | exact strs_at (by omega) | exact strs_at (by simp only [List.length_cons] at *; omega) | exact ints_at (by omega) | exact map_at (by omega) | exact list_at (by omega)) | exact ⟨by decide, rfl⟩)) ?_ | refine x_pure rfl (p_idx_own rfl rfl Try.e32 Try.c33 (by omega)) ?_
          first | refine x_pure rfl (p_load1 rfl Try.g33 rfl) ?_ | refine x_pure rfl (p_load1r rfl Try.g33 rfl rfl) ?_ | refine x_pure rfl (p_load1r rfl Try.g33 rfl (strs_ref (by simp only [List.length_cons] at *; omega))) ?_ | refine x_pure rfl (p_load1r rfl Try.g33 rfl (strs_ref (by omega))) ?_
          refine x_pure rfl (p_assign rfl) ?_
          first | refine aops_end ?_ | refine aops_nil ?_
          refine hK22 _ ?_
          refine aw_seq_k (fun K23 hK23 => ?_)
          refine aw_region ?_
          refine x_pure rfl (p_move rfl) ?_
          first | refine x_pure rfl (p_len_sl rfl Try.e33) ?_ | refine x_pure rfl (p_len_own rfl Try.e33) ?_ | refine x_pure rfl (p_len_nil rfl Try.e33) ?_
          refine x_pure rfl (p_bin rfl rfl rfl) ?_
          first | refine aops_end ?_ | refine aops_nil ?_
          refine hK23 _ ?_
          refine aw_cond_s rfl (fun hc6 => ?_) (fun hc6 => ?_)
          ·
            try simp only [Bool.not_eq_true', Bool.not_eq_false', Bool.not_true, Bool.not_false, Bool.not_not, decide_eq_true_eq, decide_eq_false_iff_not, beq_iff_eq, beq_eq_false_iff_ne, bne_iff_ne, bne_eq_false_iff_eq, ne_eq, Int.not_lt, Int.not_le, Nat.not_lt, Nat.not_le, gt_iff_lt, ge_iff_le, Bool.and_eq_true, Bool.or_eq_true, Int.ofNat_lt, Int.ofNat_le, Int.natCast_inj, List.length_map, List.length_cons, List.length_nil, List.length_append] at hc6
            refine aw_seq_k (fun K24 hK24 => ?_)
            refine aw_region ?_
            refine x_step hf rfl (r_call rfl rfl Try.ent20 rfl (alive_den)) ?_
            refine x_pure rfl (p_assign rfl) ?_
            first | refine aops_end ?_ | refine aops_nil ?_
            refine hK24 _ ?_
            refine aw_ret ?_
            refine ⟨_, rfl, ?_⟩
            rfl
          ·
            try simp only [Bool.not_eq_true', Bool.not_eq_false', Bool.not_true, Bool.not_false, Bool.not_not, decide_eq_true_eq, decide_eq_false_iff_not, beq_iff_eq, beq_eq_false_iff_ne, bne_iff_ne, bne_eq_false_iff_eq, ne_eq, Int.not_lt, Int.not_le, Nat.not_lt, Nat.not_le, gt_iff_lt, ge_iff_le, Bool.and_eq_true, Bool.or_eq_true, Int.ofNat_lt, Int.ofNat_le, Int.natCast_inj, List.length_map, List.length_cons, List.length_nil, List.length_append] at hc6
            refine aw_skip ?_
            refine hK21 _ ?_
            refine aw_region ?_
            first | refine x_pure rfl (p_add rfl rfl (by omega) (by omega)) ?_ | refine x_pure rfl (p_bin rfl rfl rfl) ?_
            refine x_pure rfl (p_move rfl) ?_
            first | refine aops_end ?_ | refine aops_nil ?_
            exact ⟨j+1, (by omega), by omega, le_of ⟨rfl, rfl, rfl, rfl, rfl, rfl, trivial⟩⟩
        ·
          try simp only [Bool.not_eq_true', Bool.not_eq_false', Bool.not_true, Bool.not_false, Bool.not_not, decide_eq_true_eq, decide_eq_false_iff_not, beq_iff_eq, beq_eq_false_iff_ne, bne_iff_ne, bne_eq_false_iff_eq, ne_eq, Int.not_lt, Int.not_le, Nat.not_lt, Nat.not_le, gt_iff_lt, ge_iff_le, Bool.and_eq_true, Bool.or_eq_true, Int.ofNat_lt, Int.ofNat_le, Int.natCast_inj, List.length_map, List.length_cons, List.length_nil, List.length_append] at hc5
          refine aw_exit ?_
          refine hK17 _ ?_
          refine aw_seq_k (fun K25 hK25 => ?_)
          refine aw_region ?_
          refine x_step hf rfl (r_call rfl rfl Try.ent20 rfl (alive_den)) ?_
          refine x_pure rfl (p_move rfl) ?_
          refine x_guard_t rfl rfl rfl ?_
          refine x_pure rfl (p_move rfl) ?_
          refine x_guard_t rfl rfl rfl ?_
          refine x_step hf rfl (r_call rfl rfl Try.ent24 rfl (join_den l (by omega) (by omega))) ?_
          refine x_guard_t rfl rfl rfl ?_
          refine x_step hf rfl (r_call rfl rfl Try.ent23 rfl (olds_den _ (by omega))) ?_
          refine x_guard_t rfl rfl rfl ?_
          refine x_pure rfl (p_move rfl) ?_
          refine x_guard_t rfl rfl rfl ?_
          refine x_step hf rfl (r_call rfl rfl Try.ent25 rfl (refNorm_den _ (by omega))) ?_
          refine x_guard_t rfl rfl rfl ?_
          refine x_step hf rfl (r_call rfl rfl Try.ent22 rfl (refSameT_den _ _ (rfl) (by omega))) ?_
          refine x_pure rfl (p_pick_t rfl rfl) ?_
          refine x_pure rfl (p_move rfl) ?_
          refine x_guard_t rfl rfl rfl ?_
          refine x_pure rfl (p_move rfl) ?_
          refine x_guard_t rfl rfl rfl ?_
          refine x_step hf rfl (r_call rfl rfl Try.ent24 rfl (join_den l.reverse (by simp; omega) (by omega))) ?_
          refine x_guard_t rfl rfl rfl ?_
          refine x_pure rfl (p_move rfl) ?_
          refine x_guard_t rfl rfl rfl ?_
          refine x_step hf rfl (r_call rfl rfl Try.ent24 rfl (join_den l (by omega) (by omega))) ?_
          refine x_guard_t rfl rfl rfl ?_
          refine x_step hf rfl (r_call rfl rfl Try.ent26 rfl (sameT_den _ _ (join_rev l) (by omega))) ?_
          refine x_pure rfl (p_pick_t rfl rfl) ?_
          refine x_pure rfl (p_assign rfl) ?_
          first | refine aops_end ?_ | refine aops_nil ?_
          refine hK25 _ ?_
          refine aw_ret ?_
          refine ⟨_, rfl, ?_⟩
          rfl
end Go.Proofs.Ytkjniggdldpnoaa
