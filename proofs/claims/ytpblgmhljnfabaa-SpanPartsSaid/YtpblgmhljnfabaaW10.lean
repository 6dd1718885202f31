import Derived.Test.YtpblgmhljnfabaaW9
set_option linter.unusedVariables false
set_option linter.unusedSimpArgs false
namespace Go.Proofs.Ytpblgmhljnfabaa
open Go Go.Abs

set_option maxHeartbeats 4000000 in
theorem spanHas_den (a b : List Sp) (t : Int) (ha : a.length ≤ 9223372036854775807) (hb0 : b.length ≤ 9223372036854775807)  : Den Try.prog 7 [.sl 2 (a.map spC), .sl 2 (b.map spC), .s (.int .i64 t)]  (· = .s (.bool true)) := by
  refine den_of_aw Try.func7 rfl (Nat.le_of_ble_eq_true rfl) (fun w0 A hf => ?_)
  refine aw_seq_k (fun K1 hK1 => ?_)
  refine aw_region ?_
  refine x_pure rfl (p_assign_bad) ?_
  first | refine aops_end ?_ | refine aops_nil ?_
  refine hK1 _ ?_
  refine aw_seq_k (fun K2 hK2 => ?_)
  refine aw_seq_k (fun K3 hK3 => ?_)
  refine aw_region ?_
  refine x_pure rfl (p_move rfl) ?_
  first | refine x_pure rfl (p_len_sl rfl Try.e29) ?_ | refine x_pure rfl (p_len_own rfl Try.e29) ?_ | refine x_pure rfl (p_len_nil rfl Try.e29) ?_
  refine x_pure rfl (p_bin rfl rfl rfl) ?_
  refine x_pure rfl (p_move rfl) ?_
  refine y_guard_s rfl rfl rfl (fun hg1 => ?_) (fun hg1 => ?_)
  ·
    try simp only [Bool.not_eq_true', Bool.not_eq_false', Bool.not_true, Bool.not_false, Bool.not_not, decide_eq_true_eq, decide_eq_false_iff_not, beq_iff_eq, beq_eq_false_iff_ne, bne_iff_ne, bne_eq_false_iff_eq, ne_eq, Int.not_lt, Int.not_le, Nat.not_lt, Nat.not_le, gt_iff_lt, ge_iff_le, Bool.and_eq_true, Bool.or_eq_true, Int.ofNat_lt, Int.ofNat_le, Int.natCast_inj, List.length_map, List.length_cons, List.length_nil, List.length_append] at hg1
    refine x_pure rfl (p_move rfl) ?_
    refine x_guard_t rfl rfl rfl ?_
    first | refine x_pure rfl (p_len_sl rfl Try.e29) ?_ | refine x_pure rfl (p_len_own rfl Try.e29) ?_ | refine x_pure rfl (p_len_nil rfl Try.e29) ?_
    refine x_guard_t rfl rfl rfl ?_
    refine x_pure rfl (p_bin rfl rfl rfl) ?_
    refine x_pure rfl (p_pick_f rfl rfl) ?_
    first | refine aops_end ?_ | refine aops_nil ?_
    refine hK3 _ ?_
    refine aw_cond_s rfl (fun hc2 => ?_) (fun hc2 => ?_)
    ·
      try simp only [Bool.not_eq_true', Bool.not_eq_false', Bool.not_true, Bool.not_false, Bool.not_not, decide_eq_true_eq, decide_eq_false_iff_not, beq_iff_eq, beq_eq_false_iff_ne, bne_iff_ne, bne_eq_false_iff_eq, ne_eq, Int.not_lt, Int.not_le, Nat.not_lt, Nat.not_le, gt_iff_lt, ge_iff_le, Bool.and_eq_true, Bool.or_eq_true, Int.ofNat_lt, Int.ofNat_le, Int.natCast_inj, List.length_map, List.length_cons, List.length_nil, List.length_append] at hc2
      refine aw_seq_k (fun K4 hK4 => ?_)
      refine aw_region ?_
      refine x_step hf rfl (r_call rfl rfl Try.ent12 rfl (alive_den)) ?_
      refine x_pure rfl (p_assign rfl) ?_
      first | refine aops_end ?_ | refine aops_nil ?_
      refine hK4 _ ?_
      refine aw_ret ?_
      refine ⟨_, rfl, ?_⟩
      rfl
    ·
      try simp only [Bool.not_eq_true', Bool.not_eq_false', Bool.not_true, Bool.not_false, Bool.not_not, decide_eq_true_eq, decide_eq_false_iff_not, beq_iff_eq, beq_eq_false_iff_ne, bne_iff_ne, bne_eq_false_iff_eq, ne_eq, Int.not_lt, Int.not_le, Nat.not_lt, Nat.not_le, gt_iff_lt, ge_iff_le, Bool.and_eq_true, Bool.or_eq_true, Int.ofNat_lt, Int.ofNat_le, Int.natCast_inj, List.length_map, List.length_cons, List.length_nil, List.length_append] at hc2
      refine aw_skip ?_
      refine hK2 _ ?_
      refine aw_seq_k (fun K5 hK5 => ?_)
      refine aw_region ?_
      have hm1 := Nat.mul_le_mul (show a.length ≤ 30 by omega) (show b.length ≤ 30 by omega)
      have hm2 := Nat.mul_comm b.length a.length
      have hml := meet_len a b
      have hml2 := meet_len b a
      have hll := less_len a b
      have hnl := norm_len a
      have hlm := meet_len (lessL a b) b
      have hlm1 := Nat.mul_le_mul (show (lessL a b).length ≤ 120 by omega) (show b.length ≤ 30 by omega)
      have hj := norm_len (List.flatten [a, b])
      have hj2 : (List.flatten [a, b]).length = a.length + b.length := by simp
      refine x_pure rfl (p_move rfl) ?_
      refine x_step hf rfl (r_call rfl rfl Try.ent15 rfl (news_den _ (by omega))) ?_
      refine x_pure rfl (p_move rfl) ?_
      refine x_step hf rfl (r_call rfl rfl Try.ent15 rfl (news_den _ (by omega))) ?_
      refine x_pure rfl (p_assign rfl) ?_
      refine x_pure rfl (p_assign rfl) ?_
      first | refine aops_end ?_ | refine aops_nil ?_
      refine hK5 _ ?_
      refine aw_seq_k (fun K6 hK6 => ?_)
      refine aw_region ?_
      refine x_pure rfl (p_move rfl) ?_
      refine x_pure rfl (p_move rfl) ?_
      refine x_step hf rfl (r_call rfl rfl Try.ent26 rfl (refHas_den _ _ (by omega))) ?_
      refine x_pure rfl (p_move rfl) ?_
      refine x_pure rfl (p_move rfl) ?_
      refine x_step hf rfl (r_call rfl rfl Try.ent26 rfl (refHas_den _ _ (by omega))) ?_
      refine x_pure rfl (p_assign rfl) ?_
      refine x_pure rfl (p_assign rfl) ?_
      first | refine aops_end ?_ | refine aops_nil ?_
      refine hK6 _ ?_
      refine aw_seq_k (fun K7 hK7 => ?_)
      refine aw_region ?_
      have e1 := (norm_spec a).2 t
      have e2 := (norm_spec (List.flatten [a, b])).2 t
      rw [flat2] at e2
      have e3 := (meet_spec a b).2 t
      have e4 := (less_spec a b).2 t
      refine x_step hf rfl (r_call rfl rfl Try.ent12 rfl (alive_den)) ?_
      refine x_pure rfl (p_move rfl) ?_
      refine x_guard_t rfl rfl rfl ?_
      refine x_pure rfl (p_move rfl) ?_
      refine x_guard_t rfl rfl rfl ?_
      refine x_pure rfl (p_move rfl) ?_
      refine x_guard_t rfl rfl rfl ?_
      refine x_step hf rfl (r_call rfl rfl Try.ent27 rfl (hasAny_den _ _ (by omega))) ?_
      refine x_guard_t rfl rfl rfl ?_
      refine x_pure rfl (p_move rfl) ?_
      refine x_guard_t rfl rfl rfl ?_
      refine x_pure rfl (p_bin rfl rfl (booleq_t Try.underlying4 (rfl))) ?_
      refine x_pure rfl (p_pick_t rfl rfl) ?_
      refine x_pure rfl (p_move rfl) ?_
      refine x_guard_t rfl rfl rfl ?_
      refine x_pure rfl (p_move rfl) ?_
      refine x_guard_t rfl rfl rfl ?_
      refine x_step hf rfl (r_call rfl rfl Try.ent17 rfl (norm_den _ (by omega))) ?_
      refine x_guard_t rfl rfl rfl ?_
      refine x_pure rfl (p_move rfl) ?_
      refine x_guard_t rfl rfl rfl ?_
      refine x_step hf rfl (r_call rfl rfl Try.ent27 rfl (hasAny_den _ _ (by omega))) ?_
      refine x_guard_t rfl rfl rfl ?_
      refine x_pure rfl (p_move rfl) ?_
      refine x_guard_t rfl rfl rfl ?_
      refine x_pure rfl (p_bin rfl rfl (booleq_t Try.underlying4 (e1))) ?_
      refine x_pure rfl (p_pick_t rfl rfl) ?_
      refine x_pure rfl (p_move rfl) ?_
      refine x_guard_t rfl rfl rfl ?_
      refine x_pure rfl (p_move rfl) ?_
      refine x_guard_t rfl rfl rfl ?_
      refine x_pure rfl (p_move rfl) ?_
      refine x_guard_t rfl rfl rfl ?_
      refine x_step hf rfl (r_buildSlice Try.ap38 rfl rfl rfl rfl (by simp [spC, AV.cells, AV.leaf, Value.oneCell', splice, AV.kill, AV.clean, cleanL, AV.only])) ?_
      refine x_guard_t rfl rfl rfl ?_
      refine x_step hf rfl (r_call rfl rfl Try.ent20 rfl (joinT_den _ _ (by omega))) ?_
      refine x_guard_t rfl rfl rfl ?_
      refine x_pure rfl (p_move rfl) ?_
      refine x_guard_t rfl rfl rfl ?_
      refine x_step hf rfl (r_call rfl rfl Try.ent27 rfl (hasAny_den _ _ (by omega))) ?_
      refine x_guard_t rfl rfl rfl ?_
      refine x_pure rfl (p_move rfl) ?_
      refine x_guard_t rfl rfl rfl ?_
      refine x_pure rfl (p_move rfl) ?_
      refine y_guard_s rfl rfl rfl (fun hg3 => ?_) (fun hg3 => ?_)
      ·
        try simp only [Bool.not_eq_true', Bool.not_eq_false', Bool.not_true, Bool.not_false, Bool.not_not, decide_eq_true_eq, decide_eq_false_iff_not, beq_iff_eq, beq_eq_false_iff_ne, bne_iff_ne, bne_eq_false_iff_eq, ne_eq, Int.not_lt, Int.not_le, Nat.not_lt, Nat.not_le, gt_iff_lt, ge_iff_le, Bool.and_eq_true, Bool.or_eq_true, Int.ofNat_lt, Int.ofNat_le, Int.natCast_inj, List.length_map, List.length_cons, List.length_nil, List.length_append] at hg3
        refine x_pure rfl (p_move rfl) ?_
        refine x_guard_t rfl rfl rfl ?_
        refine x_pure rfl (p_pick_f rfl rfl) ?_
        refine x_guard_t rfl rfl rfl ?_
        refine x_pure rfl (p_bin rfl rfl (booleq_t Try.underlying4 (by simp_all))) ?_
        refine x_pure rfl (p_pick_t rfl rfl) ?_
        refine x_pure rfl (p_move rfl) ?_
        refine x_guard_t rfl rfl rfl ?_
        refine x_pure rfl (p_move rfl) ?_
        refine x_guard_t rfl rfl rfl ?_
        refine x_pure rfl (p_move rfl) ?_
        refine x_guard_t rfl rfl rfl ?_
        refine x_step hf rfl (r_call rfl rfl Try.ent22 rfl (meet_den _ _ (by omega) (by omega) (by omega))) ?_
        refine x_guard_t rfl rfl rfl ?_
        refine x_pure rfl (p_move rfl) ?_
        refine x_guard_t rfl rfl rfl ?_
        refine x_step hf rfl (r_call rfl rfl Try.ent27 rfl (hasAny_den _ _ (by omega))) ?_
        refine x_guard_t rfl rfl rfl ?_
        refine x_pure rfl (p_move rfl) ?_
        refine x_guard_t rfl rfl rfl ?_
        refine x_pure rfl (p_move rfl) ?_
        refine y_guard_s rfl rfl rfl (fun hg4 => ?_) (fun hg4 => ?_)
        ·
          try simp only [Bool.not_eq_true', Bool.not_eq_false', Bool.not_true, Bool.not_false, Bool.not_not, decide_eq_true_eq, decide_eq_false_iff_not, beq_iff_eq, beq_eq_false_iff_ne, bne_iff_ne, bne_eq_false_iff_eq, ne_eq, Int.not_lt, Int.not_le, Nat.not_lt, Nat.not_le, gt_iff_lt, ge_iff_le, Bool.and_eq_true, Bool.or_eq_true, Int.ofNat_lt, Int.ofNat_le, Int.natCast_inj, List.length_map, List.length_cons, List.length_nil, List.length_append] at hg4
          refine x_pure rfl (p_move rfl) ?_
          refine x_guard_t rfl rfl rfl ?_
          refine x_pure rfl (p_pick_t rfl rfl) ?_
          refine x_guard_t rfl rfl rfl ?_
          refine x_pure rfl (p_bin rfl rfl (booleq_t Try.underlying4 (by simp_all))) ?_
          refine x_pure rfl (p_pick_t rfl rfl) ?_
          refine x_pure rfl (p_move rfl) ?_
          refine x_guard_t rfl rfl rfl ?_
          refine x_pure rfl (p_move rfl) ?_
          refine x_guard_t rfl rfl rfl ?_
          refine x_pure rfl (p_move rfl) ?_
          refine x_guard_t rfl rfl rfl ?_
          refine x_step hf rfl (r_call rfl rfl Try.ent24 rfl (less_den _ _ (by omega))) ?_
          refine x_guard_t rfl rfl rfl ?_
          refine x_pure rfl (p_move rfl) ?_
          refine x_guard_t rfl rfl rfl ?_
          refine x_step hf rfl (r_call rfl rfl Try.ent27 rfl (hasAny_den _ _ (by omega))) ?_
          refine x_guard_t rfl rfl rfl ?_
          refine x_pure rfl (p_move rfl) ?_
          refine x_guard_t rfl rfl rfl ?_
          refine x_pure rfl (p_move rfl) ?_
          refine y_guard_s rfl rfl rfl (fun hg5 => ?_) (fun hg5 => ?_)
          ·
            try simp only [Bool.not_eq_true', Bool.not_eq_false', Bool.not_true, Bool.not_false, Bool.not_not, decide_eq_true_eq, decide_eq_false_iff_not, beq_iff_eq, beq_eq_false_iff_ne, bne_iff_ne, bne_eq_false_iff_eq, ne_eq, Int.not_lt, Int.not_le, Nat.not_lt, Nat.not_le, gt_iff_lt, ge_iff_le, Bool.and_eq_true, Bool.or_eq_true, Int.ofNat_lt, Int.ofNat_le, Int.natCast_inj, List.length_map, List.length_cons, List.length_nil, List.length_append] at hg5
            refine x_pure rfl (p_move rfl) ?_
            refine x_guard_t rfl rfl rfl ?_
            refine x_pure rfl (p_not rfl) ?_
            refine x_guard_t rfl rfl rfl ?_
            refine x_pure rfl (p_pick_t rfl rfl) ?_
            refine x_guard_t rfl rfl rfl ?_
            refine x_pure rfl (p_bin rfl rfl (booleq_t Try.underlying4 (by simp_all))) ?_
            refine x_pure rfl (p_pick_t rfl rfl) ?_
            refine x_pure rfl (p_move rfl) ?_
            refine x_guard_t rfl rfl rfl ?_
            refine x_pure rfl (p_move rfl) ?_
            refine x_guard_t rfl rfl rfl ?_
            refine x_pure rfl (p_move rfl) ?_
            refine x_guard_t rfl rfl rfl ?_
            refine x_step hf rfl (r_call rfl rfl Try.ent21 rfl (sameT_den _ _ (rfl) (by omega))) ?_
            refine x_pure rfl (p_pick_t rfl rfl) ?_
            refine x_pure rfl (p_move rfl) ?_
            refine x_guard_t rfl rfl rfl ?_
            refine x_pure rfl (p_move rfl) ?_
            refine x_guard_t rfl rfl rfl ?_
            refine x_pure rfl (p_move rfl) ?_
            refine x_guard_t rfl rfl rfl ?_
            refine x_step hf rfl (r_call rfl rfl Try.ent21 rfl (same7_den a b (by omega) (by omega))) ?_
            refine x_guard_t rfl rfl rfl ?_
            refine x_pure rfl (p_move rfl) ?_
            refine x_guard_t rfl rfl rfl ?_
            refine x_pure rfl (p_move rfl) ?_
            refine x_guard_t rfl rfl rfl ?_
            refine x_step hf rfl (r_call rfl rfl Try.ent18 rfl (same_den a b (by omega) (by omega))) ?_
            refine x_guard_t rfl rfl rfl ?_
            refine x_pure rfl (p_bin rfl rfl (booleq_t Try.underlying4 (rfl))) ?_
            refine x_pure rfl (p_pick_t rfl rfl) ?_
            refine x_pure rfl (p_assign rfl) ?_
            first | refine aops_end ?_ | refine aops_nil ?_
            refine hK7 _ ?_
            refine aw_ret ?_
            refine ⟨_, rfl, ?_⟩
            rfl
          ·
            try simp only [Bool.not_eq_true', Bool.not_eq_false', Bool.not_true, Bool.not_false, Bool.not_not, decide_eq_true_eq, decide_eq_false_iff_not, beq_iff_eq, beq_eq_false_iff_ne, bne_iff_ne, bne_eq_false_iff_eq, ne_eq, Int.not_lt, Int.not_le, Nat.not_lt, Nat.not_le, gt_iff_lt, ge_iff_le, Bool.and_eq_true, Bool.or_eq_true, Int.ofNat_lt, Int.ofNat_le, Int.natCast_inj, List.length_map, List.length_cons, List.length_nil, List.length_append] at hg5
            refine x_guard_f rfl rfl rfl ?_
            refine x_guard_t rfl rfl rfl ?_
            refine x_pure rfl (p_pick_f rfl rfl) ?_
            refine x_guard_t rfl rfl rfl ?_
            refine x_pure rfl (p_bin rfl rfl (booleq_t Try.underlying4 (by simp_all))) ?_
            refine x_pure rfl (p_pick_t rfl rfl) ?_
            refine x_pure rfl (p_move rfl) ?_
            refine x_guard_t rfl rfl rfl ?_
            refine x_pure rfl (p_move rfl) ?_
            refine x_guard_t rfl rfl rfl ?_
            refine x_pure rfl (p_move rfl) ?_
            refine x_guard_t rfl rfl rfl ?_
            refine x_step hf rfl (r_call rfl rfl Try.ent21 rfl (sameT_den _ _ (rfl) (by omega))) ?_
            refine x_pure rfl (p_pick_t rfl rfl) ?_
            refine x_pure rfl (p_move rfl) ?_
            refine x_guard_t rfl rfl rfl ?_
            refine x_pure rfl (p_move rfl) ?_
            refine x_guard_t rfl rfl rfl ?_
            refine x_pure rfl (p_move rfl) ?_
            refine x_guard_t rfl rfl rfl ?_
            refine x_step hf rfl (r_call rfl rfl Try.ent21 rfl (same7_den a b (by omega) (by omega))) ?_
            refine x_guard_t rfl rfl rfl ?_
            refine x_pure rfl (p_move rfl) ?_
            refine x_guard_t rfl rfl rfl ?_
            refine x_pure rfl (p_move rfl) ?_
            refine x_guard_t rfl rfl rfl ?_
            refine x_step hf rfl (r_call rfl rfl Try.ent18 rfl (same_den a b (by omega) (by omega))) ?_
            refine x_guard_t rfl rfl rfl ?_
            refine x_pure rfl (p_bin rfl rfl (booleq_t Try.underlying4 (rfl))) ?_
            refine x_pure rfl (p_pick_t rfl rfl) ?_
            refine x_pure rfl (p_assign rfl) ?_
            first | refine aops_end ?_ | refine aops_nil ?_
            refine hK7 _ ?_
            refine aw_ret ?_
            refine ⟨_, rfl, ?_⟩
            rfl
        ·
          try simp only [Bool.not_eq_true', Bool.not_eq_false', Bool.not_true, Bool.not_false, Bool.not_not, decide_eq_true_eq, decide_eq_false_iff_not, beq_iff_eq, beq_eq_false_iff_ne, bne_iff_ne, bne_eq_false_iff_eq, ne_eq, Int.not_lt, Int.not_le, Nat.not_lt, Nat.not_le, gt_iff_lt, ge_iff_le, Bool.and_eq_true, Bool.or_eq_true, Int.ofNat_lt, Int.ofNat_le, Int.natCast_inj, List.length_map, List.length_cons, List.length_nil, List.length_append] at hg4
          refine x_guard_t rfl rfl rfl ?_
          refine x_pure rfl (p_pick_f rfl rfl) ?_
          refine x_guard_t rfl rfl rfl ?_
          refine x_pure rfl (p_bin rfl rfl (booleq_t Try.underlying4 (by simp_all))) ?_
          refine x_pure rfl (p_pick_t rfl rfl) ?_
          refine x_pure rfl (p_move rfl) ?_
          refine x_guard_t rfl rfl rfl ?_
          refine x_pure rfl (p_move rfl) ?_
          refine x_guard_t rfl rfl rfl ?_
          refine x_pure rfl (p_move rfl) ?_
          refine x_guard_t rfl rfl rfl ?_
          refine x_step hf rfl (r_call rfl rfl Try.ent24 rfl (less_den _ _ (by omega))) ?_
          refine x_guard_t rfl rfl rfl ?_
          refine x_pure rfl (p_move rfl) ?_
          refine x_guard_t rfl rfl rfl ?_
          refine x_step hf rfl (r_call rfl rfl Try.ent27 rfl (hasAny_den _ _ (by omega))) ?_
          refine x_guard_t rfl rfl rfl ?_
          refine x_pure rfl (p_move rfl) ?_
          refine x_guard_t rfl rfl rfl ?_
          refine x_pure rfl (p_move rfl) ?_
          refine y_guard_s rfl rfl rfl (fun hg6 => ?_) (fun hg6 => ?_)
          ·
            try simp only [Bool.not_eq_true', Bool.not_eq_false', Bool.not_true, Bool.not_false, Bool.not_not, decide_eq_true_eq, decide_eq_false_iff_not, beq_iff_eq, beq_eq_false_iff_ne, bne_iff_ne, bne_eq_false_iff_eq, ne_eq, Int.not_lt, Int.not_le, Nat.not_lt, Nat.not_le, gt_iff_lt, ge_iff_le, Bool.and_eq_true, Bool.or_eq_true, Int.ofNat_lt, Int.ofNat_le, Int.natCast_inj, List.length_map, List.length_cons, List.length_nil, List.length_append] at hg6
            refine x_pure rfl (p_move rfl) ?_
            refine x_guard_t rfl rfl rfl ?_
            refine x_pure rfl (p_not rfl) ?_
            refine x_guard_t rfl rfl rfl ?_
            refine x_pure rfl (p_pick_t rfl rfl) ?_
            refine x_guard_t rfl rfl rfl ?_
            refine x_pure rfl (p_bin rfl rfl (booleq_t Try.underlying4 (by simp_all))) ?_
            refine x_pure rfl (p_pick_t rfl rfl) ?_
            refine x_pure rfl (p_move rfl) ?_
            refine x_guard_t rfl rfl rfl ?_
            refine x_pure rfl (p_move rfl) ?_
            refine x_guard_t rfl rfl rfl ?_
            refine x_pure rfl (p_move rfl) ?_
            refine x_guard_t rfl rfl rfl ?_
            refine x_step hf rfl (r_call rfl rfl Try.ent21 rfl (sameT_den _ _ (rfl) (by omega))) ?_
            refine x_pure rfl (p_pick_t rfl rfl) ?_
            refine x_pure rfl (p_move rfl) ?_
            refine x_guard_t rfl rfl rfl ?_
            refine x_pure rfl (p_move rfl) ?_
            refine x_guard_t rfl rfl rfl ?_
            refine x_pure rfl (p_move rfl) ?_
            refine x_guard_t rfl rfl rfl ?_
            refine x_step hf rfl (r_call rfl rfl Try.ent21 rfl (same7_den a b (by omega) (by omega))) ?_
            refine x_guard_t rfl rfl rfl ?_
            refine x_pure rfl (p_move rfl) ?_
            refine x_guard_t rfl rfl rfl ?_
            refine x_pure rfl (p_move rfl) ?_
            refine x_guard_t rfl rfl rfl ?_
            refine x_step hf rfl (r_call rfl rfl Try.ent18 rfl (same_den a b (by omega) (by omega))) ?_
            refine x_guard_t rfl rfl rfl ?_
            refine x_pure rfl (p_bin rfl rfl (booleq_t Try.underlying4 (rfl))) ?_
            refine x_pure rfl (p_pick_t rfl rfl) ?_
            refine x_pure rfl (p_assign rfl) ?_
            first | refine aops_end ?_ | refine aops_nil ?_
            refine hK7 _ ?_
            refine aw_ret ?_
            refine ⟨_, rfl, ?_⟩
            rfl
          ·
            try simp only [Bool.not_eq_true', Bool.not_eq_false', Bool.not_true, Bool.not_false, Bool.not_not, decide_eq_true_eq, decide_eq_false_iff_not, beq_iff_eq, beq_eq_false_iff_ne, bne_iff_ne, bne_eq_false_iff_eq, ne_eq, Int.not_lt, Int.not_le, Nat.not_lt, Nat.not_le, gt_iff_lt, ge_iff_le, Bool.and_eq_true, Bool.or_eq_true, Int.ofNat_lt, Int.ofNat_le, Int.natCast_inj, List.length_map, List.length_cons, List.length_nil, List.length_append] at hg6
            refine x_guard_f rfl rfl rfl ?_
            refine x_guard_t rfl rfl rfl ?_
            refine x_pure rfl (p_pick_f rfl rfl) ?_
            refine x_guard_t rfl rfl rfl ?_
            refine x_pure rfl (p_bin rfl rfl (booleq_t Try.underlying4 (by simp_all))) ?_
            refine x_pure rfl (p_pick_t rfl rfl) ?_
            refine x_pure rfl (p_move rfl) ?_
            refine x_guard_t rfl rfl rfl ?_
            refine x_pure rfl (p_move rfl) ?_
            refine x_guard_t rfl rfl rfl ?_
            refine x_pure rfl (p_move rfl) ?_
            refine x_guard_t rfl rfl rfl ?_
            refine x_step hf rfl (r_call rfl rfl Try.ent21 rfl (sameT_den _ _ (rfl) (by omega))) ?_
            refine x_pure rfl (p_pick_t rfl rfl) ?_
            refine x_pure rfl (p_move rfl) ?_
            refine x_guard_t rfl rfl rfl ?_
            refine x_pure rfl (p_move rfl) ?_
            refine x_guard_t rfl rfl rfl ?_
            refine x_pure rfl (p_move rfl) ?_
            refine x_guard_t rfl rfl rfl ?_
            refine x_step hf rfl (r_call rfl rfl Try.ent21 rfl (same7_den a b (by omega) (by omega))) ?_
            refine x_guard_t rfl rfl rfl ?_
            refine x_pure rfl (p_move rfl) ?_
            refine x_guard_t rfl rfl rfl ?_
            refine x_pure rfl (p_move rfl) ?_
            refine x_guard_t rfl rfl rfl ?_
            refine x_step hf rfl (r_call rfl rfl Try.ent18 rfl (same_den a b (by omega) (by omega))) ?_
            refine x_guard_t rfl rfl rfl ?_
            refine x_pure rfl (p_bin rfl rfl (booleq_t Try.underlying4 (rfl))) ?_
            refine x_pure rfl (p_pick_t rfl rfl) ?_
            refine x_pure rfl (p_assign rfl) ?_
            first | refine aops_end ?_ | refine aops_nil ?_
            refine hK7 _ ?_
            refine aw_ret ?_
            refine ⟨_, rfl, ?_⟩
            rfl
      ·
        try simp only [Bool.not_eq_true', Bool.not_eq_false', Bool.not_true, Bool.not_false, Bool.not_not, decide_eq_true_eq, decide_eq_false_iff_not, beq_iff_eq, beq_eq_false_iff_ne, bne_iff_ne, bne_eq_false_iff_eq, ne_eq, Int.not_lt, Int.not_le, Nat.not_lt, Nat.not_le, gt_iff_lt, ge_iff_le, Bool.and_eq_true, Bool.or_eq_true, Int.ofNat_lt, Int.ofNat_le, Int.natCast_inj, List.length_map, List.length_cons, List.length_nil, List.length_append] at hg3
        refine x_guard_t rfl rfl rfl ?_
        refine x_pure rfl (p_pick_t rfl rfl) ?_
        refine x_guard_t rfl rfl rfl ?_
        refine x_pure rfl (p_bin rfl rfl (booleq_t Try.underlying4 (by simp_all))) ?_
        refine x_pure rfl (p_pick_t rfl rfl) ?_
        refine x_pure rfl (p_move rfl) ?_
        refine x_guard_t rfl rfl rfl ?_
        refine x_pure rfl (p_move rfl) ?_
        refine x_guard_t rfl rfl rfl ?_
        refine x_pure rfl (p_move rfl) ?_
        refine x_guard_t rfl rfl rfl ?_
        refine x_step hf rfl (r_call rfl rfl Try.ent22 rfl (meet_den _ _ (by omega) (by omega) (by omega))) ?_
        refine x_guard_t rfl rfl rfl ?_
        refine x_pure rfl (p_move rfl) ?_
        refine x_guard_t rfl rfl rfl ?_
        refine x_step hf rfl (r_call rfl rfl Try.ent27 rfl (hasAny_den _ _ (by omega))) ?_
        refine x_guard_t rfl rfl rfl ?_
        refine x_pure rfl (p_move rfl) ?_
        refine x_guard_t rfl rfl rfl ?_
        refine x_pure rfl (p_move rfl) ?_
        refine y_guard_s rfl rfl rfl (fun hg7 => ?_) (fun hg7 => ?_)
        ·
          try simp only [Bool.not_eq_true', Bool.not_eq_false', Bool.not_true, Bool.not_false, Bool.not_not, decide_eq_true_eq, decide_eq_false_iff_not, beq_iff_eq, beq_eq_false_iff_ne, bne_iff_ne, bne_eq_false_iff_eq, ne_eq, Int.not_lt, Int.not_le, Nat.not_lt, Nat.not_le, gt_iff_lt, ge_iff_le, Bool.and_eq_true, Bool.or_eq_true, Int.ofNat_lt, Int.ofNat_le, Int.natCast_inj, List.length_map, List.length_cons, List.length_nil, List.length_append] at hg7
          refine x_pure rfl (p_move rfl) ?_
          refine x_guard_t rfl rfl rfl ?_
          refine x_pure rfl (p_pick_t rfl rfl) ?_
          refine x_guard_t rfl rfl rfl ?_
          refine x_pure rfl (p_bin rfl rfl (booleq_t Try.underlying4 (by simp_all))) ?_
          refine x_pure rfl (p_pick_t rfl rfl) ?_
          refine x_pure rfl (p_move rfl) ?_
          refine x_guard_t rfl rfl rfl ?_
          refine x_pure rfl (p_move rfl) ?_
          refine x_guard_t rfl rfl rfl ?_
          refine x_pure rfl (p_move rfl) ?_
          refine x_guard_t rfl rfl rfl ?_
          refine x_step hf rfl (r_call rfl rfl Try.ent24 rfl (less_den _ _ (by omega))) ?_
          refine x_guard_t rfl rfl rfl ?_
          refine x_pure rfl (p_move rfl) ?_
          refine x_guard_t rfl rfl rfl ?_
          refine x_step hf rfl (r_call rfl rfl Try.ent27 rfl (hasAny_den _ _ (by omega))) ?_
          refine x_guard_t rfl rfl rfl ?_
          refine x_pure rfl (p_move rfl) ?_
          refine x_guard_t rfl rfl rfl ?_
          refine x_pure rfl (p_move rfl) ?_
          refine y_guard_s rfl rfl rfl (fun hg8 => ?_) (fun hg8 => ?_)
          ·
            try simp only [Bool.not_eq_true', Bool.not_eq_false', Bool.not_true, Bool.not_false, Bool.not_not, decide_eq_true_eq, decide_eq_false_iff_not, beq_iff_eq, beq_eq_false_iff_ne, bne_iff_ne, bne_eq_false_iff_eq, ne_eq, Int.not_lt, Int.not_le, Nat.not_lt, Nat.not_le, gt_iff_lt, ge_iff_le, Bool.and_eq_true, Bool.or_eq_true, Int.ofNat_lt, Int.ofNat_le, Int.natCast_inj, List.length_map, List.length_cons, List.length_nil, List.length_append] at hg8
            refine x_pure rfl (p_move rfl) ?_
            refine x_guard_t rfl rfl rfl ?_
            refine x_pure rfl (p_not rfl) ?_
            refine x_guard_t rfl rfl rfl ?_
            refine x_pure rfl (p_pick_t rfl rfl) ?_
            refine x_guard_t rfl rfl rfl ?_
            refine x_pure rfl (p_bin rfl rfl (booleq_t Try.underlying4 (by simp_all))) ?_
            refine x_pure rfl (p_pick_t rfl rfl) ?_
            refine x_pure rfl (p_move rfl) ?_
            refine x_guard_t rfl rfl rfl ?_
            refine x_pure rfl (p_move rfl) ?_
            refine x_guard_t rfl rfl rfl ?_
            refine x_pure rfl (p_move rfl) ?_
            refine x_guard_t rfl rfl rfl ?_
            refine x_step hf rfl (r_call rfl rfl Try.ent21 rfl (sameT_den _ _ (rfl) (by omega))) ?_
            refine x_pure rfl (p_pick_t rfl rfl) ?_
            refine x_pure rfl (p_move rfl) ?_
            refine x_guard_t rfl rfl rfl ?_
            refine x_pure rfl (p_move rfl) ?_
            refine x_guard_t rfl rfl rfl ?_
            refine x_pure rfl (p_move rfl) ?_
            refine x_guard_t rfl rfl rfl ?_
            refine x_step hf rfl (r_call rfl rfl Try.ent21 rfl (same7_den a b (by omega) (by omega))) ?_
            refine x_guard_t rfl rfl rfl ?_
            refine x_pure rfl (p_move rfl) ?_
            refine x_guard_t rfl rfl rfl ?_
            refine x_pure rfl (p_move rfl) ?_
            refine x_guard_t rfl rfl rfl ?_
            refine x_step hf rfl (r_call rfl rfl Try.ent18 rfl (same_den a b (by omega) (by omega))) ?_
            refine x_guard_t rfl rfl rfl ?_
            refine x_pure rfl (p_bin rfl rfl (booleq_t Try.underlying4 (rfl))) ?_
            refine x_pure rfl (p_pick_t rfl rfl) ?_
            refine x_pure rfl (p_assign rfl) ?_
            first | refine aops_end ?_ | refine aops_nil ?_
            refine hK7 _ ?_
            refine aw_ret ?_
            refine ⟨_, rfl, ?_⟩
            rfl
          ·
            try simp only [Bool.not_eq_true', Bool.not_eq_false', Bool.not_true, Bool.not_false, Bool.not_not, decide_eq_true_eq, decide_eq_false_iff_not, beq_iff_eq, beq_eq_false_iff_ne, bne_iff_ne, bne_eq_false_iff_eq, ne_eq, Int.not_lt, Int.not_le, Nat.not_lt, Nat.not_le, gt_iff_lt, ge_iff_le, Bool.and_eq_true, Bool.or_eq_true, Int.ofNat_lt, Int.ofNat_le, Int.natCast_inj, List.length_map, List.length_cons, List.length_nil, List.length_append] at hg8
            refine x_guard_f rfl rfl rfl ?_
            refine x_guard_t rfl rfl rfl ?_
            refine x_pure rfl (p_pick_f rfl rfl) ?_
            refine x_guard_t rfl rfl rfl ?_
            refine x_pure rfl (p_bin rfl rfl (booleq_t Try.underlying4 (by simp_all))) ?_
            refine x_pure rfl (p_pick_t rfl rfl) ?_
            refine x_pure rfl (p_move rfl) ?_
            refine x_guard_t rfl rfl rfl ?_
            refine x_pure rfl (p_move rfl) ?_
            refine x_guard_t rfl rfl rfl ?_
            refine x_pure rfl (p_move rfl) ?_
            refine x_guard_t rfl rfl rfl ?_
            refine x_step hf rfl (r_call rfl rfl Try.ent21 rfl (sameT_den _ _ (rfl) (by omega))) ?_
            refine x_pure rfl (p_pick_t rfl rfl) ?_
            refine x_pure rfl (p_move rfl) ?_
            refine x_guard_t rfl rfl rfl ?_
            refine x_pure rfl (p_move rfl) ?_
            refine x_guard_t rfl rfl rfl ?_
            refine x_pure rfl (p_move rfl) ?_
            refine x_guard_t rfl rfl rfl ?_
            refine x_step hf rfl (r_call rfl rfl Try.ent21 rfl (same7_den a b (by omega) (by omega))) ?_
            refine x_guard_t rfl rfl rfl ?_
            refine x_pure rfl (p_move rfl) ?_
            refine x_guard_t rfl rfl rfl ?_
            refine x_pure rfl (p_move rfl) ?_
            refine x_guard_t rfl rfl rfl ?_
            refine x_step hf rfl (r_call rfl rfl Try.ent18 rfl (same_den a b (by omega) (by omega))) ?_
            refine x_guard_t rfl rfl rfl ?_
            refine x_pure rfl (p_bin rfl rfl (booleq_t Try.underlying4 (rfl))) ?_
            refine x_pure rfl (p_pick_t rfl rfl) ?_
            refine x_pure rfl (p_assign rfl) ?_
            first | refine aops_end ?_ | refine aops_nil ?_
            refine hK7 _ ?_
            refine aw_ret ?_
            refine ⟨_, rfl, ?_⟩
            rfl
        ·
          try simp only [Bool.not_eq_true', Bool.not_eq_false', Bool.not_true, Bool.not_false, Bool.not_not, decide_eq_true_eq, decide_eq_false_iff_not, beq_iff_eq, beq_eq_false_iff_ne, bne_iff_ne, bne_eq_false_iff_eq, ne_eq, Int.not_lt, Int.not_le, Nat.not_lt, Nat.not_le, gt_iff_lt, ge_iff_le, Bool.and_eq_true, Bool.or_eq_true, Int.ofNat_lt, Int.ofNat_le, Int.natCast_inj, List.length_map, List.length_cons, List.length_nil, List.length_append] at hg7
          refine x_guard_t rfl rfl rfl ?_
          refine x_pure rfl (p_pick_f rfl rfl) ?_
          refine x_guard_t rfl rfl rfl ?_
          refine x_pure rfl (p_bin rfl rfl (booleq_t Try.underlying4 (by simp_all))) ?_
          refine x_pure rfl (p_pick_t rfl rfl) ?_
          refine x_pure rfl (p_move rfl) ?_
          refine x_guard_t rfl rfl rfl ?_
          refine x_pure rfl (p_move rfl) ?_
          refine x_guard_t rfl rfl rfl ?_
          refine x_pure rfl (p_move rfl) ?_
          refine x_guard_t rfl rfl rfl ?_
          refine x_step hf rfl (r_call rfl rfl Try.ent24 rfl (less_den _ _ (by omega))) ?_
          refine x_guard_t rfl rfl rfl ?_
          refine x_pure rfl (p_move rfl) ?_
          refine x_guard_t rfl rfl rfl ?_
          refine x_step hf rfl (r_call rfl rfl Try.ent27 rfl (hasAny_den _ _ (by omega))) ?_
          refine x_guard_t rfl rfl rfl ?_
          refine x_pure rfl (p_move rfl) ?_
          refine x_guard_t rfl rfl rfl ?_
          refine x_pure rfl (p_move rfl) ?_
          refine y_guard_s rfl rfl rfl (fun hg9 => ?_) (fun hg9 => ?_)
          ·
            try simp only [Bool.not_eq_true', Bool.not_eq_false', Bool.not_true, Bool.not_false, Bool.not_not, decide_eq_true_eq, decide_eq_false_iff_not, beq_iff_eq, beq_eq_false_iff_ne, bne_iff_ne, bne_eq_false_iff_eq, ne_eq, Int.not_lt, Int.not_le, Nat.not_lt, Nat.not_le, gt_iff_lt, ge_iff_le, Bool.and_eq_true, Bool.or_eq_true, Int.ofNat_lt, Int.ofNat_le, Int.natCast_inj, List.length_map, List.length_cons, List.length_nil, List.length_append] at hg9
            refine x_pure rfl (p_move rfl) ?_
            refine x_guard_t rfl rfl rfl ?_
            refine x_pure rfl (p_not rfl) ?_
            refine x_guard_t rfl rfl rfl ?_
            refine x_pure rfl (p_pick_t rfl rfl) ?_
            refine x_guard_t rfl rfl rfl ?_
            refine x_pure rfl (p_bin rfl rfl (booleq_t Try.underlying4 (by simp_all))) ?_
            refine x_pure rfl (p_pick_t rfl rfl) ?_
            refine x_pure rfl (p_move rfl) ?_
            refine x_guard_t rfl rfl rfl ?_
            refine x_pure rfl (p_move rfl) ?_
            refine x_guard_t rfl rfl rfl ?_
            refine x_pure rfl (p_move rfl) ?_
            refine x_guard_t rfl rfl rfl ?_
            refine x_step hf rfl (r_call rfl rfl Try.ent21 rfl (sameT_den _ _ (rfl) (by omega))) ?_
            refine x_pure rfl (p_pick_t rfl rfl) ?_
            refine x_pure rfl (p_move rfl) ?_
            refine x_guard_t rfl rfl rfl ?_
            refine x_pure rfl (p_move rfl) ?_
            refine x_guard_t rfl rfl rfl ?_
            refine x_pure rfl (p_move rfl) ?_
            refine x_guard_t rfl rfl rfl ?_
            refine x_step hf rfl (r_call rfl rfl Try.ent21 rfl (same7_den a b (by omega) (by omega))) ?_
            refine x_guard_t rfl rfl rfl ?_
            refine x_pure rfl (p_move rfl) ?_
            refine x_guard_t rfl rfl rfl ?_
            refine x_pure rfl (p_move rfl) ?_
            refine x_guard_t rfl rfl rfl ?_
            refine x_step hf rfl (r_call rfl rfl Try.ent18 rfl (same_den a b (by omega) (by omega))) ?_
            refine x_guard_t rfl rfl rfl ?_
            refine x_pure rfl (p_bin rfl rfl (booleq_t Try.underlying4 (rfl))) ?_
            refine x_pure rfl (p_pick_t rfl rfl) ?_
            refine x_pure rfl (p_assign rfl) ?_
            first | refine aops_end ?_ | refine aops_nil ?_
            refine hK7 _ ?_
            refine aw_ret ?_
            refine ⟨_, rfl, ?_⟩
            rfl
          ·
            try simp only [Bool.not_eq_true', Bool.not_eq_false', Bool.not_true, Bool.not_false, Bool.not_not, decide_eq_true_eq, decide_eq_false_iff_not, beq_iff_eq, beq_eq_false_iff_ne, bne_iff_ne, bne_eq_false_iff_eq, ne_eq, Int.not_lt, Int.not_le, Nat.not_lt, Nat.not_le, gt_iff_lt, ge_iff_le, Bool.and_eq_true, Bool.or_eq_true, Int.ofNat_lt, Int.ofNat_le, Int.natCast_inj, List.length_map, List.length_cons, List.length_nil, List.length_append] at hg9
            refine x_guard_f rfl rfl rfl ?_
            refine x_guard_t rfl rfl rfl ?_
            refine x_pure rfl (p_pick_f rfl rfl) ?_
            refine x_guard_t rfl rfl rfl ?_
            refine x_pure rfl (p_bin rfl rfl (booleq_t Try.underlying4 (by simp_all))) ?_
            refine x_pure rfl (p_pick_t rfl rfl) ?_
            refine x_pure rfl (p_move rfl) ?_
            refine x_guard_t rfl rfl rfl ?_
            refine x_pure rfl (p_move rfl) ?_
            refine x_guard_t rfl rfl rfl ?_
            refine x_pure rfl (p_move rfl) ?_
            refine x_guard_t rfl rfl rfl ?_
            refine x_step hf rfl (r_call rfl rfl Try.ent21 rfl (sameT_den _ _ (rfl) (by omega))) ?_
            refine x_pure rfl (p_pick_t rfl rfl) ?_
            refine x_pure rfl (p_move rfl) ?_
            refine x_guard_t rfl rfl rfl ?_
            refine x_pure rfl (p_move rfl) ?_
            refine x_guard_t rfl rfl rfl ?_
            refine x_pure rfl (p_move rfl) ?_
            refine x_guard_t rfl rfl rfl ?_
            refine x_step hf rfl (r_call rfl rfl Try.ent21 rfl (same7_den a b (by omega) (by omega))) ?_
            refine x_guard_t rfl rfl rfl ?_
            refine x_pure rfl (p_move rfl) ?_
            refine x_guard_t rfl rfl rfl ?_
            refine x_pure rfl (p_move rfl) ?_
            refine x_guard_t rfl rfl rfl ?_
            refine x_step hf rfl (r_call rfl rfl Try.ent18 rfl (same_den a b (by omega) (by omega))) ?_
            refine x_guard_t rfl rfl rfl ?_
            refine x_pure rfl (p_bin rfl rfl (booleq_t Try.underlying4 (rfl))) ?_
            refine x_pure rfl (p_pick_t rfl rfl) ?_
            refine x_pure rfl (p_assign rfl) ?_
            first | refine aops_end ?_ | refine aops_nil ?_
            refine hK7 _ ?_
            refine aw_ret ?_
            refine ⟨_, rfl, ?_⟩
            rfl
  ·
    try simp only [Bool.not_eq_true', Bool.not_eq_false', Bool.not_true, Bool.not_false, Bool.not_not, decide_eq_true_eq, decide_eq_false_iff_not, beq_iff_eq, beq_eq_false_iff_ne, bne_iff_ne, bne_eq_false_iff_eq, ne_eq, Int.not_lt, Int.not_le, Nat.not_lt, Nat.not_le, gt_iff_lt, ge_iff_le, Bool.and_eq_true, Bool.or_eq_true, Int.ofNat_lt, Int.ofNat_le, Int.natCast_inj, List.length_map, List.length_cons, List.length_nil, List.length_append] at hg1
    refine x_guard_f rfl rfl rfl ?_
    refine x_guard_f rfl rfl rfl ?_
    refine x_pure rfl (p_pick_t rfl rfl) ?_
    first | refine aops_end ?_ | refine aops_nil ?_
    refine hK3 _ ?_
    refine aw_cond_t rfl ?_
    refine aw_seq_k (fun K8 hK8 => ?_)
    refine aw_region ?_
    refine x_step hf rfl (r_call rfl rfl Try.ent12 rfl (alive_den)) ?_
    refine x_pure rfl (p_assign rfl) ?_
    first | refine aops_end ?_ | refine aops_nil ?_
    refine hK8 _ ?_
    refine aw_ret ?_
    refine ⟨_, rfl, ?_⟩
    rfl

set_option maxHeartbeats 4000000 in
theorem spanParts_den (a b : List Sp) (ha : a.length ≤ 9223372036854775807) (hb0 : b.length ≤ 9223372036854775807)  : Den Try.prog 8 [.sl 2 (a.map spC), .sl 2 (b.map spC)]  (· = .s (.bool true)) := by
  refine den_of_aw Try.func8 rfl (Nat.le_of_ble_eq_true rfl) (fun w0 A hf => ?_)
  refine aw_seq_k (fun K1 hK1 => ?_)
  refine aw_region ?_
  refine x_pure rfl (p_assign_bad) ?_
  first | refine aops_end ?_ | refine aops_nil ?_
  refine hK1 _ ?_
  refine aw_seq_k (fun K2 hK2 => ?_)
  refine aw_seq_k (fun K3 hK3 => ?_)
  refine aw_region ?_
  refine x_pure rfl (p_move rfl) ?_
  first | refine x_pure rfl (p_len_sl rfl Try.e29) ?_ | refine x_pure rfl (p_len_own rfl Try.e29) ?_ | refine x_pure rfl (p_len_nil rfl Try.e29) ?_
  refine x_pure rfl (p_bin rfl rfl rfl) ?_
  refine x_pure rfl (p_move rfl) ?_
  refine y_guard_s rfl rfl rfl (fun hg1 => ?_) (fun hg1 => ?_)
  ·
    try simp only [Bool.not_eq_true', Bool.not_eq_false', Bool.not_true, Bool.not_false, Bool.not_not, decide_eq_true_eq, decide_eq_false_iff_not, beq_iff_eq, beq_eq_false_iff_ne, bne_iff_ne, bne_eq_false_iff_eq, ne_eq, Int.not_lt, Int.not_le, Nat.not_lt, Nat.not_le, gt_iff_lt, ge_iff_le, Bool.and_eq_true, Bool.or_eq_true, Int.ofNat_lt, Int.ofNat_le, Int.natCast_inj, List.length_map, List.length_cons, List.length_nil, List.length_append] at hg1
    refine x_pure rfl (p_move rfl) ?_
    refine x_guard_t rfl rfl rfl ?_
    first | refine x_pure rfl (p_len_sl rfl Try.e29) ?_ | refine x_pure rfl (p_len_own rfl Try.e29) ?_ | refine x_pure rfl (p_len_nil rfl Try.e29) ?_
    refine x_guard_t rfl rfl rfl ?_
    refine x_pure rfl (p_bin rfl rfl rfl) ?_
    refine x_pure rfl (p_pick_f rfl rfl) ?_
    first | refine aops_end ?_ | refine aops_nil ?_
    refine hK3 _ ?_
    refine aw_cond_s rfl (fun hc2 => ?_) (fun hc2 => ?_)
    ·
      try simp only [Bool.not_eq_true', Bool.not_eq_false', Bool.not_true, Bool.not_false, Bool.not_not, decide_eq_true_eq, decide_eq_false_iff_not, beq_iff_eq, beq_eq_false_iff_ne, bne_iff_ne, bne_eq_false_iff_eq, ne_eq, Int.not_lt, Int.not_le, Nat.not_lt, Nat.not_le, gt_iff_lt, ge_iff_le, Bool.and_eq_true, Bool.or_eq_true, Int.ofNat_lt, Int.ofNat_le, Int.natCast_inj, List.length_map, List.length_cons, List.length_nil, List.length_append] at hc2
      refine aw_seq_k (fun K4 hK4 => ?_)
      refine aw_region ?_
      refine x_step hf rfl (r_call rfl rfl Try.ent12 rfl (alive_den)) ?_
      refine x_pure rfl (p_assign rfl) ?_
      first | refine aops_end ?_ | refine aops_nil ?_
      refine hK4 _ ?_
      refine aw_ret ?_
      refine ⟨_, rfl, ?_⟩
      rfl
    ·
      try simp only [Bool.not_eq_true', Bool.not_eq_false', Bool.not_true, Bool.not_false, Bool.not_not, decide_eq_true_eq, decide_eq_false_iff_not, beq_iff_eq, beq_eq_false_iff_ne, bne_iff_ne, bne_eq_false_iff_eq, ne_eq, Int.not_lt, Int.not_le, Nat.not_lt, Nat.not_le, gt_iff_lt, ge_iff_le, Bool.and_eq_true, Bool.or_eq_true, Int.ofNat_lt, Int.ofNat_le, Int.natCast_inj, List.length_map, List.length_cons, List.length_nil, List.length_append] at hc2
      refine aw_skip ?_
      refine hK2 _ ?_
      refine aw_seq_k (fun K5 hK5 => ?_)
      refine aw_region ?_
      have hm1 := Nat.mul_le_mul (show a.length ≤ 30 by omega) (show b.length ≤ 30 by omega)
      have hm2 := Nat.mul_comm b.length a.length
      have hml := meet_len a b
      have hml2 := meet_len b a
      have hll := less_len a b
      have hnl := norm_len a
      have hlm := meet_len (lessL a b) b
      have hlm1 := Nat.mul_le_mul (show (lessL a b).length ≤ 120 by omega) (show b.length ≤ 30 by omega)
      have hq1 := norm_len (List.flatten [meetL a b, lessL a b])
      have hq2 : (List.flatten [meetL a b, lessL a b]).length = (meetL a b).length + (lessL a b).length := by simp
      have hq3 := less_len (lessL a b) b
      have hq4 := norm_len (normL a)
      have hq5 := norm_len (normL (normL a))
      refine x_pure rfl (p_move rfl) ?_
      refine x_step hf rfl (r_call rfl rfl Try.ent15 rfl (news_den _ (by omega))) ?_
      refine x_pure rfl (p_move rfl) ?_
      refine x_step hf rfl (r_call rfl rfl Try.ent15 rfl (news_den _ (by omega))) ?_
      refine x_pure rfl (p_assign rfl) ?_
      refine x_pure rfl (p_assign rfl) ?_
      first | refine aops_end ?_ | refine aops_nil ?_
      refine hK5 _ ?_
      refine aw_seq_k (fun K6 hK6 => ?_)
      refine aw_region ?_
      refine x_pure rfl (p_move rfl) ?_
      refine x_pure rfl (p_move rfl) ?_
      refine x_step hf rfl (r_call rfl rfl Try.ent22 rfl (meet_den _ _ (by omega) (by omega) (by omega))) ?_
      refine x_pure rfl (p_move rfl) ?_
      refine x_pure rfl (p_move rfl) ?_
      refine x_step hf rfl (r_call rfl rfl Try.ent24 rfl (less_den _ _ (by omega))) ?_
      refine x_pure rfl (p_assign rfl) ?_
      refine x_pure rfl (p_assign rfl) ?_
      first | refine aops_end ?_ | refine aops_nil ?_
      refine hK6 _ ?_
      refine aw_seq_k (fun K7 hK7 => ?_)
      refine aw_region ?_
      refine x_step hf rfl (r_call rfl rfl Try.ent12 rfl (alive_den)) ?_
      refine x_pure rfl (p_move rfl) ?_
      refine x_guard_t rfl rfl rfl ?_
      refine x_pure rfl (p_move rfl) ?_
      refine x_guard_t rfl rfl rfl ?_
      refine x_pure rfl (p_move rfl) ?_
      refine x_guard_t rfl rfl rfl ?_
      refine x_step hf rfl (r_buildSlice Try.ap38 rfl rfl rfl rfl (by simp [spC, AV.cells, AV.leaf, Value.oneCell', splice, AV.kill, AV.clean, cleanL, AV.only])) ?_
      refine x_guard_t rfl rfl rfl ?_
      refine x_step hf rfl (r_call rfl rfl Try.ent20 rfl (joinT_den _ _ (by omega))) ?_
      refine x_guard_t rfl rfl rfl ?_
      refine x_pure rfl (p_move rfl) ?_
      refine x_guard_t rfl rfl rfl ?_
      refine x_step hf rfl (r_call rfl rfl Try.ent17 rfl (norm_den _ (by omega))) ?_
      refine x_guard_t rfl rfl rfl ?_
      refine x_step hf rfl (r_call rfl rfl Try.ent21 rfl (sameT_den _ _ (parts_join a b) (by omega))) ?_
      refine x_pure rfl (p_pick_t rfl rfl) ?_
      refine x_pure rfl (p_move rfl) ?_
      refine x_guard_t rfl rfl rfl ?_
      refine x_pure rfl (p_move rfl) ?_
      refine x_guard_t rfl rfl rfl ?_
      refine x_pure rfl (p_move rfl) ?_
      refine x_guard_t rfl rfl rfl ?_
      refine x_step hf rfl (r_call rfl rfl Try.ent22 rfl (meet_den _ _ (by omega) (by omega) (by omega))) ?_
      refine x_guard_t rfl rfl rfl ?_
      first | refine x_pure rfl (p_len_sl rfl Try.e30) ?_ | refine x_pure rfl (p_len_own rfl Try.e30) ?_ | refine x_pure rfl (p_len_nil rfl Try.e30) ?_
      refine x_guard_t rfl rfl rfl ?_
      refine x_pure rfl (p_bin rfl rfl (inteq_t (by rw [parts_none]; rfl))) ?_
      refine x_pure rfl (p_pick_t rfl rfl) ?_
      refine x_pure rfl (p_move rfl) ?_
      refine x_guard_t rfl rfl rfl ?_
      refine x_pure rfl (p_move rfl) ?_
      refine x_guard_t rfl rfl rfl ?_
      refine x_pure rfl (p_move rfl) ?_
      refine x_guard_t rfl rfl rfl ?_
      refine x_step hf rfl (r_call rfl rfl Try.ent24 rfl (less_den _ _ (by omega))) ?_
      refine x_guard_t rfl rfl rfl ?_
      refine x_pure rfl (p_move rfl) ?_
      refine x_guard_t rfl rfl rfl ?_
      refine x_step hf rfl (r_call rfl rfl Try.ent21 rfl (sameT_den _ _ (less_again a b) (by omega))) ?_
      refine x_pure rfl (p_pick_t rfl rfl) ?_
      refine x_pure rfl (p_move rfl) ?_
      refine x_guard_t rfl rfl rfl ?_
      refine x_pure rfl (p_move rfl) ?_
      refine x_guard_t rfl rfl rfl ?_
      refine x_step hf rfl (r_call rfl rfl Try.ent17 rfl (norm_den _ (by omega))) ?_
      refine x_guard_t rfl rfl rfl ?_
      refine x_step hf rfl (r_call rfl rfl Try.ent17 rfl (norm_den _ (by omega))) ?_
      refine x_guard_t rfl rfl rfl ?_
      refine x_pure rfl (p_move rfl) ?_
      refine x_guard_t rfl rfl rfl ?_
      refine x_step hf rfl (r_call rfl rfl Try.ent17 rfl (norm_den _ (by omega))) ?_
      refine x_guard_t rfl rfl rfl ?_
      refine x_step hf rfl (r_call rfl rfl Try.ent21 rfl (sameT_den _ _ (norm_again a) (by omega))) ?_
      refine x_pure rfl (p_pick_t rfl rfl) ?_
      refine x_pure rfl (p_assign rfl) ?_
      first | refine aops_end ?_ | refine aops_nil ?_
      refine hK7 _ ?_
      refine aw_ret ?_
      refine ⟨_, rfl, ?_⟩
      rfl
  ·
    try simp only [Bool.not_eq_true', Bool.not_eq_false', Bool.not_true, Bool.not_false, Bool.not_not, decide_eq_true_eq, decide_eq_false_iff_not, beq_iff_eq, beq_eq_false_iff_ne, bne_iff_ne, bne_eq_false_iff_eq, ne_eq, Int.not_lt, Int.not_le, Nat.not_lt, Nat.not_le, gt_iff_lt, ge_iff_le, Bool.and_eq_true, Bool.or_eq_true, Int.ofNat_lt, Int.ofNat_le, Int.natCast_inj, List.length_map, List.length_cons, List.length_nil, List.length_append] at hg1
    refine x_guard_f rfl rfl rfl ?_
    refine x_guard_f rfl rfl rfl ?_
    refine x_pure rfl (p_pick_t rfl rfl) ?_
    first | refine aops_end ?_ | refine aops_nil ?_
    refine hK3 _ ?_
    refine aw_cond_t rfl ?_
    refine aw_seq_k (fun K8 hK8 => ?_)
    refine aw_region ?_
    refine x_step hf rfl (r_call rfl rfl Try.ent12 rfl (alive_den)) ?_
    refine x_pure rfl (p_assign rfl) ?_
    first | refine aops_end ?_ | refine aops_nil ?_
    refine hK8 _ ?_
    refine aw_ret ?_
    refine ⟨_, rfl, ?_⟩
    rfl
end Go.Proofs.Ytpblgmhljnfabaa
