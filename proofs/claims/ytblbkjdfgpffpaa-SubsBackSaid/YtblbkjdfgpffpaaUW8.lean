import Derived.Test.YtblbkjdfgpffpaaUW7
set_option linter.unusedVariables false
set_option linter.unusedSimpArgs false
namespace Go.Proofs.Ytblbkjdfgpffpaa
open Go Go.Abs

theorem refSame9T_den (a b : List En) (h : a = b) (ha : a.length ≤ 9223372036854775807) : Den Try.prog 16 [.sl 4 (a.map enC), .sl 4 (b.map enC)] (· = .s (.bool true)) := by
  subst h
  exact (refSame9_den a a ha ha).mono fun r h => h.trans (by simp)

set_option maxRecDepth 20000 in
set_option maxHeartbeats 4000000 in
theorem subsPeriods_den (l : List En) (p : Pr) (t : Int) (hl : l.length * 48 ≤ 140737488351232)  : Den Try.prog 4 [.sl 4 (l.map enC), .agg (prC p), .s (.int .i64 t)]  (· = .s (.bool true)) := by
  refine den_of_aw Try.func4 rfl (Nat.le_of_ble_eq_true rfl) (fun w0 A hf => ?_)
  refine aw_seq_k (fun K1 hK1 => ?_)
  refine aw_region ?_
  refine x_step hf rfl (r_box rfl rfl (by simp [enC, prC, AV.cells, AV.leaf, Value.oneCell', splice, AV.kill, AV.clean, cleanL, AV.only])) ?_
  refine x_pure rfl (p_assign_bad) ?_
  first | refine aops_end ?_ | refine aops_nil ?_
  refine hK1 _ ?_
  refine aw_seq_k (fun K2 hK2 => ?_)
  refine aw_seq_k (fun K3 hK3 => ?_)
  refine aw_region ?_
  refine x_pure rfl (p_move rfl) ?_
  first | refine x_pure rfl (p_len_sl rfl Try.e22) ?_ | refine x_pure rfl (p_len_own rfl Try.e22) ?_ | refine x_pure rfl (p_len_nil rfl Try.e22) ?_
  refine x_pure rfl (p_bin rfl rfl rfl) ?_
  first | refine aops_end ?_ | refine aops_nil ?_
  refine hK3 _ ?_
  refine aw_cond_s rfl (fun hc1 => ?_) (fun hc1 => ?_)
  ·
    try simp only [Bool.not_eq_true', Bool.not_eq_false', Bool.not_true, Bool.not_false, Bool.not_not, decide_eq_true_eq, decide_eq_false_iff_not, beq_iff_eq, beq_eq_false_iff_ne, bne_iff_ne, bne_eq_false_iff_eq, ne_eq, Int.not_lt, Int.not_le, Nat.not_lt, Nat.not_le, gt_iff_lt, ge_iff_le, Bool.and_eq_true, Bool.or_eq_true, Int.ofNat_lt, Int.ofNat_le, Int.natCast_inj, List.length_map, List.length_cons, List.length_nil, List.length_append] at hc1
    refine aw_seq_k (fun K4 hK4 => ?_)
    refine aw_region ?_
    refine x_step hf rfl (r_call rfl rfl Try.ent10 rfl (alive9_den)) ?_
    refine x_pure rfl (p_assign rfl) ?_
    first | refine aops_end ?_ | refine aops_nil ?_
    refine hK4 _ ?_
    refine aw_ret ?_
    refine ⟨_, rfl, ?_⟩
    rfl
  ·
    try simp only [Bool.not_eq_true', Bool.not_eq_false', Bool.not_true, Bool.not_false, Bool.not_not, decide_eq_true_eq, decide_eq_false_iff_not, beq_iff_eq, beq_eq_false_iff_ne, bne_iff_ne, bne_eq_false_iff_eq, ne_eq, Int.not_lt, Int.not_le, Nat.not_lt, Nat.not_le, gt_iff_lt, ge_iff_le, Bool.and_eq_true, Bool.or_eq_true, Int.ofNat_lt, Int.ofNat_le, Int.natCast_inj, List.length_map, List.length_cons, List.length_nil, List.length_append] at hc1
    refine aw_skip ?_
    refine hK2 _ ?_
    refine aw_seq_k (fun K5 hK5 => ?_)
    refine aw_region ?_
    have hq1 := periods_len l p
    have hq2 := List.length_filter_le (fun e => !hasUB p.2 e) l
    have hq3 := List.length_filter_le (fun e : En => !decide (e.2.2 ≤ t)) l
    refine x_pure rfl (p_move rfl) ?_
    refine x_step hf rfl (r_call rfl rfl Try.ent11 rfl (news9_den _ (by omega))) ?_
    refine x_pure rfl (p_assign rfl) ?_
    first | refine aops_end ?_ | refine aops_nil ?_
    refine hK5 _ ?_
    refine aw_seq_k (fun K6 hK6 => ?_)
    refine aw_draw hf Try.mixed (by kernel_rfl) rfl ?_
    refine d_rstep [] rfl rfl trivial rfl (r_call rfl rfl Try.ent10 rfl (alive9_den)) ?_
    refine d_pure [(14, _)] rfl rfl ⟨⟨rfl, rfl⟩, trivial⟩ rfl (p_move rfl) ?_
    refine d_pure [(7, _)] rfl rfl ⟨⟨rfl, rfl⟩, trivial⟩ rfl (p_move rfl) ?_
    first | refine d_pure [(4, _)] rfl rfl ⟨⟨rfl, rfl⟩, trivial⟩ rfl (p_loads rfl Try.g24 Try.c24 rfl rfl) ?_ | refine d_pure [(4, _)] rfl rfl ⟨⟨rfl, rfl⟩, trivial⟩ rfl (p_loadsr rfl Try.g24 Try.c24 rfl rfl rfl) ?_
    refine d_rstep [(16, _), (17, _)] rfl rfl ⟨⟨rfl, rfl⟩, ⟨rfl, rfl⟩, trivial⟩ rfl (r_call rfl rfl Try.ent22 rfl (periods_den _ _ (by omega))) ?_
    refine d_rstep [(18, _)] rfl rfl ⟨⟨rfl, rfl⟩, trivial⟩ rfl (r_call rfl rfl Try.ent21 rfl (olds_den _ (by omega))) ?_
    refine d_pure [(0, _)] rfl rfl ⟨⟨rfl, rfl⟩, trivial⟩ rfl (p_move rfl) ?_
    first | refine d_pure [(4, _)] rfl rfl ⟨⟨rfl, rfl⟩, trivial⟩ rfl (p_loads rfl Try.g24 Try.c24 rfl rfl) ?_ | refine d_pure [(4, _)] rfl rfl ⟨⟨rfl, rfl⟩, trivial⟩ rfl (p_loadsr rfl Try.g24 Try.c24 rfl rfl rfl) ?_
    refine d_rstep [(20, _), (21, _)] rfl rfl ⟨⟨rfl, rfl⟩, ⟨rfl, rfl⟩, trivial⟩ rfl (r_call rfl rfl Try.ent23 rfl (refPeriods_den _ _ (by omega))) ?_
    refine d_rstep [(19, _), (22, _)] rfl rfl ⟨⟨rfl, rfl⟩, ⟨rfl, rfl⟩, trivial⟩ rfl (r_call rfl rfl Try.ent20 rfl (refSameT_den _ _ rfl (by omega))) ?_
    refine d_pure [(15, _), (23, _)] rfl rfl ⟨⟨rfl, rfl⟩, ⟨rfl, rfl⟩, trivial⟩ rfl (p_pick_t rfl rfl) ?_
    refine d_pure [(24, _)] rfl rfl ⟨⟨rfl, rfl⟩, trivial⟩ rfl (p_move rfl) ?_
    refine d_pure [(7, _)] rfl rfl ⟨⟨rfl, rfl⟩, trivial⟩ rfl (p_move rfl) ?_
    first | refine d_pure [(4, _)] rfl rfl ⟨⟨rfl, rfl⟩, trivial⟩ rfl (p_fld_adr rfl Try.fd24_1 Try.c9 rfl) ?_ | refine d_pure [(4, _)] rfl rfl ⟨⟨rfl, rfl⟩, trivial⟩ rfl (p_fld_ref rfl Try.fd24_1 Try.c9 rfl) ?_
    first | refine d_pure [(27, _)] rfl rfl ⟨⟨rfl, rfl⟩, trivial⟩ rfl (p_load1 rfl Try.g9 rfl) ?_ | refine d_pure [(27, _)] rfl rfl ⟨⟨rfl, rfl⟩, trivial⟩ rfl (p_load1r rfl Try.g9 rfl rfl) ?_ | refine d_pure [(27, _)] rfl rfl ⟨⟨rfl, rfl⟩, trivial⟩ rfl (p_load1r rfl Try.g9 rfl (strs_ref (by simp only [List.length_cons] at *; omega))) ?_ | refine d_pure [(27, _)] rfl rfl ⟨⟨rfl, rfl⟩, trivial⟩ rfl (p_load1r rfl Try.g9 rfl (strs_ref (by omega))) ?_
    refine d_rstep [(26, _), (28, _)] rfl rfl ⟨⟨rfl, rfl⟩, ⟨rfl, rfl⟩, trivial⟩ rfl (r_call rfl rfl Try.ent24 rfl (without_den _ _ (by omega))) ?_
    refine d_rstep [(29, _)] rfl rfl ⟨⟨rfl, rfl⟩, trivial⟩ rfl (r_call rfl rfl Try.ent17 rfl (olds9_den _ (by omega))) ?_
    refine d_pure [(0, _)] rfl rfl ⟨⟨rfl, rfl⟩, trivial⟩ rfl (p_move rfl) ?_
    first | refine d_pure [(4, _)] rfl rfl ⟨⟨rfl, rfl⟩, trivial⟩ rfl (p_fld_adr rfl Try.fd24_1 Try.c9 rfl) ?_ | refine d_pure [(4, _)] rfl rfl ⟨⟨rfl, rfl⟩, trivial⟩ rfl (p_fld_ref rfl Try.fd24_1 Try.c9 rfl) ?_
    first | refine d_pure [(32, _)] rfl rfl ⟨⟨rfl, rfl⟩, trivial⟩ rfl (p_load1 rfl Try.g9 rfl) ?_ | refine d_pure [(32, _)] rfl rfl ⟨⟨rfl, rfl⟩, trivial⟩ rfl (p_load1r rfl Try.g9 rfl rfl) ?_ | refine d_pure [(32, _)] rfl rfl ⟨⟨rfl, rfl⟩, trivial⟩ rfl (p_load1r rfl Try.g9 rfl (strs_ref (by simp only [List.length_cons] at *; omega))) ?_ | refine d_pure [(32, _)] rfl rfl ⟨⟨rfl, rfl⟩, trivial⟩ rfl (p_load1r rfl Try.g9 rfl (strs_ref (by omega))) ?_
    refine d_rstep [(31, _), (33, _)] rfl rfl ⟨⟨rfl, rfl⟩, ⟨rfl, rfl⟩, trivial⟩ rfl (r_call rfl rfl Try.ent25 rfl (refWithout_den _ _ (by omega))) ?_
    refine d_rstep [(30, _), (34, _)] rfl rfl ⟨⟨rfl, rfl⟩, ⟨rfl, rfl⟩, trivial⟩ rfl (r_call rfl rfl Try.ent16 rfl (refSame9T_den _ _ rfl (by omega))) ?_
    refine d_pure [(25, _), (35, _)] rfl rfl ⟨⟨rfl, rfl⟩, ⟨rfl, rfl⟩, trivial⟩ rfl (p_pick_t rfl rfl) ?_
    refine d_pure [(36, _)] rfl rfl ⟨⟨rfl, rfl⟩, trivial⟩ rfl (p_move rfl) ?_
    refine d_pure [(7, _)] rfl rfl ⟨⟨rfl, rfl⟩, trivial⟩ rfl (p_move rfl) ?_
    refine d_pure [(2, _)] rfl rfl ⟨⟨rfl, rfl⟩, trivial⟩ rfl (p_move rfl) ?_
    refine d_rstep [(38, _), (39, _)] rfl rfl ⟨⟨rfl, rfl⟩, ⟨rfl, rfl⟩, trivial⟩ rfl (r_call rfl rfl Try.ent26 rfl (after_den _ _ (by omega))) ?_
    refine d_rstep [(40, _)] rfl rfl ⟨⟨rfl, rfl⟩, trivial⟩ rfl (r_call rfl rfl Try.ent17 rfl (olds9_den _ (by omega))) ?_
    refine d_pure [(0, _)] rfl rfl ⟨⟨rfl, rfl⟩, trivial⟩ rfl (p_move rfl) ?_
    refine d_pure [(2, _)] rfl rfl ⟨⟨rfl, rfl⟩, trivial⟩ rfl (p_move rfl) ?_
    refine d_rstep [(42, _), (43, _)] rfl rfl ⟨⟨rfl, rfl⟩, ⟨rfl, rfl⟩, trivial⟩ rfl (r_call rfl rfl Try.ent27 rfl (refAfter_den _ _ (by omega))) ?_
    refine d_rstep [(41, _), (44, _)] rfl rfl ⟨⟨rfl, rfl⟩, ⟨rfl, rfl⟩, trivial⟩ rfl (r_call rfl rfl Try.ent16 rfl (refSame9T_den _ _ rfl (by omega))) ?_
    refine d_pure [(37, _), (45, _)] rfl rfl ⟨⟨rfl, rfl⟩, ⟨rfl, rfl⟩, trivial⟩ rfl (p_pick_t rfl rfl) ?_
    refine d_pure [(46, _)] rfl rfl ⟨⟨rfl, rfl⟩, trivial⟩ rfl (p_move rfl) ?_
    refine d_pure [(7, _)] rfl rfl ⟨⟨rfl, rfl⟩, trivial⟩ rfl (p_move rfl) ?_
    refine d_rstep [(48, _)] rfl rfl ⟨⟨rfl, rfl⟩, trivial⟩ rfl (r_call rfl rfl Try.ent17 rfl (olds9_den _ (by omega))) ?_
    refine d_pure [(0, _)] rfl rfl ⟨⟨rfl, rfl⟩, trivial⟩ rfl (p_move rfl) ?_
    refine d_rstep [(49, _), (50, _)] rfl rfl ⟨⟨rfl, rfl⟩, ⟨rfl, rfl⟩, trivial⟩ rfl (r_call rfl rfl Try.ent16 rfl (refSame9T_den _ _ rfl (by omega))) ?_
    refine d_pure [(47, _), (51, _)] rfl rfl ⟨⟨rfl, rfl⟩, ⟨rfl, rfl⟩, trivial⟩ rfl (p_pick_t rfl rfl) ?_
    refine d_pure [(52, _)] rfl rfl ⟨⟨rfl, rfl⟩, trivial⟩ rfl (p_assign rfl) ?_
    refine lex_end (sl' := [(6, _)]) rfl ⟨rfl, trivial⟩ rfl ?_
    refine hK6 _ ?_
    refine aw_ret ?_
    refine ⟨_, rfl, ?_⟩
    rfl

set_option maxRecDepth 20000 in
set_option maxHeartbeats 4000000 in
theorem subsRising_den (l m : List En) (hl : l.length * 48 ≤ 140737488351232) (ht : ∀ e ∈ l, TS e.1.1 ∧ TS e.1.2) (hm : m.length * 48 ≤ 140737488351232)  : Den Try.prog 5 [.sl 4 (l.map enC), .sl 4 (m.map enC)]  (· = .s (.bool true)) := by
  refine den_of_aw Try.func5 rfl (Nat.le_of_ble_eq_true rfl) (fun w0 A hf => ?_)
  refine aw_seq_k (fun K1 hK1 => ?_)
  refine aw_region ?_
  refine x_pure rfl (p_assign_bad) ?_
  first | refine aops_end ?_ | refine aops_nil ?_
  refine hK1 _ ?_
  refine aw_seq_k (fun K2 hK2 => ?_)
  refine aw_seq_k (fun K3 hK3 => ?_)
  refine aw_region ?_
  refine x_pure rfl (p_move rfl) ?_
  first | refine x_pure rfl (p_len_sl rfl Try.e22) ?_ | refine x_pure rfl (p_len_own rfl Try.e22) ?_ | refine x_pure rfl (p_len_nil rfl Try.e22) ?_
  refine x_pure rfl (p_bin rfl rfl rfl) ?_
  refine x_pure rfl (p_move rfl) ?_
  refine y_guard_s rfl rfl rfl (fun hg1 => ?_) (fun hg1 => ?_)
  ·
    try simp only [Bool.not_eq_true', Bool.not_eq_false', Bool.not_true, Bool.not_false, Bool.not_not, decide_eq_true_eq, decide_eq_false_iff_not, beq_iff_eq, beq_eq_false_iff_ne, bne_iff_ne, bne_eq_false_iff_eq, ne_eq, Int.not_lt, Int.not_le, Nat.not_lt, Nat.not_le, gt_iff_lt, ge_iff_le, Bool.and_eq_true, Bool.or_eq_true, Int.ofNat_lt, Int.ofNat_le, Int.natCast_inj, List.length_map, List.length_cons, List.length_nil, List.length_append] at hg1
    refine x_pure rfl (p_move rfl) ?_
    refine x_guard_t rfl rfl rfl ?_
    first | refine x_pure rfl (p_len_sl rfl Try.e22) ?_ | refine x_pure rfl (p_len_own rfl Try.e22) ?_ | refine x_pure rfl (p_len_nil rfl Try.e22) ?_
    refine x_guard_t rfl rfl rfl ?_
    refine x_pure rfl (p_bin rfl rfl rfl) ?_
    refine x_pure rfl (p_pick_f rfl rfl) ?_
    first | refine aops_end ?_ | refine aops_nil ?_
    refine hK3 _ ?_
    refine aw_cond_s rfl (fun hc2 => ?_) (fun hc2 => ?_)
    ·
      try simp only [Bool.not_eq_true', Bool.not_eq_false', Bool.not_true, Bool.not_false, Bool.not_not, decide_eq_true_eq, decide_eq_false_iff_not, beq_iff_eq, beq_eq_false_iff_ne, bne_iff_ne, bne_eq_false_iff_eq, ne_eq, Int.not_lt, Int.not_le, Nat.not_lt, Nat.not_le, gt_iff_lt, ge_iff_le, Bool.and_eq_true, Bool.or_eq_true, Int.ofNat_lt, Int.ofNat_le, Int.natCast_inj, List.length_map, List.length_cons, List.length_nil, List.length_append] at hc2
      refine aw_seq_k (fun K4 hK4 => ?_)
      refine aw_region ?_
      refine x_step hf rfl (r_call rfl rfl Try.ent10 rfl (alive9_den)) ?_
      refine x_pure rfl (p_assign rfl) ?_
      first | refine aops_end ?_ | refine aops_nil ?_
      refine hK4 _ ?_
      refine aw_ret ?_
      refine ⟨_, rfl, ?_⟩
      rfl
    ·
      try simp only [Bool.not_eq_true', Bool.not_eq_false', Bool.not_true, Bool.not_false, Bool.not_not, decide_eq_true_eq, decide_eq_false_iff_not, beq_iff_eq, beq_eq_false_iff_ne, bne_iff_ne, bne_eq_false_iff_eq, ne_eq, Int.not_lt, Int.not_le, Nat.not_lt, Nat.not_le, gt_iff_lt, ge_iff_le, Bool.and_eq_true, Bool.or_eq_true, Int.ofNat_lt, Int.ofNat_le, Int.natCast_inj, List.length_map, List.length_cons, List.length_nil, List.length_append] at hc2
      refine aw_skip ?_
      refine hK2 _ ?_
      refine aw_seq_k (fun K5 hK5 => ?_)
      refine aw_region ?_
      refine x_step hf rfl (r_call rfl rfl Try.ent10 rfl (alive9_den)) ?_
      refine x_pure rfl (p_move rfl) ?_
      refine x_guard_t rfl rfl rfl ?_
      refine x_pure rfl (p_move rfl) ?_
      refine x_guard_t rfl rfl rfl ?_
      refine x_step hf rfl (r_call rfl rfl Try.ent11 rfl (news9_den _ (by omega))) ?_
      refine x_guard_t rfl rfl rfl ?_
      refine x_step hf rfl (r_call rfl rfl Try.ent28 rfl (rising_den _ (by omega) (by assumption))) ?_
      refine x_guard_t rfl rfl rfl ?_
      refine x_pure rfl (p_move rfl) ?_
      refine x_guard_t rfl rfl rfl ?_
      refine x_step hf rfl (r_call rfl rfl Try.ent29 rfl (refRising_den _ (by omega) (by assumption))) ?_
      refine x_guard_t rfl rfl rfl ?_
      refine x_pure rfl (p_bin rfl rfl (booleq_t Try.underlying4 (rfl))) ?_
      refine x_pure rfl (p_pick_t rfl rfl) ?_
      refine x_pure rfl (p_move rfl) ?_
      refine x_guard_t rfl rfl rfl ?_
      refine x_pure rfl (p_move rfl) ?_
      refine x_guard_t rfl rfl rfl ?_
      refine x_step hf rfl (r_call rfl rfl Try.ent11 rfl (news9_den _ (by omega))) ?_
      refine x_guard_t rfl rfl rfl ?_
      refine x_pure rfl (p_move rfl) ?_
      refine x_guard_t rfl rfl rfl ?_
      refine x_step hf rfl (r_call rfl rfl Try.ent11 rfl (news9_den _ (by omega))) ?_
      refine x_guard_t rfl rfl rfl ?_
      refine x_step hf rfl (r_call rfl rfl Try.ent30 rfl (same9_den _ _ (by omega) (by omega))) ?_
      refine x_guard_t rfl rfl rfl ?_
      refine x_pure rfl (p_move rfl) ?_
      refine x_guard_t rfl rfl rfl ?_
      refine x_pure rfl (p_move rfl) ?_
      refine x_guard_t rfl rfl rfl ?_
      refine x_step hf rfl (r_call rfl rfl Try.ent16 rfl (refSame9_den _ _ (by omega) (by omega))) ?_
      refine x_guard_t rfl rfl rfl ?_
      refine x_pure rfl (p_bin rfl rfl (booleq_t Try.underlying4 (rfl))) ?_
      refine x_pure rfl (p_pick_t rfl rfl) ?_
      refine x_pure rfl (p_assign rfl) ?_
      first | refine aops_end ?_ | refine aops_nil ?_
      refine hK5 _ ?_
      refine aw_ret ?_
      refine ⟨_, rfl, ?_⟩
      rfl
  ·
    try simp only [Bool.not_eq_true', Bool.not_eq_false', Bool.not_true, Bool.not_false, Bool.not_not, decide_eq_true_eq, decide_eq_false_iff_not, beq_iff_eq, beq_eq_false_iff_ne, bne_iff_ne, bne_eq_false_iff_eq, ne_eq, Int.not_lt, Int.not_le, Nat.not_lt, Nat.not_le, gt_iff_lt, ge_iff_le, Bool.and_eq_true, Bool.or_eq_true, Int.ofNat_lt, Int.ofNat_le, Int.natCast_inj, List.length_map, List.length_cons, List.length_nil, List.length_append] at hg1
    refine x_guard_f rfl rfl rfl ?_
    refine x_guard_f rfl rfl rfl ?_
    refine x_pure rfl (p_pick_t rfl rfl) ?_
    first | refine aops_end ?_ | refine aops_nil ?_
    refine hK3 _ ?_
    refine aw_cond_t rfl ?_
    refine aw_seq_k (fun K6 hK6 => ?_)
    refine aw_region ?_
    refine x_step hf rfl (r_call rfl rfl Try.ent10 rfl (alive9_den)) ?_
    refine x_pure rfl (p_assign rfl) ?_
    first | refine aops_end ?_ | refine aops_nil ?_
    refine hK6 _ ?_
    refine aw_ret ?_
    refine ⟨_, rfl, ?_⟩
    rfl

set_option maxRecDepth 20000 in
set_option maxHeartbeats 4000000 in
theorem subsErased_den (l : List En) (u : ByteArray) (p : Pr) (hl : l.length * 48 ≤ 140737488351232) (ht : ∀ e ∈ l, TS e.1.1 ∧ TS e.1.2)  : Den Try.prog 8 [.sl 4 (l.map enC), .s (.string u), .agg (prC p)]  (· = .s (.bool true)) := by
  refine den_of_aw Try.func8 rfl (Nat.le_of_ble_eq_true rfl) (fun w0 A hf => ?_)
  refine aw_seq_k (fun K1 hK1 => ?_)
  refine aw_region ?_
  refine x_step hf rfl (r_box rfl rfl (by simp [enC, prC, AV.cells, AV.leaf, Value.oneCell', splice, AV.kill, AV.clean, cleanL, AV.only])) ?_
  refine x_pure rfl (p_assign_bad) ?_
  first | refine aops_end ?_ | refine aops_nil ?_
  refine hK1 _ ?_
  refine aw_seq_k (fun K2 hK2 => ?_)
  refine aw_seq_k (fun K3 hK3 => ?_)
  refine aw_region ?_
  refine x_pure rfl (p_move rfl) ?_
  first | refine x_pure rfl (p_len_sl rfl Try.e22) ?_ | refine x_pure rfl (p_len_own rfl Try.e22) ?_ | refine x_pure rfl (p_len_nil rfl Try.e22) ?_
  refine x_pure rfl (p_bin rfl rfl rfl) ?_
  first | refine aops_end ?_ | refine aops_nil ?_
  refine hK3 _ ?_
  refine aw_cond_s rfl (fun hc1 => ?_) (fun hc1 => ?_)
  ·
    try simp only [Bool.not_eq_true', Bool.not_eq_false', Bool.not_true, Bool.not_false, Bool.not_not, decide_eq_true_eq, decide_eq_false_iff_not, beq_iff_eq, beq_eq_false_iff_ne, bne_iff_ne, bne_eq_false_iff_eq, ne_eq, Int.not_lt, Int.not_le, Nat.not_lt, Nat.not_le, gt_iff_lt, ge_iff_le, Bool.and_eq_true, Bool.or_eq_true, Int.ofNat_lt, Int.ofNat_le, Int.natCast_inj, List.length_map, List.length_cons, List.length_nil, List.length_append] at hc1
    refine aw_seq_k (fun K4 hK4 => ?_)
    refine aw_region ?_
    refine x_step hf rfl (r_call rfl rfl Try.ent10 rfl (alive9_den)) ?_
    refine x_pure rfl (p_assign rfl) ?_
    first | refine aops_end ?_ | refine aops_nil ?_
    refine hK4 _ ?_
    refine aw_ret ?_
    refine ⟨_, rfl, ?_⟩
    rfl
  ·
    try simp only [Bool.not_eq_true', Bool.not_eq_false', Bool.not_true, Bool.not_false, Bool.not_not, decide_eq_true_eq, decide_eq_false_iff_not, beq_iff_eq, beq_eq_false_iff_ne, bne_iff_ne, bne_eq_false_iff_eq, ne_eq, Int.not_lt, Int.not_le, Nat.not_lt, Nat.not_le, gt_iff_lt, ge_iff_le, Bool.and_eq_true, Bool.or_eq_true, Int.ofNat_lt, Int.ofNat_le, Int.natCast_inj, List.length_map, List.length_cons, List.length_nil, List.length_append] at hc1
    refine aw_skip ?_
    refine hK2 _ ?_
    refine aw_seq_k (fun K5 hK5 => ?_)
    refine aw_region ?_
    have hq2 := List.length_filter_le (fun e => !hasUB u e) l
    have hq1 := periods_len l p
    refine x_pure rfl (p_move rfl) ?_
    refine x_step hf rfl (r_call rfl rfl Try.ent11 rfl (news9_den _ (by omega))) ?_
    refine x_pure rfl (p_move rfl) ?_
    refine x_step hf rfl (r_call rfl rfl Try.ent24 rfl (without_den _ _ (by omega))) ?_
    refine x_pure rfl (p_assign rfl) ?_
    first | refine aops_end ?_ | refine aops_nil ?_
    refine hK5 _ ?_
    refine aw_seq_k (fun K6 hK6 => ?_)
    refine aw_region ?_
    refine x_pure rfl (p_move rfl) ?_
    first | refine x_pure rfl (p_loads rfl Try.g24 Try.c24 rfl rfl) ?_ | refine x_pure rfl (p_loadsr rfl Try.g24 Try.c24 rfl rfl rfl) ?_
    refine x_step hf rfl (r_call rfl rfl Try.ent22 rfl (periods_den _ _ (by omega))) ?_
    refine x_pure rfl (p_assign rfl) ?_
    first | refine aops_end ?_ | refine aops_nil ?_
    refine hK6 _ ?_
    refine aw_seq_k (fun K7 hK7 => ?_)
    refine aw_seq_k (fun K8 hK8 => ?_)
    refine aw_region ?_
    first | refine x_pure rfl (p_fld_adr rfl Try.fd24_0 Try.c9 rfl) ?_ | refine x_pure rfl (p_fld_ref rfl Try.fd24_0 Try.c9 rfl) ?_
    first | refine x_pure rfl (p_load1 rfl Try.g9 rfl) ?_ | refine x_pure rfl (p_load1r rfl Try.g9 rfl rfl) ?_ | refine x_pure rfl (p_load1r rfl Try.g9 rfl (strs_ref (by simp only [List.length_cons] at *; omega))) ?_ | refine x_pure rfl (p_load1r rfl Try.g9 rfl (strs_ref (by omega))) ?_
    refine x_pure rfl (p_move rfl) ?_
    refine x_pure rfl (p_bin rfl rfl rfl) ?_
    refine x_pure rfl (p_move rfl) ?_
    refine y_guard_s rfl rfl rfl (fun hg2 => ?_) (fun hg2 => ?_)
    ·
      try simp only [Bool.not_eq_true', Bool.not_eq_false', Bool.not_true, Bool.not_false, Bool.not_not, decide_eq_true_eq, decide_eq_false_iff_not, beq_iff_eq, beq_eq_false_iff_ne, bne_iff_ne, bne_eq_false_iff_eq, ne_eq, Int.not_lt, Int.not_le, Nat.not_lt, Nat.not_le, gt_iff_lt, ge_iff_le, Bool.and_eq_true, Bool.or_eq_true, Int.ofNat_lt, Int.ofNat_le, Int.natCast_inj, List.length_map, List.length_cons, List.length_nil, List.length_append] at hg2
      first | refine x_pure rfl (p_fld_adr rfl Try.fd24_1 Try.c9 rfl) ?_ | refine x_pure rfl (p_fld_ref rfl Try.fd24_1 Try.c9 rfl) ?_
      refine x_guard_t rfl rfl rfl ?_
      first | refine x_pure rfl (p_load1 rfl Try.g9 rfl) ?_ | refine x_pure rfl (p_load1r rfl Try.g9 rfl rfl) ?_ | refine x_pure rfl (p_load1r rfl Try.g9 rfl (strs_ref (by simp only [List.length_cons] at *; omega))) ?_ | refine x_pure rfl (p_load1r rfl Try.g9 rfl (strs_ref (by omega))) ?_
      refine x_guard_t rfl rfl rfl ?_
      refine x_pure rfl (p_move rfl) ?_
      refine x_guard_t rfl rfl rfl ?_
      refine x_pure rfl (p_bin rfl rfl rfl) ?_
      refine x_pure rfl (p_pick_f rfl rfl) ?_
      first | refine aops_end ?_ | refine aops_nil ?_
      refine hK8 _ ?_
      refine aw_cond_s rfl (fun hc3 => ?_) (fun hc3 => ?_)
      ·
        try simp only [Bool.not_eq_true', Bool.not_eq_false', Bool.not_true, Bool.not_false, Bool.not_not, decide_eq_true_eq, decide_eq_false_iff_not, beq_iff_eq, beq_eq_false_iff_ne, bne_iff_ne, bne_eq_false_iff_eq, ne_eq, Int.not_lt, Int.not_le, Nat.not_lt, Nat.not_le, gt_iff_lt, ge_iff_le, Bool.and_eq_true, Bool.or_eq_true, Int.ofNat_lt, Int.ofNat_le, Int.natCast_inj, List.length_map, List.length_cons, List.length_nil, List.length_append] at hc3
        refine aw_seq_k (fun K9 hK9 => ?_)
        refine aw_region ?_
        have hor : p.1.toList = u.toList ∨ p.2.toList = u.toList := (by first | exact .inl (by assumption) | exact .inr (by assumption))
        rw [erased_periods hor]
        refine x_step hf rfl (r_call rfl rfl Try.ent10 rfl (alive9_den)) ?_
        refine x_pure rfl (p_move rfl) ?_
        refine x_guard_t rfl rfl rfl ?_
        refine x_pure rfl (p_move rfl) ?_
        refine x_guard_t rfl rfl rfl ?_
        first | refine x_pure rfl (p_len_sl rfl Try.e42) ?_ | refine x_pure rfl (p_len_own rfl Try.e42) ?_ | refine x_pure rfl (p_len_nil rfl Try.e42) ?_
        refine x_guard_t rfl rfl rfl ?_
        refine x_pure rfl (p_bin rfl rfl rfl) ?_
        refine x_pure rfl (p_pick_t rfl rfl) ?_
        refine x_pure rfl (p_move rfl) ?_
        refine x_guard_t rfl rfl rfl ?_
        refine x_pure rfl (p_move rfl) ?_
        refine x_guard_t rfl rfl rfl ?_
        first | refine x_pure rfl (p_loads rfl Try.g24 Try.c24 rfl rfl) ?_ | refine x_pure rfl (p_loadsr rfl Try.g24 Try.c24 rfl rfl rfl) ?_
        refine x_guard_t rfl rfl rfl ?_
        refine x_step hf rfl (r_call rfl rfl Try.ent18 rfl ((show Den Try.prog _ _ (· = .s (.bool false)) from den_is (inForce_den (l.filter fun e => !hasUB u e) p (by omega)) (by rw [erased_on hor])))) ?_
        refine x_guard_t rfl rfl rfl ?_
        refine x_pure rfl (p_not rfl) ?_
        refine x_pure rfl (p_pick_t rfl rfl) ?_
        refine x_pure rfl (p_assign rfl) ?_
        first | refine aops_end ?_ | refine aops_nil ?_
        refine hK9 _ ?_
        refine aw_ret ?_
        refine ⟨_, rfl, ?_⟩
        rfl
      ·
        try simp only [Bool.not_eq_true', Bool.not_eq_false', Bool.not_true, Bool.not_false, Bool.not_not, decide_eq_true_eq, decide_eq_false_iff_not, beq_iff_eq, beq_eq_false_iff_ne, bne_iff_ne, bne_eq_false_iff_eq, ne_eq, Int.not_lt, Int.not_le, Nat.not_lt, Nat.not_le, gt_iff_lt, ge_iff_le, Bool.and_eq_true, Bool.or_eq_true, Int.ofNat_lt, Int.ofNat_le, Int.natCast_inj, List.length_map, List.length_cons, List.length_nil, List.length_append] at hc3
        refine aw_skip ?_
        refine hK7 _ ?_
        refine aw_seq_k (fun K10 hK10 => ?_)
        refine aw_draw hf Try.mixed (by kernel_rfl) rfl ?_
        have e1 := erased_others (l := l) (u := u) (p := p) (by assumption) (by assumption)
        rw [e1]
        refine d_rstep [] rfl rfl trivial rfl (r_call rfl rfl Try.ent10 rfl (alive9_den)) ?_
        refine d_pure [(42, _)] rfl rfl ⟨⟨rfl, rfl⟩, trivial⟩ rfl (p_move rfl) ?_
        refine d_pure [(8, _)] rfl rfl ⟨⟨rfl, rfl⟩, trivial⟩ rfl (p_move rfl) ?_
        refine d_pure [(0, _)] rfl rfl ⟨⟨rfl, rfl⟩, trivial⟩ rfl (p_move rfl) ?_
        refine d_rstep [(45, _)] rfl rfl ⟨⟨rfl, rfl⟩, trivial⟩ rfl (r_call rfl rfl Try.ent11 rfl (news9_den _ (by omega))) ?_
        first | refine d_pure [(5, _)] rfl rfl ⟨⟨rfl, rfl⟩, trivial⟩ rfl (p_loads rfl Try.g24 Try.c24 rfl rfl) ?_ | refine d_pure [(5, _)] rfl rfl ⟨⟨rfl, rfl⟩, trivial⟩ rfl (p_loadsr rfl Try.g24 Try.c24 rfl rfl rfl) ?_
        refine d_rstep [(46, _), (47, _)] rfl rfl ⟨⟨rfl, rfl⟩, ⟨rfl, rfl⟩, trivial⟩ rfl (r_call rfl rfl Try.ent22 rfl (periods_den _ _ (by omega))) ?_
        refine d_rstep [(44, _), (48, _)] rfl rfl ⟨⟨rfl, rfl⟩, ⟨rfl, rfl⟩, trivial⟩ rfl (r_call rfl rfl Try.ent31 rfl (sameT_den _ _ rfl (by omega))) ?_
        refine d_pure [(43, _), (49, _)] rfl rfl ⟨⟨rfl, rfl⟩, ⟨rfl, rfl⟩, trivial⟩ rfl (p_pick_t rfl rfl) ?_
        refine d_pure [(50, _)] rfl rfl ⟨⟨rfl, rfl⟩, trivial⟩ rfl (p_move rfl) ?_
        refine d_pure [(0, _)] rfl rfl ⟨⟨rfl, rfl⟩, trivial⟩ rfl (p_move rfl) ?_
        refine d_rstep [(52, _)] rfl rfl ⟨⟨rfl, rfl⟩, trivial⟩ rfl (r_call rfl rfl Try.ent29 rfl (refRising_den _ (by omega) (by assumption))) ?_
        refine d_pure [(53, _)] rfl rfl ⟨⟨rfl, rfl⟩, trivial⟩ rfl (p_not rfl) ?_
        refine d_pure [(54, _)] rfl rfl ⟨⟨rfl, rfl⟩, trivial⟩ rfl (p_move rfl) ?_
        refine d_split 55 false rfl (fun hg4 => ?_) (fun hg4 => ?_)
        ·
          try simp only [Bool.not_eq_true', Bool.not_eq_false', Bool.not_true, Bool.not_false, Bool.not_not, decide_eq_true_eq, decide_eq_false_iff_not, beq_iff_eq, beq_eq_false_iff_ne, bne_iff_ne, bne_eq_false_iff_eq, ne_eq, Int.not_lt, Int.not_le, Nat.not_lt, Nat.not_le, gt_iff_lt, ge_iff_le, Bool.and_eq_true, Bool.or_eq_true, Int.ofNat_lt, Int.ofNat_le, Int.natCast_inj, List.length_map, List.length_cons, List.length_nil, List.length_append] at hg4
          refine d_pure [(7, _)] rfl rfl ⟨⟨rfl, rfl⟩, trivial⟩ rfl (p_move rfl) ?_
          refine d_rstep [(56, _)] rfl rfl ⟨⟨rfl, rfl⟩, trivial⟩ rfl (r_call rfl rfl Try.ent28 rfl ((show Den Try.prog _ _ (· = .s (.bool true)) from den_is (rising_den (l.filter fun e => !hasUB u e) (by omega) (fun e he => ht e (List.mem_filter.1 he).1)) (by rw [risE_filter _ (by assumption)])))) ?_
          refine d_pure [(55, _), (57, _)] rfl rfl ⟨⟨rfl, rfl⟩, ⟨rfl, rfl⟩, trivial⟩ rfl (p_pick_f rfl rfl) ?_
          refine d_pure [(51, _), (58, _)] rfl rfl ⟨⟨rfl, rfl⟩, ⟨rfl, rfl⟩, trivial⟩ rfl (p_pick_t rfl rfl) ?_
          refine d_pure [(59, _)] rfl rfl ⟨⟨rfl, rfl⟩, trivial⟩ rfl (p_assign rfl) ?_
          refine lex_end (sl' := [(6, _)]) rfl ⟨rfl, trivial⟩ rfl ?_
          refine hK10 _ ?_
          refine aw_ret ?_
          refine ⟨_, rfl, ?_⟩
          rfl
        ·
          try simp only [Bool.not_eq_true', Bool.not_eq_false', Bool.not_true, Bool.not_false, Bool.not_not, decide_eq_true_eq, decide_eq_false_iff_not, beq_iff_eq, beq_eq_false_iff_ne, bne_iff_ne, bne_eq_false_iff_eq, ne_eq, Int.not_lt, Int.not_le, Nat.not_lt, Nat.not_le, gt_iff_lt, ge_iff_le, Bool.and_eq_true, Bool.or_eq_true, Int.ofNat_lt, Int.ofNat_le, Int.natCast_inj, List.length_map, List.length_cons, List.length_nil, List.length_append] at hg4
          refine d_skip rfl rfl ?_
          refine d_skip rfl rfl ?_
          refine d_pure [(55, _), (57, _)] rfl rfl ⟨⟨rfl, rfl⟩, ⟨rfl, rfl⟩, trivial⟩ rfl (p_pick_t rfl rfl) ?_
          refine d_pure [(51, _), (58, _)] rfl rfl ⟨⟨rfl, rfl⟩, ⟨rfl, rfl⟩, trivial⟩ rfl (p_pick_t rfl rfl) ?_
          refine d_pure [(59, _)] rfl rfl ⟨⟨rfl, rfl⟩, trivial⟩ rfl (p_assign rfl) ?_
          refine lex_end (sl' := [(6, _)]) rfl ⟨rfl, trivial⟩ rfl ?_
          refine hK10 _ ?_
          refine aw_ret ?_
          refine ⟨_, rfl, ?_⟩
          rfl
    ·
      try simp only [Bool.not_eq_true', Bool.not_eq_false', Bool.not_true, Bool.not_false, Bool.not_not, decide_eq_true_eq, decide_eq_false_iff_not, beq_iff_eq, beq_eq_false_iff_ne, bne_iff_ne, bne_eq_false_iff_eq, ne_eq, Int.not_lt, Int.not_le, Nat.not_lt, Nat.not_le, gt_iff_lt, ge_iff_le, Bool.and_eq_true, Bool.or_eq_true, Int.ofNat_lt, Int.ofNat_le, Int.natCast_inj, List.length_map, List.length_cons, List.length_nil, List.length_append] at hg2
      refine x_guard_f rfl rfl rfl ?_
      refine x_guard_f rfl rfl rfl ?_
      refine x_guard_f rfl rfl rfl ?_
      refine x_pure rfl (p_pick_t rfl rfl) ?_
      first | refine aops_end ?_ | refine aops_nil ?_
      refine hK8 _ ?_
      refine aw_cond_t rfl ?_
      refine aw_seq_k (fun K11 hK11 => ?_)
      refine aw_region ?_
      have hor : p.1.toList = u.toList ∨ p.2.toList = u.toList := (by first | exact .inl (by assumption) | exact .inr (by assumption))
      rw [erased_periods hor]
      refine x_step hf rfl (r_call rfl rfl Try.ent10 rfl (alive9_den)) ?_
      refine x_pure rfl (p_move rfl) ?_
      refine x_guard_t rfl rfl rfl ?_
      refine x_pure rfl (p_move rfl) ?_
      refine x_guard_t rfl rfl rfl ?_
      first | refine x_pure rfl (p_len_sl rfl Try.e42) ?_ | refine x_pure rfl (p_len_own rfl Try.e42) ?_ | refine x_pure rfl (p_len_nil rfl Try.e42) ?_
      refine x_guard_t rfl rfl rfl ?_
      refine x_pure rfl (p_bin rfl rfl rfl) ?_
      refine x_pure rfl (p_pick_t rfl rfl) ?_
      refine x_pure rfl (p_move rfl) ?_
      refine x_guard_t rfl rfl rfl ?_
      refine x_pure rfl (p_move rfl) ?_
      refine x_guard_t rfl rfl rfl ?_
      first | refine x_pure rfl (p_loads rfl Try.g24 Try.c24 rfl rfl) ?_ | refine x_pure rfl (p_loadsr rfl Try.g24 Try.c24 rfl rfl rfl) ?_
      refine x_guard_t rfl rfl rfl ?_
      refine x_step hf rfl (r_call rfl rfl Try.ent18 rfl ((show Den Try.prog _ _ (· = .s (.bool false)) from den_is (inForce_den (l.filter fun e => !hasUB u e) p (by omega)) (by rw [erased_on hor])))) ?_
      refine x_guard_t rfl rfl rfl ?_
      refine x_pure rfl (p_not rfl) ?_
      refine x_pure rfl (p_pick_t rfl rfl) ?_
      refine x_pure rfl (p_assign rfl) ?_
      first | refine aops_end ?_ | refine aops_nil ?_
      refine hK11 _ ?_
      refine aw_ret ?_
      refine ⟨_, rfl, ?_⟩
      rfl
end Go.Proofs.Ytblbkjdfgpffpaa
