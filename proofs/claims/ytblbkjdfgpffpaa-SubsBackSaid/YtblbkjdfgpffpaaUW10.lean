import Derived.Test.YtblbkjdfgpffpaaUW9
set_option linter.unusedVariables false
set_option linter.unusedSimpArgs false
namespace Go.Proofs.Ytblbkjdfgpffpaa
open Go Go.Abs

set_option maxRecDepth 20000 in
set_option maxHeartbeats 8000000 in
theorem subsGrants_den (l : List En) (p : Pr) (t : Int) (hl : l.length * 48 ≤ 140737488351232) (ht : ∀ e ∈ l, TS e.1.1 ∧ TS e.1.2) (hp : TS p.1 ∧ TS p.2)  : Den Try.prog 3 [.sl 4 (l.map enC), .agg (prC p), .s (.int .i64 t)]  (· = .s (.bool true)) := by
  refine den_of_aw Try.func3 rfl (Nat.le_of_ble_eq_true rfl) (fun w0 A hf => ?_)
  refine aw_seq_k (fun K1 hK1 => ?_)
  refine aw_region ?_
  refine x_step hf rfl (r_box rfl rfl (by simp [enC, prC, AV.cells, AV.leaf, Value.oneCell', splice, AV.kill, AV.clean, cleanL, AV.only])) ?_
  refine x_pure rfl (p_assign_bad) ?_
  first | refine aops_end ?_ | refine aops_nil ?_
  refine hK1 _ ?_
  refine aw_seq_k (fun K2 hK2 => ?_)
  refine aw_seq_k (fun K3 hK3 => ?_)
  refine aw_region ?_
  refine x_pure rfl (p_move rfl) ?_
  first | refine x_pure rfl (p_len_sl rfl Try.e22) ?_ | refine x_pure rfl (p_len_own rfl Try.e22) ?_ | refine x_pure rfl (p_len_nil rfl Try.e22) ?_
  refine x_pure rfl (p_bin rfl rfl rfl) ?_
  first | refine aops_end ?_ | refine aops_nil ?_
  refine hK3 _ ?_
  refine aw_cond_s rfl (fun hc1 => ?_) (fun hc1 => ?_)
  ·
    try simp only [Bool.not_eq_true', Bool.not_eq_false', Bool.not_true, Bool.not_false, Bool.not_not, decide_eq_true_eq, decide_eq_false_iff_not, beq_iff_eq, beq_eq_false_iff_ne, bne_iff_ne, bne_eq_false_iff_eq, ne_eq, Int.not_lt, Int.not_le, Nat.not_lt, Nat.not_le, gt_iff_lt, ge_iff_le, Bool.and_eq_true, Bool.or_eq_true, Int.ofNat_lt, Int.ofNat_le, Int.natCast_inj, List.length_map, List.length_cons, List.length_nil, List.length_append] at hc1
    refine aw_seq_k (fun K4 hK4 => ?_)
    refine aw_region ?_
    refine x_step hf rfl (r_call rfl rfl Try.ent10 rfl (alive9_den)) ?_
    refine x_pure rfl (p_assign rfl) ?_
    first | refine aops_end ?_ | refine aops_nil ?_
    refine hK4 _ ?_
    refine aw_ret ?_
    refine ⟨_, rfl, ?_⟩
    rfl
  ·
    try simp only [Bool.not_eq_true', Bool.not_eq_false', Bool.not_true, Bool.not_false, Bool.not_not, decide_eq_true_eq, decide_eq_false_iff_not, beq_iff_eq, beq_eq_false_iff_ne, bne_iff_ne, bne_eq_false_iff_eq, ne_eq, Int.not_lt, Int.not_le, Nat.not_lt, Nat.not_le, gt_iff_lt, ge_iff_le, Bool.and_eq_true, Bool.or_eq_true, Int.ofNat_lt, Int.ofNat_le, Int.natCast_inj, List.length_map, List.length_cons, List.length_nil, List.length_append] at hc1
    refine aw_skip ?_
    refine hK2 _ ?_
    refine aw_seq_k (fun K5 hK5 => ?_)
    refine aw_region ?_
    have hq1 := iteg_len l p t
    have hq2 := iter_len l p t
    refine x_pure rfl (p_move rfl) ?_
    refine x_step hf rfl (r_call rfl rfl Try.ent11 rfl (news9_den _ (by omega))) ?_
    refine x_pure rfl (p_assign rfl) ?_
    first | refine aops_end ?_ | refine aops_nil ?_
    refine hK5 _ ?_
    refine aw_seq_k (fun K6 hK6 => ?_)
    refine aw_region ?_
    refine x_pure rfl (p_move rfl) ?_
    first | refine x_pure rfl (p_loads rfl Try.g24 Try.c24 rfl rfl) ?_ | refine x_pure rfl (p_loadsr rfl Try.g24 Try.c24 rfl rfl rfl) ?_
    refine x_pure rfl (p_move rfl) ?_
    refine x_step hf rfl (r_call rfl rfl Try.ent12 rfl (grant_den _ _ _ (by omega))) ?_
    refine x_pure rfl (p_move rfl) ?_
    refine x_pure rfl (p_extract rfl rfl) ?_
    refine x_pure rfl (p_extract rfl rfl) ?_
    refine x_pure rfl (p_assign rfl) ?_
    refine x_pure rfl (p_assign rfl) ?_
    first | refine aops_end ?_ | refine aops_nil ?_
    refine hK6 _ ?_
    refine aw_seq_k (fun K7 hK7 => ?_)
    refine aw_region ?_
    refine x_pure rfl (p_move rfl) ?_
    first | refine x_pure rfl (p_loads rfl Try.g24 Try.c24 rfl rfl) ?_ | refine x_pure rfl (p_loadsr rfl Try.g24 Try.c24 rfl rfl rfl) ?_
    refine x_pure rfl (p_move rfl) ?_
    refine x_step hf rfl (r_call rfl rfl Try.ent13 rfl (refGrant_den _ _ _ (by omega) ht hp.1 hp.2)) ?_
    refine x_pure rfl (p_move rfl) ?_
    refine x_pure rfl (p_extract rfl rfl) ?_
    refine x_pure rfl (p_extract rfl rfl) ?_
    refine x_pure rfl (p_assign rfl) ?_
    refine x_pure rfl (p_assign rfl) ?_
    first | refine aops_end ?_ | refine aops_nil ?_
    refine hK7 _ ?_
    refine aw_seq_k (fun K8 hK8 => ?_)
    refine aw_region ?_
    refine x_pure rfl (p_move rfl) ?_
    first | refine x_pure rfl (p_loads rfl Try.g24 Try.c24 rfl rfl) ?_ | refine x_pure rfl (p_loadsr rfl Try.g24 Try.c24 rfl rfl rfl) ?_
    refine x_pure rfl (p_move rfl) ?_
    refine x_step hf rfl (r_call rfl rfl Try.ent14 rfl (revoke_den _ _ _ (by omega))) ?_
    refine x_pure rfl (p_move rfl) ?_
    refine x_pure rfl (p_extract rfl rfl) ?_
    refine x_pure rfl (p_extract rfl rfl) ?_
    refine x_pure rfl (p_assign rfl) ?_
    refine x_pure rfl (p_assign rfl) ?_
    first | refine aops_end ?_ | refine aops_nil ?_
    refine hK8 _ ?_
    refine aw_seq_k (fun K9 hK9 => ?_)
    refine aw_region ?_
    refine x_pure rfl (p_move rfl) ?_
    first | refine x_pure rfl (p_loads rfl Try.g24 Try.c24 rfl rfl) ?_ | refine x_pure rfl (p_loadsr rfl Try.g24 Try.c24 rfl rfl rfl) ?_
    refine x_pure rfl (p_move rfl) ?_
    refine x_step hf rfl (r_call rfl rfl Try.ent15 rfl (refRevoke_den _ _ _ (by omega))) ?_
    refine x_pure rfl (p_move rfl) ?_
    refine x_pure rfl (p_extract rfl rfl) ?_
    refine x_pure rfl (p_extract rfl rfl) ?_
    refine x_pure rfl (p_assign rfl) ?_
    refine x_pure rfl (p_assign rfl) ?_
    first | refine aops_end ?_ | refine aops_nil ?_
    refine hK9 _ ?_
    refine aw_seq_k (fun K10 hK10 => ?_)
    refine aw_draw hf Try.mixed (by kernel_rfl) rfl ?_
    refine d_rstep [] rfl rfl trivial rfl (r_call rfl rfl Try.ent10 rfl (alive9_den)) ?_
    refine d_pure [(50, _)] rfl rfl ⟨⟨rfl, rfl⟩, trivial⟩ rfl (p_move rfl) ?_
    refine d_pure [(8, _)] rfl rfl ⟨⟨rfl, rfl⟩, trivial⟩ rfl (p_move rfl) ?_
    refine d_rstep [(52, _)] rfl rfl ⟨⟨rfl, rfl⟩, trivial⟩ rfl (r_call rfl rfl Try.ent17 rfl (olds9_den _ (by omega))) ?_
    refine d_pure [(10, _)] rfl rfl ⟨⟨rfl, rfl⟩, trivial⟩ rfl (p_move rfl) ?_
    refine d_rstep [(53, _), (54, _)] rfl rfl ⟨⟨rfl, rfl⟩, ⟨rfl, rfl⟩, trivial⟩ rfl (r_call rfl rfl Try.ent16 rfl (refSame9T_den _ _ rfl (by omega))) ?_
    refine d_pure [(51, _), (55, _)] rfl rfl ⟨⟨rfl, rfl⟩, ⟨rfl, rfl⟩, trivial⟩ rfl (p_pick_t rfl rfl) ?_
    refine d_pure [(56, _)] rfl rfl ⟨⟨rfl, rfl⟩, trivial⟩ rfl (p_move rfl) ?_
    refine d_pure [(9, _)] rfl rfl ⟨⟨rfl, rfl⟩, trivial⟩ rfl (p_move rfl) ?_
    refine d_pure [(11, _)] rfl rfl ⟨⟨rfl, rfl⟩, trivial⟩ rfl (p_move rfl) ?_
    refine d_pure [(58, _), (59, _)] rfl rfl ⟨⟨rfl, rfl⟩, ⟨rfl, rfl⟩, trivial⟩ rfl (p_bin rfl rfl (inteq_t (rfl))) ?_
    refine d_pure [(57, _), (60, _)] rfl rfl ⟨⟨rfl, rfl⟩, ⟨rfl, rfl⟩, trivial⟩ rfl (p_pick_t rfl rfl) ?_
    refine d_pure [(61, _)] rfl rfl ⟨⟨rfl, rfl⟩, trivial⟩ rfl (p_move rfl) ?_
    refine d_pure [(12, _)] rfl rfl ⟨⟨rfl, rfl⟩, trivial⟩ rfl (p_move rfl) ?_
    refine d_rstep [(63, _)] rfl rfl ⟨⟨rfl, rfl⟩, trivial⟩ rfl (r_call rfl rfl Try.ent17 rfl (olds9_den _ (by omega))) ?_
    refine d_pure [(14, _)] rfl rfl ⟨⟨rfl, rfl⟩, trivial⟩ rfl (p_move rfl) ?_
    refine d_rstep [(64, _), (65, _)] rfl rfl ⟨⟨rfl, rfl⟩, ⟨rfl, rfl⟩, trivial⟩ rfl (r_call rfl rfl Try.ent16 rfl (refSame9T_den _ _ rfl (by omega))) ?_
    refine d_pure [(62, _), (66, _)] rfl rfl ⟨⟨rfl, rfl⟩, ⟨rfl, rfl⟩, trivial⟩ rfl (p_pick_t rfl rfl) ?_
    refine d_pure [(67, _)] rfl rfl ⟨⟨rfl, rfl⟩, trivial⟩ rfl (p_move rfl) ?_
    refine d_pure [(13, _)] rfl rfl ⟨⟨rfl, rfl⟩, trivial⟩ rfl (p_move rfl) ?_
    refine d_pure [(15, _)] rfl rfl ⟨⟨rfl, rfl⟩, trivial⟩ rfl (p_move rfl) ?_
    refine d_pure [(69, _), (70, _)] rfl rfl ⟨⟨rfl, rfl⟩, ⟨rfl, rfl⟩, trivial⟩ rfl (p_bin rfl rfl (inteq_t (rfl))) ?_
    refine d_pure [(68, _), (71, _)] rfl rfl ⟨⟨rfl, rfl⟩, ⟨rfl, rfl⟩, trivial⟩ rfl (p_pick_t rfl rfl) ?_
    refine d_pure [(72, _)] rfl rfl ⟨⟨rfl, rfl⟩, trivial⟩ rfl (p_move rfl) ?_
    refine d_pure [(7, _)] rfl rfl ⟨⟨rfl, rfl⟩, trivial⟩ rfl (p_move rfl) ?_
    first | refine d_pure [(4, _)] rfl rfl ⟨⟨rfl, rfl⟩, trivial⟩ rfl (p_loads rfl Try.g24 Try.c24 rfl rfl) ?_ | refine d_pure [(4, _)] rfl rfl ⟨⟨rfl, rfl⟩, trivial⟩ rfl (p_loadsr rfl Try.g24 Try.c24 rfl rfl rfl) ?_
    refine d_rstep [(74, _), (75, _)] rfl rfl ⟨⟨rfl, rfl⟩, ⟨rfl, rfl⟩, trivial⟩ rfl (r_call rfl rfl Try.ent18 rfl (inForce_den _ _ (by omega))) ?_
    refine d_pure [(0, _)] rfl rfl ⟨⟨rfl, rfl⟩, trivial⟩ rfl (p_move rfl) ?_
    first | refine d_pure [(4, _)] rfl rfl ⟨⟨rfl, rfl⟩, trivial⟩ rfl (p_loads rfl Try.g24 Try.c24 rfl rfl) ?_ | refine d_pure [(4, _)] rfl rfl ⟨⟨rfl, rfl⟩, trivial⟩ rfl (p_loadsr rfl Try.g24 Try.c24 rfl rfl rfl) ?_
    refine d_rstep [(77, _), (78, _)] rfl rfl ⟨⟨rfl, rfl⟩, ⟨rfl, rfl⟩, trivial⟩ rfl (r_call rfl rfl Try.ent19 rfl (refForce_den _ _ (by omega))) ?_
    refine d_pure [(79, _)] rfl rfl ⟨⟨rfl, rfl⟩, trivial⟩ rfl (p_bin rfl rfl rfl) ?_
    refine d_pure [(76, _), (80, _)] rfl rfl ⟨⟨rfl, rfl⟩, ⟨rfl, rfl⟩, trivial⟩ rfl (p_bin rfl rfl (booleq_t Try.underlying4 ((idxB_any (forceP p) l).symm))) ?_
    refine d_pure [(73, _), (81, _)] rfl rfl ⟨⟨rfl, rfl⟩, ⟨rfl, rfl⟩, trivial⟩ rfl (p_pick_t rfl rfl) ?_
    refine d_pure [(82, _)] rfl rfl ⟨⟨rfl, rfl⟩, trivial⟩ rfl (p_move rfl) ?_
    refine d_pure [(7, _)] rfl rfl ⟨⟨rfl, rfl⟩, trivial⟩ rfl (p_move rfl) ?_
    refine d_rstep [(84, _)] rfl rfl ⟨⟨rfl, rfl⟩, trivial⟩ rfl (r_call rfl rfl Try.ent17 rfl (olds9_den _ (by omega))) ?_
    refine d_pure [(0, _)] rfl rfl ⟨⟨rfl, rfl⟩, trivial⟩ rfl (p_move rfl) ?_
    refine d_rstep [(85, _), (86, _)] rfl rfl ⟨⟨rfl, rfl⟩, ⟨rfl, rfl⟩, trivial⟩ rfl (r_call rfl rfl Try.ent16 rfl (refSame9T_den _ _ rfl (by omega))) ?_
    refine d_pure [(83, _), (87, _)] rfl rfl ⟨⟨rfl, rfl⟩, ⟨rfl, rfl⟩, trivial⟩ rfl (p_pick_t rfl rfl) ?_
    refine d_pure [(88, _)] rfl rfl ⟨⟨rfl, rfl⟩, trivial⟩ rfl (p_assign rfl) ?_
    refine lex_end (sl' := [(6, _)]) rfl ⟨rfl, trivial⟩ rfl ?_
    refine hK10 _ ?_
    refine aw_ret ?_
    refine ⟨_, rfl, ?_⟩
    rfl

set_option maxRecDepth 20000 in
set_option maxHeartbeats 8000000 in
theorem subsBackOn_den (l : List En) (p : Pr) (t : Int) (hl : l.length * 48 ≤ 140737488351232) (hon : onB l p = true)  : Den Try.prog 6 [.sl 4 (l.map enC), .agg (prC p), .s (.int .i64 t)]  (· = .s (.bool true)) := by
  refine den_of_aw Try.func6 rfl (Nat.le_of_ble_eq_true rfl) (fun w0 A hf => ?_)
  refine aw_seq_k (fun K1 hK1 => ?_)
  refine aw_region ?_
  refine x_step hf rfl (r_box rfl rfl (by simp [enC, prC, AV.cells, AV.leaf, Value.oneCell', splice, AV.kill, AV.clean, cleanL, AV.only])) ?_
  refine x_pure rfl (p_assign_bad) ?_
  first | refine aops_end ?_ | refine aops_nil ?_
  refine hK1 _ ?_
  refine aw_seq_k (fun K2 hK2 => ?_)
  refine aw_seq_k (fun K3 hK3 => ?_)
  refine aw_region ?_
  refine x_pure rfl (p_move rfl) ?_
  first | refine x_pure rfl (p_len_sl rfl Try.e22) ?_ | refine x_pure rfl (p_len_own rfl Try.e22) ?_ | refine x_pure rfl (p_len_nil rfl Try.e22) ?_
  refine x_pure rfl (p_bin rfl rfl rfl) ?_
  first | refine aops_end ?_ | refine aops_nil ?_
  refine hK3 _ ?_
  refine aw_cond_s rfl (fun hc1 => ?_) (fun hc1 => ?_)
  ·
    try simp only [Bool.not_eq_true', Bool.not_eq_false', Bool.not_true, Bool.not_false, Bool.not_not, decide_eq_true_eq, decide_eq_false_iff_not, beq_iff_eq, beq_eq_false_iff_ne, bne_iff_ne, bne_eq_false_iff_eq, ne_eq, Int.not_lt, Int.not_le, Nat.not_lt, Nat.not_le, gt_iff_lt, ge_iff_le, Bool.and_eq_true, Bool.or_eq_true, Int.ofNat_lt, Int.ofNat_le, Int.natCast_inj, List.length_map, List.length_cons, List.length_nil, List.length_append] at hc1
    refine aw_seq_k (fun K4 hK4 => ?_)
    refine aw_region ?_
    refine x_step hf rfl (r_call rfl rfl Try.ent10 rfl (alive9_den)) ?_
    refine x_pure rfl (p_assign rfl) ?_
    first | refine aops_end ?_ | refine aops_nil ?_
    refine hK4 _ ?_
    refine aw_ret ?_
    refine ⟨_, rfl, ?_⟩
    rfl
  ·
    try simp only [Bool.not_eq_true', Bool.not_eq_false', Bool.not_true, Bool.not_false, Bool.not_not, decide_eq_true_eq, decide_eq_false_iff_not, beq_iff_eq, beq_eq_false_iff_ne, bne_iff_ne, bne_eq_false_iff_eq, ne_eq, Int.not_lt, Int.not_le, Nat.not_lt, Nat.not_le, gt_iff_lt, ge_iff_le, Bool.and_eq_true, Bool.or_eq_true, Int.ofNat_lt, Int.ofNat_le, Int.natCast_inj, List.length_map, List.length_cons, List.length_nil, List.length_append] at hc1
    refine aw_skip ?_
    refine hK2 _ ?_
    refine aw_seq_k (fun K5 hK5 => ?_)
    refine aw_draw hf Try.mixed (by kernel_rfl) rfl ?_
    refine d_pure [(0, _)] rfl rfl ⟨⟨rfl, rfl⟩, trivial⟩ rfl (p_move rfl) ?_
    refine d_rstep [(16, _)] rfl rfl ⟨⟨rfl, rfl⟩, trivial⟩ rfl (r_call rfl rfl Try.ent11 rfl (news9_den _ (by omega))) ?_
    first | refine d_pure [(4, _)] rfl rfl ⟨⟨rfl, rfl⟩, trivial⟩ rfl (p_loads rfl Try.g24 Try.c24 rfl rfl) ?_ | refine d_pure [(4, _)] rfl rfl ⟨⟨rfl, rfl⟩, trivial⟩ rfl (p_loadsr rfl Try.g24 Try.c24 rfl rfl rfl) ?_
    refine d_pure [(2, _)] rfl rfl ⟨⟨rfl, rfl⟩, trivial⟩ rfl (p_move rfl) ?_
    refine d_rstep [(17, _), (18, _), (19, _)] rfl rfl ⟨⟨rfl, rfl⟩, ⟨rfl, rfl⟩, ⟨rfl, rfl⟩, trivial⟩ rfl (r_call rfl rfl Try.ent12 rfl ((show Den Try.prog _ _ (· = .tup [.sl 4 (List.map enC []), .s (.int .i64 90)]) from den_is (grant_den l p t (by omega)) (by rw [hon]; rfl)))) ?_
    refine d_pure [(20, _)] rfl rfl ⟨⟨rfl, rfl⟩, trivial⟩ rfl (p_move rfl) ?_
    refine d_pure [(15, _)] rfl rfl ⟨⟨rfl, rfl⟩, trivial⟩ rfl (p_extract rfl rfl) ?_
    refine d_pure [(15, _)] rfl rfl ⟨⟨rfl, rfl⟩, trivial⟩ rfl (p_extract rfl rfl) ?_
    refine d_pure [(21, _)] rfl rfl ⟨⟨rfl, rfl⟩, trivial⟩ rfl (p_assign rfl) ?_
    refine d_pure [(22, _)] rfl rfl ⟨⟨rfl, rfl⟩, trivial⟩ rfl (p_assign rfl) ?_
    refine lex_end (sl' := [(0, _), (2, _), (4, _), (7, _), (8, _)]) rfl ⟨rfl, rfl, rfl, rfl, rfl, trivial⟩ rfl ?_
    refine hK5 _ ?_
    refine aw_seq_k (fun K6 hK6 => ?_)
    refine aw_seq_k (fun K7 hK7 => ?_)
    refine aw_region ?_
    refine x_pure rfl (p_move rfl) ?_
    refine x_pure rfl (p_bin rfl rfl rfl) ?_
    refine x_pure rfl (p_move rfl) ?_
    refine x_guard_f rfl rfl rfl ?_
    refine x_guard_f rfl rfl rfl ?_
    refine x_pure rfl (p_pick_t rfl rfl) ?_
    first | refine aops_end ?_ | refine aops_nil ?_
    refine hK7 _ ?_
    refine aw_cond_t rfl ?_
    refine aw_seq_k (fun K8 hK8 => ?_)
    refine aw_region ?_
    refine x_step hf rfl (r_call rfl rfl Try.ent10 rfl (alive9_den)) ?_
    refine x_pure rfl (p_assign rfl) ?_
    first | refine aops_end ?_ | refine aops_nil ?_
    refine hK8 _ ?_
    refine aw_ret ?_
    refine ⟨_, rfl, ?_⟩
    rfl

set_option maxRecDepth 20000 in
set_option maxHeartbeats 8000000 in
theorem subsBackOff_den (l : List En) (p : Pr) (t : Int) (hl : l.length * 48 ≤ 140737488351232) (ht : ∀ e ∈ l, TS e.1.1 ∧ TS e.1.2) (hon : onB l p = false)  : Den Try.prog 6 [.sl 4 (l.map enC), .agg (prC p), .s (.int .i64 t)]  (· = .s (.bool true)) := by
  refine den_of_aw Try.func6 rfl (Nat.le_of_ble_eq_true rfl) (fun w0 A hf => ?_)
  refine aw_seq_k (fun K1 hK1 => ?_)
  refine aw_region ?_
  refine x_step hf rfl (r_box rfl rfl (by simp [enC, prC, AV.cells, AV.leaf, Value.oneCell', splice, AV.kill, AV.clean, cleanL, AV.only])) ?_
  refine x_pure rfl (p_assign_bad) ?_
  first | refine aops_end ?_ | refine aops_nil ?_
  refine hK1 _ ?_
  refine aw_seq_k (fun K2 hK2 => ?_)
  refine aw_seq_k (fun K3 hK3 => ?_)
  refine aw_region ?_
  refine x_pure rfl (p_move rfl) ?_
  first | refine x_pure rfl (p_len_sl rfl Try.e22) ?_ | refine x_pure rfl (p_len_own rfl Try.e22) ?_ | refine x_pure rfl (p_len_nil rfl Try.e22) ?_
  refine x_pure rfl (p_bin rfl rfl rfl) ?_
  first | refine aops_end ?_ | refine aops_nil ?_
  refine hK3 _ ?_
  refine aw_cond_s rfl (fun hc1 => ?_) (fun hc1 => ?_)
  ·
    try simp only [Bool.not_eq_true', Bool.not_eq_false', Bool.not_true, Bool.not_false, Bool.not_not, decide_eq_true_eq, decide_eq_false_iff_not, beq_iff_eq, beq_eq_false_iff_ne, bne_iff_ne, bne_eq_false_iff_eq, ne_eq, Int.not_lt, Int.not_le, Nat.not_lt, Nat.not_le, gt_iff_lt, ge_iff_le, Bool.and_eq_true, Bool.or_eq_true, Int.ofNat_lt, Int.ofNat_le, Int.natCast_inj, List.length_map, List.length_cons, List.length_nil, List.length_append] at hc1
    refine aw_seq_k (fun K4 hK4 => ?_)
    refine aw_region ?_
    refine x_step hf rfl (r_call rfl rfl Try.ent10 rfl (alive9_den)) ?_
    refine x_pure rfl (p_assign rfl) ?_
    first | refine aops_end ?_ | refine aops_nil ?_
    refine hK4 _ ?_
    refine aw_ret ?_
    refine ⟨_, rfl, ?_⟩
    rfl
  ·
    try simp only [Bool.not_eq_true', Bool.not_eq_false', Bool.not_true, Bool.not_false, Bool.not_not, decide_eq_true_eq, decide_eq_false_iff_not, beq_iff_eq, beq_eq_false_iff_ne, bne_iff_ne, bne_eq_false_iff_eq, ne_eq, Int.not_lt, Int.not_le, Nat.not_lt, Nat.not_le, gt_iff_lt, ge_iff_le, Bool.and_eq_true, Bool.or_eq_true, Int.ofNat_lt, Int.ofNat_le, Int.natCast_inj, List.length_map, List.length_cons, List.length_nil, List.length_append] at hc1
    refine aw_skip ?_
    refine hK2 _ ?_
    refine aw_seq_k (fun K5 hK5 => ?_)
    refine aw_draw hf Try.mixed (by kernel_rfl) rfl ?_
    have hgl := grant_len (l := l) (p := p) (t := t)
    have hfl := List.length_filter_le (fun e : En => !decide (e.2.2 ≤ t)) l
    refine d_pure [(0, _)] rfl rfl ⟨⟨rfl, rfl⟩, trivial⟩ rfl (p_move rfl) ?_
    refine d_rstep [(16, _)] rfl rfl ⟨⟨rfl, rfl⟩, trivial⟩ rfl (r_call rfl rfl Try.ent11 rfl (news9_den _ (by omega))) ?_
    first | refine d_pure [(4, _)] rfl rfl ⟨⟨rfl, rfl⟩, trivial⟩ rfl (p_loads rfl Try.g24 Try.c24 rfl rfl) ?_ | refine d_pure [(4, _)] rfl rfl ⟨⟨rfl, rfl⟩, trivial⟩ rfl (p_loadsr rfl Try.g24 Try.c24 rfl rfl rfl) ?_
    refine d_pure [(2, _)] rfl rfl ⟨⟨rfl, rfl⟩, trivial⟩ rfl (p_move rfl) ?_
    refine d_rstep [(17, _), (18, _), (19, _)] rfl rfl ⟨⟨rfl, rfl⟩, ⟨rfl, rfl⟩, ⟨rfl, rfl⟩, trivial⟩ rfl (r_call rfl rfl Try.ent12 rfl ((show Den Try.prog _ _ (· = .tup [.sl 4 (List.map enC (grantL l p t)), .s (.int .i64 0)]) from den_is (grant_den l p t (by omega)) (by rw [hon]; rfl)))) ?_
    refine d_pure [(20, _)] rfl rfl ⟨⟨rfl, rfl⟩, trivial⟩ rfl (p_move rfl) ?_
    refine d_pure [(15, _)] rfl rfl ⟨⟨rfl, rfl⟩, trivial⟩ rfl (p_extract rfl rfl) ?_
    refine d_pure [(15, _)] rfl rfl ⟨⟨rfl, rfl⟩, trivial⟩ rfl (p_extract rfl rfl) ?_
    refine d_pure [(21, _)] rfl rfl ⟨⟨rfl, rfl⟩, trivial⟩ rfl (p_assign rfl) ?_
    refine d_pure [(22, _)] rfl rfl ⟨⟨rfl, rfl⟩, trivial⟩ rfl (p_assign rfl) ?_
    refine lex_end (sl' := [(0, _), (2, _), (4, _), (7, _), (8, _)]) rfl ⟨rfl, rfl, rfl, rfl, rfl, trivial⟩ rfl ?_
    refine hK5 _ ?_
    refine aw_seq_k (fun K6 hK6 => ?_)
    refine aw_seq_k (fun K7 hK7 => ?_)
    refine aw_region ?_
    refine x_pure rfl (p_move rfl) ?_
    refine x_pure rfl (p_bin rfl rfl rfl) ?_
    refine x_pure rfl (p_move rfl) ?_
    refine x_guard_t rfl rfl rfl ?_
    refine x_pure rfl (p_move rfl) ?_
    refine x_guard_t rfl rfl rfl ?_
    refine x_pure rfl (p_bin rfl rfl rfl) ?_
    refine x_pure rfl (p_pick_f rfl rfl) ?_
    first | refine aops_end ?_ | refine aops_nil ?_
    refine hK7 _ ?_
    refine aw_cond_s rfl (fun hc2 => ?_) (fun hc2 => ?_)
    ·
      try simp only [Bool.not_eq_true', Bool.not_eq_false', Bool.not_true, Bool.not_false, Bool.not_not, decide_eq_true_eq, decide_eq_false_iff_not, beq_iff_eq, beq_eq_false_iff_ne, bne_iff_ne, bne_eq_false_iff_eq, ne_eq, Int.not_lt, Int.not_le, Nat.not_lt, Nat.not_le, gt_iff_lt, ge_iff_le, Bool.and_eq_true, Bool.or_eq_true, Int.ofNat_lt, Int.ofNat_le, Int.natCast_inj, List.length_map, List.length_cons, List.length_nil, List.length_append] at hc2
      refine aw_seq_k (fun K8 hK8 => ?_)
      refine aw_region ?_
      refine x_step hf rfl (r_call rfl rfl Try.ent10 rfl (alive9_den)) ?_
      refine x_pure rfl (p_assign rfl) ?_
      first | refine aops_end ?_ | refine aops_nil ?_
      refine hK8 _ ?_
      refine aw_ret ?_
      refine ⟨_, rfl, ?_⟩
      rfl
    ·
      try simp only [Bool.not_eq_true', Bool.not_eq_false', Bool.not_true, Bool.not_false, Bool.not_not, decide_eq_true_eq, decide_eq_false_iff_not, beq_iff_eq, beq_eq_false_iff_ne, bne_iff_ne, bne_eq_false_iff_eq, ne_eq, Int.not_lt, Int.not_le, Nat.not_lt, Nat.not_le, gt_iff_lt, ge_iff_le, Bool.and_eq_true, Bool.or_eq_true, Int.ofNat_lt, Int.ofNat_le, Int.natCast_inj, List.length_map, List.length_cons, List.length_nil, List.length_append] at hc2
      refine aw_skip ?_
      refine hK6 _ ?_
      refine aw_seq_k (fun K9 hK9 => ?_)
      refine aw_region ?_
      refine x_pure rfl (p_move rfl) ?_
      first | refine x_pure rfl (p_loads rfl Try.g24 Try.c24 rfl rfl) ?_ | refine x_pure rfl (p_loadsr rfl Try.g24 Try.c24 rfl rfl rfl) ?_
      refine x_pure rfl (p_move rfl) ?_
      refine x_step hf rfl (r_call rfl rfl Try.ent14 rfl ((show Den Try.prog _ _ (· = .tup [.sl 4 (List.map enC l), .s (.int .i64 0)]) from den_is (revoke_den (grantL l p t) p t (by omega)) (by rw [on_grant, back_grant hon]; rfl)))) ?_
      refine x_pure rfl (p_move rfl) ?_
      refine x_pure rfl (p_extract rfl rfl) ?_
      refine x_pure rfl (p_extract rfl rfl) ?_
      refine x_pure rfl (p_assign rfl) ?_
      refine x_pure rfl (p_assign rfl) ?_
      first | refine aops_end ?_ | refine aops_nil ?_
      refine hK9 _ ?_
      refine aw_seq_k (fun K10 hK10 => ?_)
      refine aw_region ?_
      refine x_step hf rfl (r_call rfl rfl Try.ent10 rfl (alive9_den)) ?_
      refine x_pure rfl (p_move rfl) ?_
      refine x_guard_t rfl rfl rfl ?_
      refine x_pure rfl (p_move rfl) ?_
      refine x_guard_t rfl rfl rfl ?_
      refine x_pure rfl (p_bin rfl rfl rfl) ?_
      refine x_pure rfl (p_pick_t rfl rfl) ?_
      refine x_pure rfl (p_move rfl) ?_
      refine x_guard_t rfl rfl rfl ?_
      refine x_pure rfl (p_move rfl) ?_
      refine x_guard_t rfl rfl rfl ?_
      refine x_step hf rfl (r_call rfl rfl Try.ent17 rfl (olds9_den _ (by omega))) ?_
      refine x_guard_t rfl rfl rfl ?_
      refine x_pure rfl (p_move rfl) ?_
      refine x_guard_t rfl rfl rfl ?_
      refine x_step hf rfl (r_call rfl rfl Try.ent16 rfl (refSame9T_den _ _ rfl (by omega))) ?_
      refine x_pure rfl (p_pick_t rfl rfl) ?_
      refine x_pure rfl (p_move rfl) ?_
      refine x_guard_t rfl rfl rfl ?_
      refine x_pure rfl (p_move rfl) ?_
      refine x_guard_t rfl rfl rfl ?_
      refine x_step hf rfl (r_call rfl rfl Try.ent29 rfl (refRising_den _ (by omega) (by assumption))) ?_
      refine x_guard_t rfl rfl rfl ?_
      refine x_pure rfl (p_not rfl) ?_
      refine x_guard_t rfl rfl rfl ?_
      refine x_pure rfl (p_move rfl) ?_
      refine y_guard_s rfl rfl rfl (fun hg3 => ?_) (fun hg3 => ?_)
      ·
        try simp only [Bool.not_eq_true', Bool.not_eq_false', Bool.not_true, Bool.not_false, Bool.not_not, decide_eq_true_eq, decide_eq_false_iff_not, beq_iff_eq, beq_eq_false_iff_ne, bne_iff_ne, bne_eq_false_iff_eq, ne_eq, Int.not_lt, Int.not_le, Nat.not_lt, Nat.not_le, gt_iff_lt, ge_iff_le, Bool.and_eq_true, Bool.or_eq_true, Int.ofNat_lt, Int.ofNat_le, Int.natCast_inj, List.length_map, List.length_cons, List.length_nil, List.length_append] at hg3
        refine x_pure rfl (p_move rfl) ?_
        refine x_guard_t rfl rfl rfl ?_
        refine x_step hf rfl (r_call rfl rfl Try.ent11 rfl (news9_den _ (by omega))) ?_
        refine x_guard_t rfl rfl rfl ?_
        refine x_pure rfl (p_move rfl) ?_
        refine x_guard_t rfl rfl rfl ?_
        refine x_step hf rfl (r_call rfl rfl Try.ent26 rfl (after_den _ _ (by omega))) ?_
        refine x_guard_t rfl rfl rfl ?_
        refine x_step hf rfl (r_call rfl rfl Try.ent28 rfl ((show Den Try.prog _ _ (· = .s (.bool true)) from den_is (rising_den (l.filter fun e => !decide (e.2.2 ≤ t)) (by omega) (fun e he => ht e (List.mem_filter.1 he).1)) (by rw [risE_filter _ (by assumption)])))) ?_
        refine x_guard_t rfl rfl rfl ?_
        refine x_pure rfl (p_pick_f rfl rfl) ?_
        refine x_pure rfl (p_pick_t rfl rfl) ?_
        refine x_pure rfl (p_assign rfl) ?_
        first | refine aops_end ?_ | refine aops_nil ?_
        refine hK10 _ ?_
        refine aw_ret ?_
        refine ⟨_, rfl, ?_⟩
        rfl
      ·
        try simp only [Bool.not_eq_true', Bool.not_eq_false', Bool.not_true, Bool.not_false, Bool.not_not, decide_eq_true_eq, decide_eq_false_iff_not, beq_iff_eq, beq_eq_false_iff_ne, bne_iff_ne, bne_eq_false_iff_eq, ne_eq, Int.not_lt, Int.not_le, Nat.not_lt, Nat.not_le, gt_iff_lt, ge_iff_le, Bool.and_eq_true, Bool.or_eq_true, Int.ofNat_lt, Int.ofNat_le, Int.natCast_inj, List.length_map, List.length_cons, List.length_nil, List.length_append] at hg3
        refine x_guard_f rfl rfl rfl ?_
        refine x_guard_f rfl rfl rfl ?_
        refine x_guard_f rfl rfl rfl ?_
        refine x_guard_f rfl rfl rfl ?_
        refine x_guard_t rfl rfl rfl ?_
        refine x_pure rfl (p_pick_t rfl rfl) ?_
        refine x_pure rfl (p_pick_t rfl rfl) ?_
        refine x_pure rfl (p_assign rfl) ?_
        first | refine aops_end ?_ | refine aops_nil ?_
        refine hK10 _ ?_
        refine aw_ret ?_
        refine ⟨_, rfl, ?_⟩
        rfl

theorem subsBack_den (l : List En) (p : Pr) (t : Int) (hl : l.length * 48 ≤ 140737488351232) (ht : ∀ e ∈ l, TS e.1.1 ∧ TS e.1.2) : Den Try.prog 6 [.sl 4 (l.map enC), .agg (prC p), .s (.int .i64 t)] (· = .s (.bool true)) := by
  cases hon : onB l p
  · exact subsBackOff_den l p t hl ht hon
  · exact subsBackOn_den l p t hl hon

set_option maxRecDepth 20000 in
set_option maxHeartbeats 8000000 in
theorem subsOthersOn_den (l : List En) (p q : Pr) (t : Int) (hl : l.length * 48 ≤ 140737488351232) (hon : onB l p = true)  : Den Try.prog 7 [.sl 4 (l.map enC), .agg (prC p ++ prC q), .s (.int .i64 t)]  (· = .s (.bool true)) := by
  refine den_of_aw Try.func7 rfl (Nat.le_of_ble_eq_true rfl) (fun w0 A hf => ?_)
  refine aw_seq_k (fun K1 hK1 => ?_)
  refine aw_region ?_
  refine x_step hf rfl (r_box rfl rfl (by simp [enC, prC, AV.cells, AV.leaf, Value.oneCell', splice, AV.kill, AV.clean, cleanL, AV.only])) ?_
  refine x_pure rfl (p_assign_bad) ?_
  first | refine aops_end ?_ | refine aops_nil ?_
  refine hK1 _ ?_
  refine aw_seq_k (fun K2 hK2 => ?_)
  refine aw_region_any Try.mixed ?_
  refine af_step (listed' := #[true, false, false, false, false, false, false, false]) 0 rfl (by kernel_rfl) (by kernel_rfl) (by kernel_rfl) rfl (fun _ _ h => h) (w_idx_arr rfl rfl Try.ar52 Try.c24 (by first | decide | omega) rfl) ?_
  refine af_step (listed' := #[true, false, true, false, false, false, false, false]) 2 rfl (by kernel_rfl) (by kernel_rfl) (by kernel_rfl) rfl (fun _ _ h => h) (w_idx_arr rfl rfl Try.ar52 Try.c24 (by first | decide | omega) rfl) ?_
  refine aany_le (le_of (sl' := [(0, _), (2, _), (15, _), (17, _)]) ⟨rfl, rfl, rfl, rfl, trivial⟩) ?_
  suffices hj : AAny _ _ _ _ _ 1 #[true, true, true, true, true, true, true, false] ⟨77, [(0, .sl 4 (l.map enC)), (2, .s (.int .i64 t)), (18, .agg (prC q)), (7, .ref 7 0 0 0), (8, .ref 8 0 0 0)], [(7, .box (prC p)), (8, .box [.s (.string ⟨#[]⟩), .s (.string ⟨#[]⟩)])]⟩ by
    refine aany_step 1 [3, 4, 5] (by kernel_rfl) ⟨?_, ?_, ?_, ?_, trivial⟩
    ·
      refine ⟨_, rfl, rfl, ?_⟩
      refine aop_of_aops (ops := #[]) rfl ?_
      first | refine x_pure rfl (p_loads rfl Try.g24 Try.c24 rfl rfl) ?_ | refine x_pure rfl (p_loadsr rfl Try.g24 Try.c24 rfl rfl rfl) ?_
      refine aops_any ?_
      refine aany_step 3 [4, 5] (by kernel_rfl) ⟨?_, ?_, ?_, trivial⟩
      ·
        refine ⟨_, rfl, rfl, ?_⟩
        refine aop_of_aops (ops := #[]) rfl ?_
        first | refine x_pure rfl (p_loads rfl Try.g24 Try.c24 rfl rfl) ?_ | refine x_pure rfl (p_loadsr rfl Try.g24 Try.c24 rfl rfl rfl) ?_
        refine aops_any ?_
        refine aany_step 4 [5] (by kernel_rfl) ⟨?_, ?_, trivial⟩
        ·
          refine ⟨_, rfl, rfl, ?_⟩
          refine aop_of_aops (ops := #[]) rfl ?_
          refine x_alloc hf rfl rfl rfl Try.z24 ?_
          refine aops_any ?_
          refine aany_step 5 [] (by kernel_rfl) ⟨?_, trivial⟩
          ·
            refine ⟨_, rfl, rfl, ?_⟩
            refine aop_of_aops (ops := #[]) rfl ?_
            refine x_alloc hf rfl rfl rfl Try.z24 ?_
            refine aops_any ?_
            refine aany_step 6 [] (by kernel_rfl) ⟨?_, trivial⟩
            ·
              refine ⟨_, rfl, rfl, ?_⟩
              refine aop_of_aops (ops := #[]) rfl ?_
              refine x_store hf rfl rfl Try.c24 rfl rfl (by simp [enC, prC, AV.cells, AV.one, Value.oneCell', splice, AV.kill, AV.clean, cleanL, AV.only]) (by simp [enC, prC, AV.cells, AV.leaf, Value.oneCell', splice, AV.kill, AV.clean, cleanL, AV.only]) rfl ?_
              refine aops_any ?_
              refine aany_le ?_ hj
              exact le_mem ⟨rfl, rfl, rfl, rfl, rfl, trivial⟩ (by intro g; first | rfl | exact look_swap (by decide))
        ·
          refine ⟨_, rfl, rfl, ?_⟩
          refine aop_of_aops (ops := #[]) rfl ?_
          refine x_alloc hf rfl rfl rfl Try.z24 ?_
          refine aops_any ?_
          refine aany_step 4 [] (by kernel_rfl) ⟨?_, trivial⟩
          ·
            refine ⟨_, rfl, rfl, ?_⟩
            refine aop_of_aops (ops := #[]) rfl ?_
            refine x_alloc hf rfl rfl rfl Try.z24 ?_
            refine aops_any ?_
            refine aany_step 6 [] (by kernel_rfl) ⟨?_, trivial⟩
            ·
              refine ⟨_, rfl, rfl, ?_⟩
              refine aop_of_aops (ops := #[]) rfl ?_
              refine x_store hf rfl rfl Try.c24 rfl rfl (by simp [enC, prC, AV.cells, AV.one, Value.oneCell', splice, AV.kill, AV.clean, cleanL, AV.only]) (by simp [enC, prC, AV.cells, AV.leaf, Value.oneCell', splice, AV.kill, AV.clean, cleanL, AV.only]) rfl ?_
              refine aops_any ?_
              refine aany_le ?_ hj
              exact le_mem ⟨rfl, rfl, rfl, rfl, rfl, trivial⟩ (by intro g; first | rfl | exact look_swap (by decide))
      ·
        refine ⟨_, rfl, rfl, ?_⟩
        refine aop_of_aops (ops := #[]) rfl ?_
        refine x_alloc hf rfl rfl rfl Try.z24 ?_
        refine aops_any ?_
        refine aany_step 3 [5] (by kernel_rfl) ⟨?_, ?_, trivial⟩
        ·
          refine ⟨_, rfl, rfl, ?_⟩
          refine aop_of_aops (ops := #[]) rfl ?_
          first | refine x_pure rfl (p_loads rfl Try.g24 Try.c24 rfl rfl) ?_ | refine x_pure rfl (p_loadsr rfl Try.g24 Try.c24 rfl rfl rfl) ?_
          refine aops_any ?_
          refine aany_step 5 [] (by kernel_rfl) ⟨?_, trivial⟩
          ·
            refine ⟨_, rfl, rfl, ?_⟩
            refine aop_of_aops (ops := #[]) rfl ?_
            refine x_alloc hf rfl rfl rfl Try.z24 ?_
            refine aops_any ?_
            refine aany_step 6 [] (by kernel_rfl) ⟨?_, trivial⟩
            ·
              refine ⟨_, rfl, rfl, ?_⟩
              refine aop_of_aops (ops := #[]) rfl ?_
              refine x_store hf rfl rfl Try.c24 rfl rfl (by simp [enC, prC, AV.cells, AV.one, Value.oneCell', splice, AV.kill, AV.clean, cleanL, AV.only]) (by simp [enC, prC, AV.cells, AV.leaf, Value.oneCell', splice, AV.kill, AV.clean, cleanL, AV.only]) rfl ?_
              refine aops_any ?_
              refine aany_le ?_ hj
              exact le_mem ⟨rfl, rfl, rfl, rfl, rfl, trivial⟩ (by intro g; first | rfl | exact look_swap (by decide))
        ·
          refine ⟨_, rfl, rfl, ?_⟩
          refine aop_of_aops (ops := #[]) rfl ?_
          refine x_alloc hf rfl rfl rfl Try.z24 ?_
          refine aops_any ?_
          refine aany_step 3 [6] (by kernel_rfl) ⟨?_, ?_, trivial⟩
          ·
            refine ⟨_, rfl, rfl, ?_⟩
            refine aop_of_aops (ops := #[]) rfl ?_
            first | refine x_pure rfl (p_loads rfl Try.g24 Try.c24 rfl rfl) ?_ | refine x_pure rfl (p_loadsr rfl Try.g24 Try.c24 rfl rfl rfl) ?_
            refine aops_any ?_
            refine aany_step 6 [] (by kernel_rfl) ⟨?_, trivial⟩
            ·
              refine ⟨_, rfl, rfl, ?_⟩
              refine aop_of_aops (ops := #[]) rfl ?_
              refine x_store hf rfl rfl Try.c24 rfl rfl (by simp [enC, prC, AV.cells, AV.one, Value.oneCell', splice, AV.kill, AV.clean, cleanL, AV.only]) (by simp [enC, prC, AV.cells, AV.leaf, Value.oneCell', splice, AV.kill, AV.clean, cleanL, AV.only]) rfl ?_
              refine aops_any ?_
              refine aany_le ?_ hj
              exact le_mem ⟨rfl, rfl, rfl, rfl, rfl, trivial⟩ (by intro g; first | rfl | exact look_swap (by decide))
          ·
            refine ⟨_, rfl, rfl, ?_⟩
            refine aop_of_aops (ops := #[]) rfl ?_
            refine x_store hf rfl rfl Try.c24 rfl rfl (by simp [enC, prC, AV.cells, AV.one, Value.oneCell', splice, AV.kill, AV.clean, cleanL, AV.only]) (by simp [enC, prC, AV.cells, AV.leaf, Value.oneCell', splice, AV.kill, AV.clean, cleanL, AV.only]) rfl ?_
            refine aops_any ?_
            refine aany_step 3 [] (by kernel_rfl) ⟨?_, trivial⟩
            ·
              refine ⟨_, rfl, rfl, ?_⟩
              refine aop_of_aops (ops := #[]) rfl ?_
              first | refine x_pure rfl (p_loads rfl Try.g24 Try.c24 rfl rfl) ?_ | refine x_pure rfl (p_loadsr rfl Try.g24 Try.c24 rfl rfl rfl) ?_
              refine aops_any ?_
              refine aany_le ?_ hj
              exact le_mem ⟨rfl, rfl, rfl, rfl, rfl, trivial⟩ (by intro g; first | rfl | exact look_swap (by decide))
      ·
        refine ⟨_, rfl, rfl, ?_⟩
        refine aop_of_aops (ops := #[]) rfl ?_
        refine x_alloc hf rfl rfl rfl Try.z24 ?_
        refine aops_any ?_
        refine aany_step 3 [4] (by kernel_rfl) ⟨?_, ?_, trivial⟩
        ·
          refine ⟨_, rfl, rfl, ?_⟩
          refine aop_of_aops (ops := #[]) rfl ?_
          first | refine x_pure rfl (p_loads rfl Try.g24 Try.c24 rfl rfl) ?_ | refine x_pure rfl (p_loadsr rfl Try.g24 Try.c24 rfl rfl rfl) ?_
          refine aops_any ?_
          refine aany_step 4 [] (by kernel_rfl) ⟨?_, trivial⟩
          ·
            refine ⟨_, rfl, rfl, ?_⟩
            refine aop_of_aops (ops := #[]) rfl ?_
            refine x_alloc hf rfl rfl rfl Try.z24 ?_
            refine aops_any ?_
            refine aany_step 6 [] (by kernel_rfl) ⟨?_, trivial⟩
            ·
              refine ⟨_, rfl, rfl, ?_⟩
              refine aop_of_aops (ops := #[]) rfl ?_
              refine x_store hf rfl rfl Try.c24 rfl rfl (by simp [enC, prC, AV.cells, AV.one, Value.oneCell', splice, AV.kill, AV.clean, cleanL, AV.only]) (by simp [enC, prC, AV.cells, AV.leaf, Value.oneCell', splice, AV.kill, AV.clean, cleanL, AV.only]) rfl ?_
              refine aops_any ?_
              refine aany_le ?_ hj
              exact le_mem ⟨rfl, rfl, rfl, rfl, rfl, trivial⟩ (by intro g; first | rfl | exact look_swap (by decide))
        ·
          refine ⟨_, rfl, rfl, ?_⟩
          refine aop_of_aops (ops := #[]) rfl ?_
          refine x_alloc hf rfl rfl rfl Try.z24 ?_
          refine aops_any ?_
          refine aany_step 3 [6] (by kernel_rfl) ⟨?_, ?_, trivial⟩
          ·
            refine ⟨_, rfl, rfl, ?_⟩
            refine aop_of_aops (ops := #[]) rfl ?_
            first | refine x_pure rfl (p_loads rfl Try.g24 Try.c24 rfl rfl) ?_ | refine x_pure rfl (p_loadsr rfl Try.g24 Try.c24 rfl rfl rfl) ?_
            refine aops_any ?_
            refine aany_step 6 [] (by kernel_rfl) ⟨?_, trivial⟩
            ·
              refine ⟨_, rfl, rfl, ?_⟩
              refine aop_of_aops (ops := #[]) rfl ?_
              refine x_store hf rfl rfl Try.c24 rfl rfl (by simp [enC, prC, AV.cells, AV.one, Value.oneCell', splice, AV.kill, AV.clean, cleanL, AV.only]) (by simp [enC, prC, AV.cells, AV.leaf, Value.oneCell', splice, AV.kill, AV.clean, cleanL, AV.only]) rfl ?_
              refine aops_any ?_
              refine aany_le ?_ hj
              exact le_mem ⟨rfl, rfl, rfl, rfl, rfl, trivial⟩ (by intro g; first | rfl | exact look_swap (by decide))
          ·
            refine ⟨_, rfl, rfl, ?_⟩
            refine aop_of_aops (ops := #[]) rfl ?_
            refine x_store hf rfl rfl Try.c24 rfl rfl (by simp [enC, prC, AV.cells, AV.one, Value.oneCell', splice, AV.kill, AV.clean, cleanL, AV.only]) (by simp [enC, prC, AV.cells, AV.leaf, Value.oneCell', splice, AV.kill, AV.clean, cleanL, AV.only]) rfl ?_
            refine aops_any ?_
            refine aany_step 3 [] (by kernel_rfl) ⟨?_, trivial⟩
            ·
              refine ⟨_, rfl, rfl, ?_⟩
              refine aop_of_aops (ops := #[]) rfl ?_
              first | refine x_pure rfl (p_loads rfl Try.g24 Try.c24 rfl rfl) ?_ | refine x_pure rfl (p_loadsr rfl Try.g24 Try.c24 rfl rfl rfl) ?_
              refine aops_any ?_
              refine aany_le ?_ hj
              exact le_mem ⟨rfl, rfl, rfl, rfl, rfl, trivial⟩ (by intro g; first | rfl | exact look_swap (by decide))
    ·
      refine ⟨_, rfl, rfl, ?_⟩
      refine aop_of_aops (ops := #[]) rfl ?_
      first | refine x_pure rfl (p_loads rfl Try.g24 Try.c24 rfl rfl) ?_ | refine x_pure rfl (p_loadsr rfl Try.g24 Try.c24 rfl rfl rfl) ?_
      refine aops_any ?_
      refine aany_step 1 [4, 5] (by kernel_rfl) ⟨?_, ?_, ?_, trivial⟩
      ·
        refine ⟨_, rfl, rfl, ?_⟩
        refine aop_of_aops (ops := #[]) rfl ?_
        first | refine x_pure rfl (p_loads rfl Try.g24 Try.c24 rfl rfl) ?_ | refine x_pure rfl (p_loadsr rfl Try.g24 Try.c24 rfl rfl rfl) ?_
        refine aops_any ?_
        refine aany_step 4 [5] (by kernel_rfl) ⟨?_, ?_, trivial⟩
        ·
          refine ⟨_, rfl, rfl, ?_⟩
          refine aop_of_aops (ops := #[]) rfl ?_
          refine x_alloc hf rfl rfl rfl Try.z24 ?_
          refine aops_any ?_
          refine aany_step 5 [] (by kernel_rfl) ⟨?_, trivial⟩
          ·
            refine ⟨_, rfl, rfl, ?_⟩
            refine aop_of_aops (ops := #[]) rfl ?_
            refine x_alloc hf rfl rfl rfl Try.z24 ?_
            refine aops_any ?_
            refine aany_step 6 [] (by kernel_rfl) ⟨?_, trivial⟩
            ·
              refine ⟨_, rfl, rfl, ?_⟩
              refine aop_of_aops (ops := #[]) rfl ?_
              refine x_store hf rfl rfl Try.c24 rfl rfl (by simp [enC, prC, AV.cells, AV.one, Value.oneCell', splice, AV.kill, AV.clean, cleanL, AV.only]) (by simp [enC, prC, AV.cells, AV.leaf, Value.oneCell', splice, AV.kill, AV.clean, cleanL, AV.only]) rfl ?_
              refine aops_any ?_
              refine aany_le ?_ hj
              exact le_mem ⟨rfl, rfl, rfl, rfl, rfl, trivial⟩ (by intro g; first | rfl | exact look_swap (by decide))
        ·
          refine ⟨_, rfl, rfl, ?_⟩
          refine aop_of_aops (ops := #[]) rfl ?_
          refine x_alloc hf rfl rfl rfl Try.z24 ?_
          refine aops_any ?_
          refine aany_step 4 [] (by kernel_rfl) ⟨?_, trivial⟩
          ·
            refine ⟨_, rfl, rfl, ?_⟩
            refine aop_of_aops (ops := #[]) rfl ?_
            refine x_alloc hf rfl rfl rfl Try.z24 ?_
            refine aops_any ?_
            refine aany_step 6 [] (by kernel_rfl) ⟨?_, trivial⟩
            ·
              refine ⟨_, rfl, rfl, ?_⟩
              refine aop_of_aops (ops := #[]) rfl ?_
              refine x_store hf rfl rfl Try.c24 rfl rfl (by simp [enC, prC, AV.cells, AV.one, Value.oneCell', splice, AV.kill, AV.clean, cleanL, AV.only]) (by simp [enC, prC, AV.cells, AV.leaf, Value.oneCell', splice, AV.kill, AV.clean, cleanL, AV.only]) rfl ?_
              refine aops_any ?_
              refine aany_le ?_ hj
              exact le_mem ⟨rfl, rfl, rfl, rfl, rfl, trivial⟩ (by intro g; first | rfl | exact look_swap (by decide))
      ·
        refine ⟨_, rfl, rfl, ?_⟩
        refine aop_of_aops (ops := #[]) rfl ?_
        refine x_alloc hf rfl rfl rfl Try.z24 ?_
        refine aops_any ?_
        refine aany_step 1 [5] (by kernel_rfl) ⟨?_, ?_, trivial⟩
        ·
          refine ⟨_, rfl, rfl, ?_⟩
          refine aop_of_aops (ops := #[]) rfl ?_
          first | refine x_pure rfl (p_loads rfl Try.g24 Try.c24 rfl rfl) ?_ | refine x_pure rfl (p_loadsr rfl Try.g24 Try.c24 rfl rfl rfl) ?_
          refine aops_any ?_
          refine aany_step 5 [] (by kernel_rfl) ⟨?_, trivial⟩
          ·
            refine ⟨_, rfl, rfl, ?_⟩
            refine aop_of_aops (ops := #[]) rfl ?_
            refine x_alloc hf rfl rfl rfl Try.z24 ?_
            refine aops_any ?_
            refine aany_step 6 [] (by kernel_rfl) ⟨?_, trivial⟩
            ·
              refine ⟨_, rfl, rfl, ?_⟩
              refine aop_of_aops (ops := #[]) rfl ?_
              refine x_store hf rfl rfl Try.c24 rfl rfl (by simp [enC, prC, AV.cells, AV.one, Value.oneCell', splice, AV.kill, AV.clean, cleanL, AV.only]) (by simp [enC, prC, AV.cells, AV.leaf, Value.oneCell', splice, AV.kill, AV.clean, cleanL, AV.only]) rfl ?_
              refine aops_any ?_
              refine aany_le ?_ hj
              exact le_mem ⟨rfl, rfl, rfl, rfl, rfl, trivial⟩ (by intro g; first | rfl | exact look_swap (by decide))
        ·
          refine ⟨_, rfl, rfl, ?_⟩
          refine aop_of_aops (ops := #[]) rfl ?_
          refine x_alloc hf rfl rfl rfl Try.z24 ?_
          refine aops_any ?_
          refine aany_step 1 [] (by kernel_rfl) ⟨?_, trivial⟩
          ·
            refine ⟨_, rfl, rfl, ?_⟩
            refine aop_of_aops (ops := #[]) rfl ?_
            first | refine x_pure rfl (p_loads rfl Try.g24 Try.c24 rfl rfl) ?_ | refine x_pure rfl (p_loadsr rfl Try.g24 Try.c24 rfl rfl rfl) ?_
            refine aops_any ?_
            refine aany_step 6 [] (by kernel_rfl) ⟨?_, trivial⟩
            ·
              refine ⟨_, rfl, rfl, ?_⟩
              refine aop_of_aops (ops := #[]) rfl ?_
              refine x_store hf rfl rfl Try.c24 rfl rfl (by simp [enC, prC, AV.cells, AV.one, Value.oneCell', splice, AV.kill, AV.clean, cleanL, AV.only]) (by simp [enC, prC, AV.cells, AV.leaf, Value.oneCell', splice, AV.kill, AV.clean, cleanL, AV.only]) rfl ?_
              refine aops_any ?_
              refine aany_le ?_ hj
              exact le_mem ⟨rfl, rfl, rfl, rfl, rfl, trivial⟩ (by intro g; first | rfl | exact look_swap (by decide))
      ·
        refine ⟨_, rfl, rfl, ?_⟩
        refine aop_of_aops (ops := #[]) rfl ?_
        refine x_alloc hf rfl rfl rfl Try.z24 ?_
        refine aops_any ?_
        refine aany_step 1 [4] (by kernel_rfl) ⟨?_, ?_, trivial⟩
        ·
          refine ⟨_, rfl, rfl, ?_⟩
          refine aop_of_aops (ops := #[]) rfl ?_
          first | refine x_pure rfl (p_loads rfl Try.g24 Try.c24 rfl rfl) ?_ | refine x_pure rfl (p_loadsr rfl Try.g24 Try.c24 rfl rfl rfl) ?_
          refine aops_any ?_
          refine aany_step 4 [] (by kernel_rfl) ⟨?_, trivial⟩
          ·
            refine ⟨_, rfl, rfl, ?_⟩
            refine aop_of_aops (ops := #[]) rfl ?_
            refine x_alloc hf rfl rfl rfl Try.z24 ?_
            refine aops_any ?_
            refine aany_step 6 [] (by kernel_rfl) ⟨?_, trivial⟩
            ·
              refine ⟨_, rfl, rfl, ?_⟩
              refine aop_of_aops (ops := #[]) rfl ?_
              refine x_store hf rfl rfl Try.c24 rfl rfl (by simp [enC, prC, AV.cells, AV.one, Value.oneCell', splice, AV.kill, AV.clean, cleanL, AV.only]) (by simp [enC, prC, AV.cells, AV.leaf, Value.oneCell', splice, AV.kill, AV.clean, cleanL, AV.only]) rfl ?_
              refine aops_any ?_
              refine aany_le ?_ hj
              exact le_mem ⟨rfl, rfl, rfl, rfl, rfl, trivial⟩ (by intro g; first | rfl | exact look_swap (by decide))
        ·
          refine ⟨_, rfl, rfl, ?_⟩
          refine aop_of_aops (ops := #[]) rfl ?_
          refine x_alloc hf rfl rfl rfl Try.z24 ?_
          refine aops_any ?_
          refine aany_step 1 [] (by kernel_rfl) ⟨?_, trivial⟩
          ·
            refine ⟨_, rfl, rfl, ?_⟩
            refine aop_of_aops (ops := #[]) rfl ?_
            first | refine x_pure rfl (p_loads rfl Try.g24 Try.c24 rfl rfl) ?_ | refine x_pure rfl (p_loadsr rfl Try.g24 Try.c24 rfl rfl rfl) ?_
            refine aops_any ?_
            refine aany_step 6 [] (by kernel_rfl) ⟨?_, trivial⟩
            ·
              refine ⟨_, rfl, rfl, ?_⟩
              refine aop_of_aops (ops := #[]) rfl ?_
              refine x_store hf rfl rfl Try.c24 rfl rfl (by simp [enC, prC, AV.cells, AV.one, Value.oneCell', splice, AV.kill, AV.clean, cleanL, AV.only]) (by simp [enC, prC, AV.cells, AV.leaf, Value.oneCell', splice, AV.kill, AV.clean, cleanL, AV.only]) rfl ?_
              refine aops_any ?_
              refine aany_le ?_ hj
              exact le_mem ⟨rfl, rfl, rfl, rfl, rfl, trivial⟩ (by intro g; first | rfl | exact look_swap (by decide))
    ·
      refine ⟨_, rfl, rfl, ?_⟩
      refine aop_of_aops (ops := #[]) rfl ?_
      refine x_alloc hf rfl rfl rfl Try.z24 ?_
      refine aops_any ?_
      refine aany_step 1 [3, 5] (by kernel_rfl) ⟨?_, ?_, ?_, trivial⟩
      ·
        refine ⟨_, rfl, rfl, ?_⟩
        refine aop_of_aops (ops := #[]) rfl ?_
        first | refine x_pure rfl (p_loads rfl Try.g24 Try.c24 rfl rfl) ?_ | refine x_pure rfl (p_loadsr rfl Try.g24 Try.c24 rfl rfl rfl) ?_
        refine aops_any ?_
        refine aany_step 3 [5] (by kernel_rfl) ⟨?_, ?_, trivial⟩
        ·
          refine ⟨_, rfl, rfl, ?_⟩
          refine aop_of_aops (ops := #[]) rfl ?_
          first | refine x_pure rfl (p_loads rfl Try.g24 Try.c24 rfl rfl) ?_ | refine x_pure rfl (p_loadsr rfl Try.g24 Try.c24 rfl rfl rfl) ?_
          refine aops_any ?_
          refine aany_step 5 [] (by kernel_rfl) ⟨?_, trivial⟩
          ·
            refine ⟨_, rfl, rfl, ?_⟩
            refine aop_of_aops (ops := #[]) rfl ?_
            refine x_alloc hf rfl rfl rfl Try.z24 ?_
            refine aops_any ?_
            refine aany_step 6 [] (by kernel_rfl) ⟨?_, trivial⟩
            ·
              refine ⟨_, rfl, rfl, ?_⟩
              refine aop_of_aops (ops := #[]) rfl ?_
              refine x_store hf rfl rfl Try.c24 rfl rfl (by simp [enC, prC, AV.cells, AV.one, Value.oneCell', splice, AV.kill, AV.clean, cleanL, AV.only]) (by simp [enC, prC, AV.cells, AV.leaf, Value.oneCell', splice, AV.kill, AV.clean, cleanL, AV.only]) rfl ?_
              refine aops_any ?_
              refine aany_le ?_ hj
              exact le_mem ⟨rfl, rfl, rfl, rfl, rfl, trivial⟩ (by intro g; first | rfl | exact look_swap (by decide))
        ·
          refine ⟨_, rfl, rfl, ?_⟩
          refine aop_of_aops (ops := #[]) rfl ?_
          refine x_alloc hf rfl rfl rfl Try.z24 ?_
          refine aops_any ?_
          refine aany_step 3 [6] (by kernel_rfl) ⟨?_, ?_, trivial⟩
          ·
            refine ⟨_, rfl, rfl, ?_⟩
            refine aop_of_aops (ops := #[]) rfl ?_
            first | refine x_pure rfl (p_loads rfl Try.g24 Try.c24 rfl rfl) ?_ | refine x_pure rfl (p_loadsr rfl Try.g24 Try.c24 rfl rfl rfl) ?_
            refine aops_any ?_
            refine aany_step 6 [] (by kernel_rfl) ⟨?_, trivial⟩
            ·
              refine ⟨_, rfl, rfl, ?_⟩
              refine aop_of_aops (ops := #[]) rfl ?_
              refine x_store hf rfl rfl Try.c24 rfl rfl (by simp [enC, prC, AV.cells, AV.one, Value.oneCell', splice, AV.kill, AV.clean, cleanL, AV.only]) (by simp [enC, prC, AV.cells, AV.leaf, Value.oneCell', splice, AV.kill, AV.clean, cleanL, AV.only]) rfl ?_
              refine aops_any ?_
              refine aany_le ?_ hj
              exact le_mem ⟨rfl, rfl, rfl, rfl, rfl, trivial⟩ (by intro g; first | rfl | exact look_swap (by decide))
          ·
            refine ⟨_, rfl, rfl, ?_⟩
            refine aop_of_aops (ops := #[]) rfl ?_
            refine x_store hf rfl rfl Try.c24 rfl rfl (by simp [enC, prC, AV.cells, AV.one, Value.oneCell', splice, AV.kill, AV.clean, cleanL, AV.only]) (by simp [enC, prC, AV.cells, AV.leaf, Value.oneCell', splice, AV.kill, AV.clean, cleanL, AV.only]) rfl ?_
            refine aops_any ?_
            refine aany_step 3 [] (by kernel_rfl) ⟨?_, trivial⟩
            ·
              refine ⟨_, rfl, rfl, ?_⟩
              refine aop_of_aops (ops := #[]) rfl ?_
              first | refine x_pure rfl (p_loads rfl Try.g24 Try.c24 rfl rfl) ?_ | refine x_pure rfl (p_loadsr rfl Try.g24 Try.c24 rfl rfl rfl) ?_
              refine aops_any ?_
              refine aany_le ?_ hj
              exact le_mem ⟨rfl, rfl, rfl, rfl, rfl, trivial⟩ (by intro g; first | rfl | exact look_swap (by decide))
      ·
        refine ⟨_, rfl, rfl, ?_⟩
        refine aop_of_aops (ops := #[]) rfl ?_
        first | refine x_pure rfl (p_loads rfl Try.g24 Try.c24 rfl rfl) ?_ | refine x_pure rfl (p_loadsr rfl Try.g24 Try.c24 rfl rfl rfl) ?_
        refine aops_any ?_
        refine aany_step 1 [5] (by kernel_rfl) ⟨?_, ?_, trivial⟩
        ·
          refine ⟨_, rfl, rfl, ?_⟩
          refine aop_of_aops (ops := #[]) rfl ?_
          first | refine x_pure rfl (p_loads rfl Try.g24 Try.c24 rfl rfl) ?_ | refine x_pure rfl (p_loadsr rfl Try.g24 Try.c24 rfl rfl rfl) ?_
          refine aops_any ?_
          refine aany_step 5 [] (by kernel_rfl) ⟨?_, trivial⟩
          ·
            refine ⟨_, rfl, rfl, ?_⟩
            refine aop_of_aops (ops := #[]) rfl ?_
            refine x_alloc hf rfl rfl rfl Try.z24 ?_
            refine aops_any ?_
            refine aany_step 6 [] (by kernel_rfl) ⟨?_, trivial⟩
            ·
              refine ⟨_, rfl, rfl, ?_⟩
              refine aop_of_aops (ops := #[]) rfl ?_
              refine x_store hf rfl rfl Try.c24 rfl rfl (by simp [enC, prC, AV.cells, AV.one, Value.oneCell', splice, AV.kill, AV.clean, cleanL, AV.only]) (by simp [enC, prC, AV.cells, AV.leaf, Value.oneCell', splice, AV.kill, AV.clean, cleanL, AV.only]) rfl ?_
              refine aops_any ?_
              refine aany_le ?_ hj
              exact le_mem ⟨rfl, rfl, rfl, rfl, rfl, trivial⟩ (by intro g; first | rfl | exact look_swap (by decide))
        ·
          refine ⟨_, rfl, rfl, ?_⟩
          refine aop_of_aops (ops := #[]) rfl ?_
          refine x_alloc hf rfl rfl rfl Try.z24 ?_
          refine aops_any ?_
          refine aany_step 1 [] (by kernel_rfl) ⟨?_, trivial⟩
          ·
            refine ⟨_, rfl, rfl, ?_⟩
            refine aop_of_aops (ops := #[]) rfl ?_
            first | refine x_pure rfl (p_loads rfl Try.g24 Try.c24 rfl rfl) ?_ | refine x_pure rfl (p_loadsr rfl Try.g24 Try.c24 rfl rfl rfl) ?_
            refine aops_any ?_
            refine aany_step 6 [] (by kernel_rfl) ⟨?_, trivial⟩
            ·
              refine ⟨_, rfl, rfl, ?_⟩
              refine aop_of_aops (ops := #[]) rfl ?_
              refine x_store hf rfl rfl Try.c24 rfl rfl (by simp [enC, prC, AV.cells, AV.one, Value.oneCell', splice, AV.kill, AV.clean, cleanL, AV.only]) (by simp [enC, prC, AV.cells, AV.leaf, Value.oneCell', splice, AV.kill, AV.clean, cleanL, AV.only]) rfl ?_
              refine aops_any ?_
              refine aany_le ?_ hj
              exact le_mem ⟨rfl, rfl, rfl, rfl, rfl, trivial⟩ (by intro g; first | rfl | exact look_swap (by decide))
      ·
        refine ⟨_, rfl, rfl, ?_⟩
        refine aop_of_aops (ops := #[]) rfl ?_
        refine x_alloc hf rfl rfl rfl Try.z24 ?_
        refine aops_any ?_
        refine aany_step 1 [3] (by kernel_rfl) ⟨?_, ?_, trivial⟩
        ·
          refine ⟨_, rfl, rfl, ?_⟩
          refine aop_of_aops (ops := #[]) rfl ?_
          first | refine x_pure rfl (p_loads rfl Try.g24 Try.c24 rfl rfl) ?_ | refine x_pure rfl (p_loadsr rfl Try.g24 Try.c24 rfl rfl rfl) ?_
          refine aops_any ?_
          refine aany_step 3 [6] (by kernel_rfl) ⟨?_, ?_, trivial⟩
          ·
            refine ⟨_, rfl, rfl, ?_⟩
            refine aop_of_aops (ops := #[]) rfl ?_
            first | refine x_pure rfl (p_loads rfl Try.g24 Try.c24 rfl rfl) ?_ | refine x_pure rfl (p_loadsr rfl Try.g24 Try.c24 rfl rfl rfl) ?_
            refine aops_any ?_
            refine aany_step 6 [] (by kernel_rfl) ⟨?_, trivial⟩
            ·
              refine ⟨_, rfl, rfl, ?_⟩
              refine aop_of_aops (ops := #[]) rfl ?_
              refine x_store hf rfl rfl Try.c24 rfl rfl (by simp [enC, prC, AV.cells, AV.one, Value.oneCell', splice, AV.kill, AV.clean, cleanL, AV.only]) (by simp [enC, prC, AV.cells, AV.leaf, Value.oneCell', splice, AV.kill, AV.clean, cleanL, AV.only]) rfl ?_
              refine aops_any ?_
              refine aany_le ?_ hj
              exact le_mem ⟨rfl, rfl, rfl, rfl, rfl, trivial⟩ (by intro g; first | rfl | exact look_swap (by decide))
          ·
            refine ⟨_, rfl, rfl, ?_⟩
            refine aop_of_aops (ops := #[]) rfl ?_
            refine x_store hf rfl rfl Try.c24 rfl rfl (by simp [enC, prC, AV.cells, AV.one, Value.oneCell', splice, AV.kill, AV.clean, cleanL, AV.only]) (by simp [enC, prC, AV.cells, AV.leaf, Value.oneCell', splice, AV.kill, AV.clean, cleanL, AV.only]) rfl ?_
            refine aops_any ?_
            refine aany_step 3 [] (by kernel_rfl) ⟨?_, trivial⟩
            ·
              refine ⟨_, rfl, rfl, ?_⟩
              refine aop_of_aops (ops := #[]) rfl ?_
              first | refine x_pure rfl (p_loads rfl Try.g24 Try.c24 rfl rfl) ?_ | refine x_pure rfl (p_loadsr rfl Try.g24 Try.c24 rfl rfl rfl) ?_
              refine aops_any ?_
              refine aany_le ?_ hj
              exact le_mem ⟨rfl, rfl, rfl, rfl, rfl, trivial⟩ (by intro g; first | rfl | exact look_swap (by decide))
        ·
          refine ⟨_, rfl, rfl, ?_⟩
          refine aop_of_aops (ops := #[]) rfl ?_
          first | refine x_pure rfl (p_loads rfl Try.g24 Try.c24 rfl rfl) ?_ | refine x_pure rfl (p_loadsr rfl Try.g24 Try.c24 rfl rfl rfl) ?_
          refine aops_any ?_
          refine aany_step 1 [] (by kernel_rfl) ⟨?_, trivial⟩
          ·
            refine ⟨_, rfl, rfl, ?_⟩
            refine aop_of_aops (ops := #[]) rfl ?_
            first | refine x_pure rfl (p_loads rfl Try.g24 Try.c24 rfl rfl) ?_ | refine x_pure rfl (p_loadsr rfl Try.g24 Try.c24 rfl rfl rfl) ?_
            refine aops_any ?_
            refine aany_step 6 [] (by kernel_rfl) ⟨?_, trivial⟩
            ·
              refine ⟨_, rfl, rfl, ?_⟩
              refine aop_of_aops (ops := #[]) rfl ?_
              refine x_store hf rfl rfl Try.c24 rfl rfl (by simp [enC, prC, AV.cells, AV.one, Value.oneCell', splice, AV.kill, AV.clean, cleanL, AV.only]) (by simp [enC, prC, AV.cells, AV.leaf, Value.oneCell', splice, AV.kill, AV.clean, cleanL, AV.only]) rfl ?_
              refine aops_any ?_
              refine aany_le ?_ hj
              exact le_mem ⟨rfl, rfl, rfl, rfl, rfl, trivial⟩ (by intro g; first | rfl | exact look_swap (by decide))
    ·
      refine ⟨_, rfl, rfl, ?_⟩
      refine aop_of_aops (ops := #[]) rfl ?_
      refine x_alloc hf rfl rfl rfl Try.z24 ?_
      refine aops_any ?_
      refine aany_step 1 [3, 4] (by kernel_rfl) ⟨?_, ?_, ?_, trivial⟩
      ·
        refine ⟨_, rfl, rfl, ?_⟩
        refine aop_of_aops (ops := #[]) rfl ?_
        first | refine x_pure rfl (p_loads rfl Try.g24 Try.c24 rfl rfl) ?_ | refine x_pure rfl (p_loadsr rfl Try.g24 Try.c24 rfl rfl rfl) ?_
        refine aops_any ?_
        refine aany_step 3 [4] (by kernel_rfl) ⟨?_, ?_, trivial⟩
        ·
          refine ⟨_, rfl, rfl, ?_⟩
          refine aop_of_aops (ops := #[]) rfl ?_
          first | refine x_pure rfl (p_loads rfl Try.g24 Try.c24 rfl rfl) ?_ | refine x_pure rfl (p_loadsr rfl Try.g24 Try.c24 rfl rfl rfl) ?_
          refine aops_any ?_
          refine aany_step 4 [] (by kernel_rfl) ⟨?_, trivial⟩
          ·
            refine ⟨_, rfl, rfl, ?_⟩
            refine aop_of_aops (ops := #[]) rfl ?_
            refine x_alloc hf rfl rfl rfl Try.z24 ?_
            refine aops_any ?_
            refine aany_step 6 [] (by kernel_rfl) ⟨?_, trivial⟩
            ·
              refine ⟨_, rfl, rfl, ?_⟩
              refine aop_of_aops (ops := #[]) rfl ?_
              refine x_store hf rfl rfl Try.c24 rfl rfl (by simp [enC, prC, AV.cells, AV.one, Value.oneCell', splice, AV.kill, AV.clean, cleanL, AV.only]) (by simp [enC, prC, AV.cells, AV.leaf, Value.oneCell', splice, AV.kill, AV.clean, cleanL, AV.only]) rfl ?_
              refine aops_any ?_
              refine aany_le ?_ hj
              exact le_mem ⟨rfl, rfl, rfl, rfl, rfl, trivial⟩ (by intro g; first | rfl | exact look_swap (by decide))
        ·
          refine ⟨_, rfl, rfl, ?_⟩
          refine aop_of_aops (ops := #[]) rfl ?_
          refine x_alloc hf rfl rfl rfl Try.z24 ?_
          refine aops_any ?_
          refine aany_step 3 [6] (by kernel_rfl) ⟨?_, ?_, trivial⟩
          ·
            refine ⟨_, rfl, rfl, ?_⟩
            refine aop_of_aops (ops := #[]) rfl ?_
            first | refine x_pure rfl (p_loads rfl Try.g24 Try.c24 rfl rfl) ?_ | refine x_pure rfl (p_loadsr rfl Try.g24 Try.c24 rfl rfl rfl) ?_
            refine aops_any ?_
            refine aany_step 6 [] (by kernel_rfl) ⟨?_, trivial⟩
            ·
              refine ⟨_, rfl, rfl, ?_⟩
              refine aop_of_aops (ops := #[]) rfl ?_
              refine x_store hf rfl rfl Try.c24 rfl rfl (by simp [enC, prC, AV.cells, AV.one, Value.oneCell', splice, AV.kill, AV.clean, cleanL, AV.only]) (by simp [enC, prC, AV.cells, AV.leaf, Value.oneCell', splice, AV.kill, AV.clean, cleanL, AV.only]) rfl ?_
              refine aops_any ?_
              refine aany_le ?_ hj
              exact le_mem ⟨rfl, rfl, rfl, rfl, rfl, trivial⟩ (by intro g; first | rfl | exact look_swap (by decide))
          ·
            refine ⟨_, rfl, rfl, ?_⟩
            refine aop_of_aops (ops := #[]) rfl ?_
            refine x_store hf rfl rfl Try.c24 rfl rfl (by simp [enC, prC, AV.cells, AV.one, Value.oneCell', splice, AV.kill, AV.clean, cleanL, AV.only]) (by simp [enC, prC, AV.cells, AV.leaf, Value.oneCell', splice, AV.kill, AV.clean, cleanL, AV.only]) rfl ?_
            refine aops_any ?_
            refine aany_step 3 [] (by kernel_rfl) ⟨?_, trivial⟩
            ·
              refine ⟨_, rfl, rfl, ?_⟩
              refine aop_of_aops (ops := #[]) rfl ?_
              first | refine x_pure rfl (p_loads rfl Try.g24 Try.c24 rfl rfl) ?_ | refine x_pure rfl (p_loadsr rfl Try.g24 Try.c24 rfl rfl rfl) ?_
              refine aops_any ?_
              refine aany_le ?_ hj
              exact le_mem ⟨rfl, rfl, rfl, rfl, rfl, trivial⟩ (by intro g; first | rfl | exact look_swap (by decide))
      ·
        refine ⟨_, rfl, rfl, ?_⟩
        refine aop_of_aops (ops := #[]) rfl ?_
        first | refine x_pure rfl (p_loads rfl Try.g24 Try.c24 rfl rfl) ?_ | refine x_pure rfl (p_loadsr rfl Try.g24 Try.c24 rfl rfl rfl) ?_
        refine aops_any ?_
        refine aany_step 1 [4] (by kernel_rfl) ⟨?_, ?_, trivial⟩
        ·
          refine ⟨_, rfl, rfl, ?_⟩
          refine aop_of_aops (ops := #[]) rfl ?_
          first | refine x_pure rfl (p_loads rfl Try.g24 Try.c24 rfl rfl) ?_ | refine x_pure rfl (p_loadsr rfl Try.g24 Try.c24 rfl rfl rfl) ?_
          refine aops_any ?_
          refine aany_step 4 [] (by kernel_rfl) ⟨?_, trivial⟩
          ·
            refine ⟨_, rfl, rfl, ?_⟩
            refine aop_of_aops (ops := #[]) rfl ?_
            refine x_alloc hf rfl rfl rfl Try.z24 ?_
            refine aops_any ?_
            refine aany_step 6 [] (by kernel_rfl) ⟨?_, trivial⟩
            ·
              refine ⟨_, rfl, rfl, ?_⟩
              refine aop_of_aops (ops := #[]) rfl ?_
              refine x_store hf rfl rfl Try.c24 rfl rfl (by simp [enC, prC, AV.cells, AV.one, Value.oneCell', splice, AV.kill, AV.clean, cleanL, AV.only]) (by simp [enC, prC, AV.cells, AV.leaf, Value.oneCell', splice, AV.kill, AV.clean, cleanL, AV.only]) rfl ?_
              refine aops_any ?_
              refine aany_le ?_ hj
              exact le_mem ⟨rfl, rfl, rfl, rfl, rfl, trivial⟩ (by intro g; first | rfl | exact look_swap (by decide))
        ·
          refine ⟨_, rfl, rfl, ?_⟩
          refine aop_of_aops (ops := #[]) rfl ?_
          refine x_alloc hf rfl rfl rfl Try.z24 ?_
          refine aops_any ?_
          refine aany_step 1 [] (by kernel_rfl) ⟨?_, trivial⟩
          ·
            refine ⟨_, rfl, rfl, ?_⟩
            refine aop_of_aops (ops := #[]) rfl ?_
            first | refine x_pure rfl (p_loads rfl Try.g24 Try.c24 rfl rfl) ?_ | refine x_pure rfl (p_loadsr rfl Try.g24 Try.c24 rfl rfl rfl) ?_
            refine aops_any ?_
            refine aany_step 6 [] (by kernel_rfl) ⟨?_, trivial⟩
            ·
              refine ⟨_, rfl, rfl, ?_⟩
              refine aop_of_aops (ops := #[]) rfl ?_
              refine x_store hf rfl rfl Try.c24 rfl rfl (by simp [enC, prC, AV.cells, AV.one, Value.oneCell', splice, AV.kill, AV.clean, cleanL, AV.only]) (by simp [enC, prC, AV.cells, AV.leaf, Value.oneCell', splice, AV.kill, AV.clean, cleanL, AV.only]) rfl ?_
              refine aops_any ?_
              refine aany_le ?_ hj
              exact le_mem ⟨rfl, rfl, rfl, rfl, rfl, trivial⟩ (by intro g; first | rfl | exact look_swap (by decide))
      ·
        refine ⟨_, rfl, rfl, ?_⟩
        refine aop_of_aops (ops := #[]) rfl ?_
        refine x_alloc hf rfl rfl rfl Try.z24 ?_
        refine aops_any ?_
        refine aany_step 1 [3] (by kernel_rfl) ⟨?_, ?_, trivial⟩
        ·
          refine ⟨_, rfl, rfl, ?_⟩
          refine aop_of_aops (ops := #[]) rfl ?_
          first | refine x_pure rfl (p_loads rfl Try.g24 Try.c24 rfl rfl) ?_ | refine x_pure rfl (p_loadsr rfl Try.g24 Try.c24 rfl rfl rfl) ?_
          refine aops_any ?_
          refine aany_step 3 [6] (by kernel_rfl) ⟨?_, ?_, trivial⟩
          ·
            refine ⟨_, rfl, rfl, ?_⟩
            refine aop_of_aops (ops := #[]) rfl ?_
            first | refine x_pure rfl (p_loads rfl Try.g24 Try.c24 rfl rfl) ?_ | refine x_pure rfl (p_loadsr rfl Try.g24 Try.c24 rfl rfl rfl) ?_
            refine aops_any ?_
            refine aany_step 6 [] (by kernel_rfl) ⟨?_, trivial⟩
            ·
              refine ⟨_, rfl, rfl, ?_⟩
              refine aop_of_aops (ops := #[]) rfl ?_
              refine x_store hf rfl rfl Try.c24 rfl rfl (by simp [enC, prC, AV.cells, AV.one, Value.oneCell', splice, AV.kill, AV.clean, cleanL, AV.only]) (by simp [enC, prC, AV.cells, AV.leaf, Value.oneCell', splice, AV.kill, AV.clean, cleanL, AV.only]) rfl ?_
              refine aops_any ?_
              refine aany_le ?_ hj
              exact le_mem ⟨rfl, rfl, rfl, rfl, rfl, trivial⟩ (by intro g; first | rfl | exact look_swap (by decide))
          ·
            refine ⟨_, rfl, rfl, ?_⟩
            refine aop_of_aops (ops := #[]) rfl ?_
            refine x_store hf rfl rfl Try.c24 rfl rfl (by simp [enC, prC, AV.cells, AV.one, Value.oneCell', splice, AV.kill, AV.clean, cleanL, AV.only]) (by simp [enC, prC, AV.cells, AV.leaf, Value.oneCell', splice, AV.kill, AV.clean, cleanL, AV.only]) rfl ?_
            refine aops_any ?_
            refine aany_step 3 [] (by kernel_rfl) ⟨?_, trivial⟩
            ·
              refine ⟨_, rfl, rfl, ?_⟩
              refine aop_of_aops (ops := #[]) rfl ?_
              first | refine x_pure rfl (p_loads rfl Try.g24 Try.c24 rfl rfl) ?_ | refine x_pure rfl (p_loadsr rfl Try.g24 Try.c24 rfl rfl rfl) ?_
              refine aops_any ?_
              refine aany_le ?_ hj
              exact le_mem ⟨rfl, rfl, rfl, rfl, rfl, trivial⟩ (by intro g; first | rfl | exact look_swap (by decide))
        ·
          refine ⟨_, rfl, rfl, ?_⟩
          refine aop_of_aops (ops := #[]) rfl ?_
          first | refine x_pure rfl (p_loads rfl Try.g24 Try.c24 rfl rfl) ?_ | refine x_pure rfl (p_loadsr rfl Try.g24 Try.c24 rfl rfl rfl) ?_
          refine aops_any ?_
          refine aany_step 1 [] (by kernel_rfl) ⟨?_, trivial⟩
          ·
            refine ⟨_, rfl, rfl, ?_⟩
            refine aop_of_aops (ops := #[]) rfl ?_
            first | refine x_pure rfl (p_loads rfl Try.g24 Try.c24 rfl rfl) ?_ | refine x_pure rfl (p_loadsr rfl Try.g24 Try.c24 rfl rfl rfl) ?_
            refine aops_any ?_
            refine aany_step 6 [] (by kernel_rfl) ⟨?_, trivial⟩
            ·
              refine ⟨_, rfl, rfl, ?_⟩
              refine aop_of_aops (ops := #[]) rfl ?_
              refine x_store hf rfl rfl Try.c24 rfl rfl (by simp [enC, prC, AV.cells, AV.one, Value.oneCell', splice, AV.kill, AV.clean, cleanL, AV.only]) (by simp [enC, prC, AV.cells, AV.leaf, Value.oneCell', splice, AV.kill, AV.clean, cleanL, AV.only]) rfl ?_
              refine aops_any ?_
              refine aany_le ?_ hj
              exact le_mem ⟨rfl, rfl, rfl, rfl, rfl, trivial⟩ (by intro g; first | rfl | exact look_swap (by decide))
  refine aany_step 7 [] (by kernel_rfl) ⟨?_, trivial⟩
  ·
    refine ⟨_, rfl, rfl, ?_⟩
    refine aop_of_aops (ops := #[]) rfl ?_
    refine x_store hf rfl rfl Try.c24 rfl rfl (by simp [enC, prC, AV.cells, AV.one, Value.oneCell', splice, AV.kill, AV.clean, cleanL, AV.only]) (by simp [enC, prC, AV.cells, AV.leaf, Value.oneCell', splice, AV.kill, AV.clean, cleanL, AV.only]) rfl ?_
    refine aops_any ?_
    refine aany_end (by kernel_rfl) ?_
    refine hK2 _ ?_
    refine aw_seq_k (fun K3 hK3 => ?_)
    refine aw_seq_k (fun K4 hK4 => ?_)
    refine aw_region ?_
    refine aops_le (le_freeze (sl' := [(0, .sl 4 (l.map enC)), (2, .s (.int .i64 t)), (7, .adr (prC p)), (8, .adr (prC q))]) ⟨⟨_, rfl, rfl⟩, ⟨_, rfl, rfl⟩, ⟨_, rfl, rfl⟩, ⟨_, rfl, rfl⟩, trivial⟩) ?_
    refine x_pure rfl (p_move rfl) ?_
    first | refine x_pure rfl (p_len_sl rfl Try.e22) ?_ | refine x_pure rfl (p_len_own rfl Try.e22) ?_ | refine x_pure rfl (p_len_nil rfl Try.e22) ?_
    refine x_pure rfl (p_bin rfl rfl rfl) ?_
    refine x_pure rfl (p_move rfl) ?_
    refine y_guard_s rfl rfl rfl (fun hg1 => ?_) (fun hg1 => ?_)
    ·
      try simp only [Bool.not_eq_true', Bool.not_eq_false', Bool.not_true, Bool.not_false, Bool.not_not, decide_eq_true_eq, decide_eq_false_iff_not, beq_iff_eq, beq_eq_false_iff_ne, bne_iff_ne, bne_eq_false_iff_eq, ne_eq, Int.not_lt, Int.not_le, Nat.not_lt, Nat.not_le, gt_iff_lt, ge_iff_le, Bool.and_eq_true, Bool.or_eq_true, Int.ofNat_lt, Int.ofNat_le, Int.natCast_inj, List.length_map, List.length_cons, List.length_nil, List.length_append] at hg1
      first | refine x_pure rfl (p_loads rfl Try.g24 Try.c24 rfl rfl) ?_ | refine x_pure rfl (p_loadsr rfl Try.g24 Try.c24 rfl rfl rfl) ?_
      refine x_guard_t rfl rfl rfl ?_
      first | refine x_pure rfl (p_loads rfl Try.g24 Try.c24 rfl rfl) ?_ | refine x_pure rfl (p_loadsr rfl Try.g24 Try.c24 rfl rfl rfl) ?_
      refine x_guard_t rfl rfl rfl ?_
      refine x_pure rfl (p_eqagg rfl rfl Try.q24 (aeq_pr (x := p) (y := q))) ?_
      refine x_pure rfl (p_pick_f rfl rfl) ?_
      first | refine aops_end ?_ | refine aops_nil ?_
      refine hK4 _ ?_
      refine aw_cond_s rfl (fun hc2 => ?_) (fun hc2 => ?_)
      ·
        try simp only [Bool.not_eq_true', Bool.not_eq_false', Bool.not_true, Bool.not_false, Bool.not_not, decide_eq_true_eq, decide_eq_false_iff_not, beq_iff_eq, beq_eq_false_iff_ne, bne_iff_ne, bne_eq_false_iff_eq, ne_eq, Int.not_lt, Int.not_le, Nat.not_lt, Nat.not_le, gt_iff_lt, ge_iff_le, Bool.and_eq_true, Bool.or_eq_true, Int.ofNat_lt, Int.ofNat_le, Int.natCast_inj, List.length_map, List.length_cons, List.length_nil, List.length_append] at hc2
        refine aw_seq_k (fun K5 hK5 => ?_)
        refine aw_region ?_
        refine x_step hf rfl (r_call rfl rfl Try.ent10 rfl (alive9_den)) ?_
        refine x_pure rfl (p_assign rfl) ?_
        first | refine aops_end ?_ | refine aops_nil ?_
        refine hK5 _ ?_
        refine aw_ret ?_
        refine ⟨_, rfl, ?_⟩
        rfl
      ·
        try simp only [Bool.not_eq_true', Bool.not_eq_false', Bool.not_true, Bool.not_false, Bool.not_not, decide_eq_true_eq, decide_eq_false_iff_not, beq_iff_eq, beq_eq_false_iff_ne, bne_iff_ne, bne_eq_false_iff_eq, ne_eq, Int.not_lt, Int.not_le, Nat.not_lt, Nat.not_le, gt_iff_lt, ge_iff_le, Bool.and_eq_true, Bool.or_eq_true, Int.ofNat_lt, Int.ofNat_le, Int.natCast_inj, List.length_map, List.length_cons, List.length_nil, List.length_append] at hc2
        refine aw_skip ?_
        refine hK3 _ ?_
        refine aw_seq_k (fun K6 hK6 => ?_)
        refine aw_region ?_
        have hpq : p ≠ q := by assumption
        have hq1 := periods_len l q
        have hgl := grant_len (l := l) (p := p) (t := t)
        have hrl := revL_len p t l
        refine x_pure rfl (p_move rfl) ?_
        refine x_step hf rfl (r_call rfl rfl Try.ent11 rfl (news9_den _ (by omega))) ?_
        refine x_pure rfl (p_assign rfl) ?_
        first | refine aops_end ?_ | refine aops_nil ?_
        refine hK6 _ ?_
        refine aw_seq_k (fun K7 hK7 => ?_)
        refine aw_region ?_
        refine x_pure rfl (p_move rfl) ?_
        first | refine x_pure rfl (p_loads rfl Try.g24 Try.c24 rfl rfl) ?_ | refine x_pure rfl (p_loadsr rfl Try.g24 Try.c24 rfl rfl rfl) ?_
        refine x_step hf rfl (r_call rfl rfl Try.ent22 rfl (periods_den _ _ (by omega))) ?_
        refine x_pure rfl (p_assign rfl) ?_
        first | refine aops_end ?_ | refine aops_nil ?_
        refine hK7 _ ?_
        refine aw_seq_k (fun K8 hK8 => ?_)
        refine aw_region ?_
        refine x_pure rfl (p_move rfl) ?_
        first | refine x_pure rfl (p_loads rfl Try.g24 Try.c24 rfl rfl) ?_ | refine x_pure rfl (p_loadsr rfl Try.g24 Try.c24 rfl rfl rfl) ?_
        refine x_pure rfl (p_move rfl) ?_
        refine x_step hf rfl (r_call rfl rfl Try.ent12 rfl ((show Den Try.prog _ _ (· = .tup [.sl 4 (List.map enC []), .s (.int .i64 90)]) from den_is (grant_den l p t (by omega)) (by rw [hon]; rfl)))) ?_
        refine x_pure rfl (p_move rfl) ?_
        refine x_pure rfl (p_extract rfl rfl) ?_
        refine x_pure rfl (p_extract rfl rfl) ?_
        refine x_pure rfl (p_assign rfl) ?_
        refine x_pure rfl (p_assign rfl) ?_
        first | refine aops_end ?_ | refine aops_nil ?_
        refine hK8 _ ?_
        refine aw_seq_k (fun K9 hK9 => ?_)
        refine aw_region ?_
        refine x_pure rfl (p_move rfl) ?_
        first | refine x_pure rfl (p_loads rfl Try.g24 Try.c24 rfl rfl) ?_ | refine x_pure rfl (p_loadsr rfl Try.g24 Try.c24 rfl rfl rfl) ?_
        refine x_pure rfl (p_move rfl) ?_
        refine x_step hf rfl (r_call rfl rfl Try.ent14 rfl ((show Den Try.prog _ _ (· = .tup [.sl 4 (List.map enC (revL l p t)), .s (.int .i64 0)]) from den_is (revoke_den l p t (by omega)) (by rw [hon]; rfl)))) ?_
        refine x_pure rfl (p_move rfl) ?_
        refine x_pure rfl (p_extract rfl rfl) ?_
        refine x_pure rfl (p_extract rfl rfl) ?_
        refine x_pure rfl (p_assign rfl) ?_
        refine x_pure rfl (p_assign rfl) ?_
        first | refine aops_end ?_ | refine aops_nil ?_
        refine hK9 _ ?_
        refine aw_seq_k (fun K10 hK10 => ?_)
        refine aw_region ?_
        refine x_step hf rfl (r_call rfl rfl Try.ent10 rfl (alive9_den)) ?_
        refine x_pure rfl (p_move rfl) ?_
        refine x_guard_t rfl rfl rfl ?_
        refine x_pure rfl (p_move rfl) ?_
        refine x_guard_t rfl rfl rfl ?_
        refine x_pure rfl (p_bin rfl rfl rfl) ?_
        refine x_guard_t rfl rfl rfl ?_
        refine x_pure rfl (p_move rfl) ?_
        refine x_guard_f rfl rfl rfl ?_
        refine x_guard_f rfl rfl rfl ?_
        refine x_guard_f rfl rfl rfl ?_
        refine x_guard_f rfl rfl rfl ?_
        refine x_guard_f rfl rfl rfl ?_
        refine x_guard_t rfl rfl rfl ?_
        refine x_pure rfl (p_pick_t rfl rfl) ?_
        refine x_pure rfl (p_pick_t rfl rfl) ?_
        refine x_pure rfl (p_move rfl) ?_
        refine x_guard_t rfl rfl rfl ?_
        refine x_pure rfl (p_move rfl) ?_
        refine x_guard_t rfl rfl rfl ?_
        refine x_pure rfl (p_bin rfl rfl rfl) ?_
        refine x_guard_t rfl rfl rfl ?_
        refine x_pure rfl (p_move rfl) ?_
        refine x_guard_t rfl rfl rfl ?_
        refine x_pure rfl (p_move rfl) ?_
        refine x_guard_t rfl rfl rfl ?_
        first | refine x_pure rfl (p_loads rfl Try.g24 Try.c24 rfl rfl) ?_ | refine x_pure rfl (p_loadsr rfl Try.g24 Try.c24 rfl rfl rfl) ?_
        refine x_guard_t rfl rfl rfl ?_
        refine x_step hf rfl (r_call rfl rfl Try.ent22 rfl (periods_den _ _ (by omega))) ?_
        refine x_guard_t rfl rfl rfl ?_
        refine x_pure rfl (p_move rfl) ?_
        refine x_guard_t rfl rfl rfl ?_
        refine x_step hf rfl (r_call rfl rfl Try.ent31 rfl (sameT_den _ _ (periods_rev hpq l) (by rw [periods_rev hpq]; omega))) ?_
        refine x_guard_t rfl rfl rfl ?_
        refine x_pure rfl (p_pick_f rfl rfl) ?_
        refine x_pure rfl (p_pick_t rfl rfl) ?_
        refine x_pure rfl (p_move rfl) ?_
        refine x_guard_t rfl rfl rfl ?_
        refine x_pure rfl (p_move rfl) ?_
        refine x_guard_t rfl rfl rfl ?_
        refine x_pure rfl (p_bin rfl rfl rfl) ?_
        refine x_guard_t rfl rfl rfl ?_
        refine x_pure rfl (p_move rfl) ?_
        refine x_guard_t rfl rfl rfl ?_
        refine x_pure rfl (p_bin rfl rfl rfl) ?_
        refine x_guard_t rfl rfl rfl ?_
        refine x_pure rfl (p_bin rfl rfl rfl) ?_
        refine x_pure rfl (p_pick_t rfl rfl) ?_
        refine x_pure rfl (p_assign rfl) ?_
        first | refine aops_end ?_ | refine aops_nil ?_
        refine hK10 _ ?_
        refine aw_ret ?_
        refine ⟨_, rfl, ?_⟩
        rfl
    ·
      try simp only [Bool.not_eq_true', Bool.not_eq_false', Bool.not_true, Bool.not_false, Bool.not_not, decide_eq_true_eq, decide_eq_false_iff_not, beq_iff_eq, beq_eq_false_iff_ne, bne_iff_ne, bne_eq_false_iff_eq, ne_eq, Int.not_lt, Int.not_le, Nat.not_lt, Nat.not_le, gt_iff_lt, ge_iff_le, Bool.and_eq_true, Bool.or_eq_true, Int.ofNat_lt, Int.ofNat_le, Int.natCast_inj, List.length_map, List.length_cons, List.length_nil, List.length_append] at hg1
      refine x_guard_f rfl rfl rfl ?_
      refine x_guard_f rfl rfl rfl ?_
      refine x_pure rfl (p_pick_t rfl rfl) ?_
      first | refine aops_end ?_ | refine aops_nil ?_
      refine hK4 _ ?_
      refine aw_cond_t rfl ?_
      refine aw_seq_k (fun K11 hK11 => ?_)
      refine aw_region ?_
      refine x_step hf rfl (r_call rfl rfl Try.ent10 rfl (alive9_den)) ?_
      refine x_pure rfl (p_assign rfl) ?_
      first | refine aops_end ?_ | refine aops_nil ?_
      refine hK11 _ ?_
      refine aw_ret ?_
      refine ⟨_, rfl, ?_⟩
      rfl

set_option maxRecDepth 20000 in
set_option maxHeartbeats 8000000 in
theorem subsOthersOff_den (l : List En) (p q : Pr) (t : Int) (hl : l.length * 48 ≤ 140737488351232) (hon : onB l p = false)  : Den Try.prog 7 [.sl 4 (l.map enC), .agg (prC p ++ prC q), .s (.int .i64 t)]  (· = .s (.bool true)) := by
  refine den_of_aw Try.func7 rfl (Nat.le_of_ble_eq_true rfl) (fun w0 A hf => ?_)
  refine aw_seq_k (fun K1 hK1 => ?_)
  refine aw_region ?_
  refine x_step hf rfl (r_box rfl rfl (by simp [enC, prC, AV.cells, AV.leaf, Value.oneCell', splice, AV.kill, AV.clean, cleanL, AV.only])) ?_
  refine x_pure rfl (p_assign_bad) ?_
  first | refine aops_end ?_ | refine aops_nil ?_
  refine hK1 _ ?_
  refine aw_seq_k (fun K2 hK2 => ?_)
  refine aw_region_any Try.mixed ?_
  refine af_step (listed' := #[true, false, false, false, false, false, false, false]) 0 rfl (by kernel_rfl) (by kernel_rfl) (by kernel_rfl) rfl (fun _ _ h => h) (w_idx_arr rfl rfl Try.ar52 Try.c24 (by first | decide | omega) rfl) ?_
  refine af_step (listed' := #[true, false, true, false, false, false, false, false]) 2 rfl (by kernel_rfl) (by kernel_rfl) (by kernel_rfl) rfl (fun _ _ h => h) (w_idx_arr rfl rfl Try.ar52 Try.c24 (by first | decide | omega) rfl) ?_
  refine aany_le (le_of (sl' := [(0, _), (2, _), (15, _), (17, _)]) ⟨rfl, rfl, rfl, rfl, trivial⟩) ?_
  suffices hj : AAny _ _ _ _ _ 1 #[true, true, true, true, true, true, true, false] ⟨77, [(0, .sl 4 (l.map enC)), (2, .s (.int .i64 t)), (18, .agg (prC q)), (7, .ref 7 0 0 0), (8, .ref 8 0 0 0)], [(7, .box (prC p)), (8, .box [.s (.string ⟨#[]⟩), .s (.string ⟨#[]⟩)])]⟩ by
    refine aany_step 1 [3, 4, 5] (by kernel_rfl) ⟨?_, ?_, ?_, ?_, trivial⟩
    ·
      refine ⟨_, rfl, rfl, ?_⟩
      refine aop_of_aops (ops := #[]) rfl ?_
      first | refine x_pure rfl (p_loads rfl Try.g24 Try.c24 rfl rfl) ?_ | refine x_pure rfl (p_loadsr rfl Try.g24 Try.c24 rfl rfl rfl) ?_
      refine aops_any ?_
      refine aany_step 3 [4, 5] (by kernel_rfl) ⟨?_, ?_, ?_, trivial⟩
      ·
        refine ⟨_, rfl, rfl, ?_⟩
        refine aop_of_aops (ops := #[]) rfl ?_
        first | refine x_pure rfl (p_loads rfl Try.g24 Try.c24 rfl rfl) ?_ | refine x_pure rfl (p_loadsr rfl Try.g24 Try.c24 rfl rfl rfl) ?_
        refine aops_any ?_
        refine aany_step 4 [5] (by kernel_rfl) ⟨?_, ?_, trivial⟩
        ·
          refine ⟨_, rfl, rfl, ?_⟩
          refine aop_of_aops (ops := #[]) rfl ?_
          refine x_alloc hf rfl rfl rfl Try.z24 ?_
          refine aops_any ?_
          refine aany_step 5 [] (by kernel_rfl) ⟨?_, trivial⟩
          ·
            refine ⟨_, rfl, rfl, ?_⟩
            refine aop_of_aops (ops := #[]) rfl ?_
            refine x_alloc hf rfl rfl rfl Try.z24 ?_
            refine aops_any ?_
            refine aany_step 6 [] (by kernel_rfl) ⟨?_, trivial⟩
            ·
              refine ⟨_, rfl, rfl, ?_⟩
              refine aop_of_aops (ops := #[]) rfl ?_
              refine x_store hf rfl rfl Try.c24 rfl rfl (by simp [enC, prC, AV.cells, AV.one, Value.oneCell', splice, AV.kill, AV.clean, cleanL, AV.only]) (by simp [enC, prC, AV.cells, AV.leaf, Value.oneCell', splice, AV.kill, AV.clean, cleanL, AV.only]) rfl ?_
              refine aops_any ?_
              refine aany_le ?_ hj
              exact le_mem ⟨rfl, rfl, rfl, rfl, rfl, trivial⟩ (by intro g; first | rfl | exact look_swap (by decide))
        ·
          refine ⟨_, rfl, rfl, ?_⟩
          refine aop_of_aops (ops := #[]) rfl ?_
          refine x_alloc hf rfl rfl rfl Try.z24 ?_
          refine aops_any ?_
          refine aany_step 4 [] (by kernel_rfl) ⟨?_, trivial⟩
          ·
            refine ⟨_, rfl, rfl, ?_⟩
            refine aop_of_aops (ops := #[]) rfl ?_
            refine x_alloc hf rfl rfl rfl Try.z24 ?_
            refine aops_any ?_
            refine aany_step 6 [] (by kernel_rfl) ⟨?_, trivial⟩
            ·
              refine ⟨_, rfl, rfl, ?_⟩
              refine aop_of_aops (ops := #[]) rfl ?_
              refine x_store hf rfl rfl Try.c24 rfl rfl (by simp [enC, prC, AV.cells, AV.one, Value.oneCell', splice, AV.kill, AV.clean, cleanL, AV.only]) (by simp [enC, prC, AV.cells, AV.leaf, Value.oneCell', splice, AV.kill, AV.clean, cleanL, AV.only]) rfl ?_
              refine aops_any ?_
              refine aany_le ?_ hj
              exact le_mem ⟨rfl, rfl, rfl, rfl, rfl, trivial⟩ (by intro g; first | rfl | exact look_swap (by decide))
      ·
        refine ⟨_, rfl, rfl, ?_⟩
        refine aop_of_aops (ops := #[]) rfl ?_
        refine x_alloc hf rfl rfl rfl Try.z24 ?_
        refine aops_any ?_
        refine aany_step 3 [5] (by kernel_rfl) ⟨?_, ?_, trivial⟩
        ·
          refine ⟨_, rfl, rfl, ?_⟩
          refine aop_of_aops (ops := #[]) rfl ?_
          first | refine x_pure rfl (p_loads rfl Try.g24 Try.c24 rfl rfl) ?_ | refine x_pure rfl (p_loadsr rfl Try.g24 Try.c24 rfl rfl rfl) ?_
          refine aops_any ?_
          refine aany_step 5 [] (by kernel_rfl) ⟨?_, trivial⟩
          ·
            refine ⟨_, rfl, rfl, ?_⟩
            refine aop_of_aops (ops := #[]) rfl ?_
            refine x_alloc hf rfl rfl rfl Try.z24 ?_
            refine aops_any ?_
            refine aany_step 6 [] (by kernel_rfl) ⟨?_, trivial⟩
            ·
              refine ⟨_, rfl, rfl, ?_⟩
              refine aop_of_aops (ops := #[]) rfl ?_
              refine x_store hf rfl rfl Try.c24 rfl rfl (by simp [enC, prC, AV.cells, AV.one, Value.oneCell', splice, AV.kill, AV.clean, cleanL, AV.only]) (by simp [enC, prC, AV.cells, AV.leaf, Value.oneCell', splice, AV.kill, AV.clean, cleanL, AV.only]) rfl ?_
              refine aops_any ?_
              refine aany_le ?_ hj
              exact le_mem ⟨rfl, rfl, rfl, rfl, rfl, trivial⟩ (by intro g; first | rfl | exact look_swap (by decide))
        ·
          refine ⟨_, rfl, rfl, ?_⟩
          refine aop_of_aops (ops := #[]) rfl ?_
          refine x_alloc hf rfl rfl rfl Try.z24 ?_
          refine aops_any ?_
          refine aany_step 3 [6] (by kernel_rfl) ⟨?_, ?_, trivial⟩
          ·
            refine ⟨_, rfl, rfl, ?_⟩
            refine aop_of_aops (ops := #[]) rfl ?_
            first | refine x_pure rfl (p_loads rfl Try.g24 Try.c24 rfl rfl) ?_ | refine x_pure rfl (p_loadsr rfl Try.g24 Try.c24 rfl rfl rfl) ?_
            refine aops_any ?_
            refine aany_step 6 [] (by kernel_rfl) ⟨?_, trivial⟩
            ·
              refine ⟨_, rfl, rfl, ?_⟩
              refine aop_of_aops (ops := #[]) rfl ?_
              refine x_store hf rfl rfl Try.c24 rfl rfl (by simp [enC, prC, AV.cells, AV.one, Value.oneCell', splice, AV.kill, AV.clean, cleanL, AV.only]) (by simp [enC, prC, AV.cells, AV.leaf, Value.oneCell', splice, AV.kill, AV.clean, cleanL, AV.only]) rfl ?_
              refine aops_any ?_
              refine aany_le ?_ hj
              exact le_mem ⟨rfl, rfl, rfl, rfl, rfl, trivial⟩ (by intro g; first | rfl | exact look_swap (by decide))
          ·
            refine ⟨_, rfl, rfl, ?_⟩
            refine aop_of_aops (ops := #[]) rfl ?_
            refine x_store hf rfl rfl Try.c24 rfl rfl (by simp [enC, prC, AV.cells, AV.one, Value.oneCell', splice, AV.kill, AV.clean, cleanL, AV.only]) (by simp [enC, prC, AV.cells, AV.leaf, Value.oneCell', splice, AV.kill, AV.clean, cleanL, AV.only]) rfl ?_
            refine aops_any ?_
            refine aany_step 3 [] (by kernel_rfl) ⟨?_, trivial⟩
            ·
              refine ⟨_, rfl, rfl, ?_⟩
              refine aop_of_aops (ops := #[]) rfl ?_
              first | refine x_pure rfl (p_loads rfl Try.g24 Try.c24 rfl rfl) ?_ | refine x_pure rfl (p_loadsr rfl Try.g24 Try.c24 rfl rfl rfl) ?_
              refine aops_any ?_
              refine aany_le ?_ hj
              exact le_mem ⟨rfl, rfl, rfl, rfl, rfl, trivial⟩ (by intro g; first | rfl | exact look_swap (by decide))
      ·
        refine ⟨_, rfl, rfl, ?_⟩
        refine aop_of_aops (ops := #[]) rfl ?_
        refine x_alloc hf rfl rfl rfl Try.z24 ?_
        refine aops_any ?_
        refine aany_step 3 [4] (by kernel_rfl) ⟨?_, ?_, trivial⟩
        ·
          refine ⟨_, rfl, rfl, ?_⟩
          refine aop_of_aops (ops := #[]) rfl ?_
          first | refine x_pure rfl (p_loads rfl Try.g24 Try.c24 rfl rfl) ?_ | refine x_pure rfl (p_loadsr rfl Try.g24 Try.c24 rfl rfl rfl) ?_
          refine aops_any ?_
          refine aany_step 4 [] (by kernel_rfl) ⟨?_, trivial⟩
          ·
            refine ⟨_, rfl, rfl, ?_⟩
            refine aop_of_aops (ops := #[]) rfl ?_
            refine x_alloc hf rfl rfl rfl Try.z24 ?_
            refine aops_any ?_
            refine aany_step 6 [] (by kernel_rfl) ⟨?_, trivial⟩
            ·
              refine ⟨_, rfl, rfl, ?_⟩
              refine aop_of_aops (ops := #[]) rfl ?_
              refine x_store hf rfl rfl Try.c24 rfl rfl (by simp [enC, prC, AV.cells, AV.one, Value.oneCell', splice, AV.kill, AV.clean, cleanL, AV.only]) (by simp [enC, prC, AV.cells, AV.leaf, Value.oneCell', splice, AV.kill, AV.clean, cleanL, AV.only]) rfl ?_
              refine aops_any ?_
              refine aany_le ?_ hj
              exact le_mem ⟨rfl, rfl, rfl, rfl, rfl, trivial⟩ (by intro g; first | rfl | exact look_swap (by decide))
        ·
          refine ⟨_, rfl, rfl, ?_⟩
          refine aop_of_aops (ops := #[]) rfl ?_
          refine x_alloc hf rfl rfl rfl Try.z24 ?_
          refine aops_any ?_
          refine aany_step 3 [6] (by kernel_rfl) ⟨?_, ?_, trivial⟩
          ·
            refine ⟨_, rfl, rfl, ?_⟩
            refine aop_of_aops (ops := #[]) rfl ?_
            first | refine x_pure rfl (p_loads rfl Try.g24 Try.c24 rfl rfl) ?_ | refine x_pure rfl (p_loadsr rfl Try.g24 Try.c24 rfl rfl rfl) ?_
            refine aops_any ?_
            refine aany_step 6 [] (by kernel_rfl) ⟨?_, trivial⟩
            ·
              refine ⟨_, rfl, rfl, ?_⟩
              refine aop_of_aops (ops := #[]) rfl ?_
              refine x_store hf rfl rfl Try.c24 rfl rfl (by simp [enC, prC, AV.cells, AV.one, Value.oneCell', splice, AV.kill, AV.clean, cleanL, AV.only]) (by simp [enC, prC, AV.cells, AV.leaf, Value.oneCell', splice, AV.kill, AV.clean, cleanL, AV.only]) rfl ?_
              refine aops_any ?_
              refine aany_le ?_ hj
              exact le_mem ⟨rfl, rfl, rfl, rfl, rfl, trivial⟩ (by intro g; first | rfl | exact look_swap (by decide))
          ·
            refine ⟨_, rfl, rfl, ?_⟩
            refine aop_of_aops (ops := #[]) rfl ?_
            refine x_store hf rfl rfl Try.c24 rfl rfl (by simp [enC, prC, AV.cells, AV.one, Value.oneCell', splice, AV.kill, AV.clean, cleanL, AV.only]) (by simp [enC, prC, AV.cells, AV.leaf, Value.oneCell', splice, AV.kill, AV.clean, cleanL, AV.only]) rfl ?_
            refine aops_any ?_
            refine aany_step 3 [] (by kernel_rfl) ⟨?_, trivial⟩
            ·
              refine ⟨_, rfl, rfl, ?_⟩
              refine aop_of_aops (ops := #[]) rfl ?_
              first | refine x_pure rfl (p_loads rfl Try.g24 Try.c24 rfl rfl) ?_ | refine x_pure rfl (p_loadsr rfl Try.g24 Try.c24 rfl rfl rfl) ?_
              refine aops_any ?_
              refine aany_le ?_ hj
              exact le_mem ⟨rfl, rfl, rfl, rfl, rfl, trivial⟩ (by intro g; first | rfl | exact look_swap (by decide))
    ·
      refine ⟨_, rfl, rfl, ?_⟩
      refine aop_of_aops (ops := #[]) rfl ?_
      first | refine x_pure rfl (p_loads rfl Try.g24 Try.c24 rfl rfl) ?_ | refine x_pure rfl (p_loadsr rfl Try.g24 Try.c24 rfl rfl rfl) ?_
      refine aops_any ?_
      refine aany_step 1 [4, 5] (by kernel_rfl) ⟨?_, ?_, ?_, trivial⟩
      ·
        refine ⟨_, rfl, rfl, ?_⟩
        refine aop_of_aops (ops := #[]) rfl ?_
        first | refine x_pure rfl (p_loads rfl Try.g24 Try.c24 rfl rfl) ?_ | refine x_pure rfl (p_loadsr rfl Try.g24 Try.c24 rfl rfl rfl) ?_
        refine aops_any ?_
        refine aany_step 4 [5] (by kernel_rfl) ⟨?_, ?_, trivial⟩
        ·
          refine ⟨_, rfl, rfl, ?_⟩
          refine aop_of_aops (ops := #[]) rfl ?_
          refine x_alloc hf rfl rfl rfl Try.z24 ?_
          refine aops_any ?_
          refine aany_step 5 [] (by kernel_rfl) ⟨?_, trivial⟩
          ·
            refine ⟨_, rfl, rfl, ?_⟩
            refine aop_of_aops (ops := #[]) rfl ?_
            refine x_alloc hf rfl rfl rfl Try.z24 ?_
            refine aops_any ?_
            refine aany_step 6 [] (by kernel_rfl) ⟨?_, trivial⟩
            ·
              refine ⟨_, rfl, rfl, ?_⟩
              refine aop_of_aops (ops := #[]) rfl ?_
              refine x_store hf rfl rfl Try.c24 rfl rfl (by simp [enC, prC, AV.cells, AV.one, Value.oneCell', splice, AV.kill, AV.clean, cleanL, AV.only]) (by simp [enC, prC, AV.cells, AV.leaf, Value.oneCell', splice, AV.kill, AV.clean, cleanL, AV.only]) rfl ?_
              refine aops_any ?_
              refine aany_le ?_ hj
              exact le_mem ⟨rfl, rfl, rfl, rfl, rfl, trivial⟩ (by intro g; first | rfl | exact look_swap (by decide))
        ·
          refine ⟨_, rfl, rfl, ?_⟩
          refine aop_of_aops (ops := #[]) rfl ?_
          refine x_alloc hf rfl rfl rfl Try.z24 ?_
          refine aops_any ?_
          refine aany_step 4 [] (by kernel_rfl) ⟨?_, trivial⟩
          ·
            refine ⟨_, rfl, rfl, ?_⟩
            refine aop_of_aops (ops := #[]) rfl ?_
            refine x_alloc hf rfl rfl rfl Try.z24 ?_
            refine aops_any ?_
            refine aany_step 6 [] (by kernel_rfl) ⟨?_, trivial⟩
            ·
              refine ⟨_, rfl, rfl, ?_⟩
              refine aop_of_aops (ops := #[]) rfl ?_
              refine x_store hf rfl rfl Try.c24 rfl rfl (by simp [enC, prC, AV.cells, AV.one, Value.oneCell', splice, AV.kill, AV.clean, cleanL, AV.only]) (by simp [enC, prC, AV.cells, AV.leaf, Value.oneCell', splice, AV.kill, AV.clean, cleanL, AV.only]) rfl ?_
              refine aops_any ?_
              refine aany_le ?_ hj
              exact le_mem ⟨rfl, rfl, rfl, rfl, rfl, trivial⟩ (by intro g; first | rfl | exact look_swap (by decide))
      ·
        refine ⟨_, rfl, rfl, ?_⟩
        refine aop_of_aops (ops := #[]) rfl ?_
        refine x_alloc hf rfl rfl rfl Try.z24 ?_
        refine aops_any ?_
        refine aany_step 1 [5] (by kernel_rfl) ⟨?_, ?_, trivial⟩
        ·
          refine ⟨_, rfl, rfl, ?_⟩
          refine aop_of_aops (ops := #[]) rfl ?_
          first | refine x_pure rfl (p_loads rfl Try.g24 Try.c24 rfl rfl) ?_ | refine x_pure rfl (p_loadsr rfl Try.g24 Try.c24 rfl rfl rfl) ?_
          refine aops_any ?_
          refine aany_step 5 [] (by kernel_rfl) ⟨?_, trivial⟩
          ·
            refine ⟨_, rfl, rfl, ?_⟩
            refine aop_of_aops (ops := #[]) rfl ?_
            refine x_alloc hf rfl rfl rfl Try.z24 ?_
            refine aops_any ?_
            refine aany_step 6 [] (by kernel_rfl) ⟨?_, trivial⟩
            ·
              refine ⟨_, rfl, rfl, ?_⟩
              refine aop_of_aops (ops := #[]) rfl ?_
              refine x_store hf rfl rfl Try.c24 rfl rfl (by simp [enC, prC, AV.cells, AV.one, Value.oneCell', splice, AV.kill, AV.clean, cleanL, AV.only]) (by simp [enC, prC, AV.cells, AV.leaf, Value.oneCell', splice, AV.kill, AV.clean, cleanL, AV.only]) rfl ?_
              refine aops_any ?_
              refine aany_le ?_ hj
              exact le_mem ⟨rfl, rfl, rfl, rfl, rfl, trivial⟩ (by intro g; first | rfl | exact look_swap (by decide))
        ·
          refine ⟨_, rfl, rfl, ?_⟩
          refine aop_of_aops (ops := #[]) rfl ?_
          refine x_alloc hf rfl rfl rfl Try.z24 ?_
          refine aops_any ?_
          refine aany_step 1 [] (by kernel_rfl) ⟨?_, trivial⟩
          ·
            refine ⟨_, rfl, rfl, ?_⟩
            refine aop_of_aops (ops := #[]) rfl ?_
            first | refine x_pure rfl (p_loads rfl Try.g24 Try.c24 rfl rfl) ?_ | refine x_pure rfl (p_loadsr rfl Try.g24 Try.c24 rfl rfl rfl) ?_
            refine aops_any ?_
            refine aany_step 6 [] (by kernel_rfl) ⟨?_, trivial⟩
            ·
              refine ⟨_, rfl, rfl, ?_⟩
              refine aop_of_aops (ops := #[]) rfl ?_
              refine x_store hf rfl rfl Try.c24 rfl rfl (by simp [enC, prC, AV.cells, AV.one, Value.oneCell', splice, AV.kill, AV.clean, cleanL, AV.only]) (by simp [enC, prC, AV.cells, AV.leaf, Value.oneCell', splice, AV.kill, AV.clean, cleanL, AV.only]) rfl ?_
              refine aops_any ?_
              refine aany_le ?_ hj
              exact le_mem ⟨rfl, rfl, rfl, rfl, rfl, trivial⟩ (by intro g; first | rfl | exact look_swap (by decide))
      ·
        refine ⟨_, rfl, rfl, ?_⟩
        refine aop_of_aops (ops := #[]) rfl ?_
        refine x_alloc hf rfl rfl rfl Try.z24 ?_
        refine aops_any ?_
        refine aany_step 1 [4] (by kernel_rfl) ⟨?_, ?_, trivial⟩
        ·
          refine ⟨_, rfl, rfl, ?_⟩
          refine aop_of_aops (ops := #[]) rfl ?_
          first | refine x_pure rfl (p_loads rfl Try.g24 Try.c24 rfl rfl) ?_ | refine x_pure rfl (p_loadsr rfl Try.g24 Try.c24 rfl rfl rfl) ?_
          refine aops_any ?_
          refine aany_step 4 [] (by kernel_rfl) ⟨?_, trivial⟩
          ·
            refine ⟨_, rfl, rfl, ?_⟩
            refine aop_of_aops (ops := #[]) rfl ?_
            refine x_alloc hf rfl rfl rfl Try.z24 ?_
            refine aops_any ?_
            refine aany_step 6 [] (by kernel_rfl) ⟨?_, trivial⟩
            ·
              refine ⟨_, rfl, rfl, ?_⟩
              refine aop_of_aops (ops := #[]) rfl ?_
              refine x_store hf rfl rfl Try.c24 rfl rfl (by simp [enC, prC, AV.cells, AV.one, Value.oneCell', splice, AV.kill, AV.clean, cleanL, AV.only]) (by simp [enC, prC, AV.cells, AV.leaf, Value.oneCell', splice, AV.kill, AV.clean, cleanL, AV.only]) rfl ?_
              refine aops_any ?_
              refine aany_le ?_ hj
              exact le_mem ⟨rfl, rfl, rfl, rfl, rfl, trivial⟩ (by intro g; first | rfl | exact look_swap (by decide))
        ·
          refine ⟨_, rfl, rfl, ?_⟩
          refine aop_of_aops (ops := #[]) rfl ?_
          refine x_alloc hf rfl rfl rfl Try.z24 ?_
          refine aops_any ?_
          refine aany_step 1 [] (by kernel_rfl) ⟨?_, trivial⟩
          ·
            refine ⟨_, rfl, rfl, ?_⟩
            refine aop_of_aops (ops := #[]) rfl ?_
            first | refine x_pure rfl (p_loads rfl Try.g24 Try.c24 rfl rfl) ?_ | refine x_pure rfl (p_loadsr rfl Try.g24 Try.c24 rfl rfl rfl) ?_
            refine aops_any ?_
            refine aany_step 6 [] (by kernel_rfl) ⟨?_, trivial⟩
            ·
              refine ⟨_, rfl, rfl, ?_⟩
              refine aop_of_aops (ops := #[]) rfl ?_
              refine x_store hf rfl rfl Try.c24 rfl rfl (by simp [enC, prC, AV.cells, AV.one, Value.oneCell', splice, AV.kill, AV.clean, cleanL, AV.only]) (by simp [enC, prC, AV.cells, AV.leaf, Value.oneCell', splice, AV.kill, AV.clean, cleanL, AV.only]) rfl ?_
              refine aops_any ?_
              refine aany_le ?_ hj
              exact le_mem ⟨rfl, rfl, rfl, rfl, rfl, trivial⟩ (by intro g; first | rfl | exact look_swap (by decide))
    ·
      refine ⟨_, rfl, rfl, ?_⟩
      refine aop_of_aops (ops := #[]) rfl ?_
      refine x_alloc hf rfl rfl rfl Try.z24 ?_
      refine aops_any ?_
      refine aany_step 1 [3, 5] (by kernel_rfl) ⟨?_, ?_, ?_, trivial⟩
      ·
        refine ⟨_, rfl, rfl, ?_⟩
        refine aop_of_aops (ops := #[]) rfl ?_
        first | refine x_pure rfl (p_loads rfl Try.g24 Try.c24 rfl rfl) ?_ | refine x_pure rfl (p_loadsr rfl Try.g24 Try.c24 rfl rfl rfl) ?_
        refine aops_any ?_
        refine aany_step 3 [5] (by kernel_rfl) ⟨?_, ?_, trivial⟩
        ·
          refine ⟨_, rfl, rfl, ?_⟩
          refine aop_of_aops (ops := #[]) rfl ?_
          first | refine x_pure rfl (p_loads rfl Try.g24 Try.c24 rfl rfl) ?_ | refine x_pure rfl (p_loadsr rfl Try.g24 Try.c24 rfl rfl rfl) ?_
          refine aops_any ?_
          refine aany_step 5 [] (by kernel_rfl) ⟨?_, trivial⟩
          ·
            refine ⟨_, rfl, rfl, ?_⟩
            refine aop_of_aops (ops := #[]) rfl ?_
            refine x_alloc hf rfl rfl rfl Try.z24 ?_
            refine aops_any ?_
            refine aany_step 6 [] (by kernel_rfl) ⟨?_, trivial⟩
            ·
              refine ⟨_, rfl, rfl, ?_⟩
              refine aop_of_aops (ops := #[]) rfl ?_
              refine x_store hf rfl rfl Try.c24 rfl rfl (by simp [enC, prC, AV.cells, AV.one, Value.oneCell', splice, AV.kill, AV.clean, cleanL, AV.only]) (by simp [enC, prC, AV.cells, AV.leaf, Value.oneCell', splice, AV.kill, AV.clean, cleanL, AV.only]) rfl ?_
              refine aops_any ?_
              refine aany_le ?_ hj
              exact le_mem ⟨rfl, rfl, rfl, rfl, rfl, trivial⟩ (by intro g; first | rfl | exact look_swap (by decide))
        ·
          refine ⟨_, rfl, rfl, ?_⟩
          refine aop_of_aops (ops := #[]) rfl ?_
          refine x_alloc hf rfl rfl rfl Try.z24 ?_
          refine aops_any ?_
          refine aany_step 3 [6] (by kernel_rfl) ⟨?_, ?_, trivial⟩
          ·
            refine ⟨_, rfl, rfl, ?_⟩
            refine aop_of_aops (ops := #[]) rfl ?_
            first | refine x_pure rfl (p_loads rfl Try.g24 Try.c24 rfl rfl) ?_ | refine x_pure rfl (p_loadsr rfl Try.g24 Try.c24 rfl rfl rfl) ?_
            refine aops_any ?_
            refine aany_step 6 [] (by kernel_rfl) ⟨?_, trivial⟩
            ·
              refine ⟨_, rfl, rfl, ?_⟩
              refine aop_of_aops (ops := #[]) rfl ?_
              refine x_store hf rfl rfl Try.c24 rfl rfl (by simp [enC, prC, AV.cells, AV.one, Value.oneCell', splice, AV.kill, AV.clean, cleanL, AV.only]) (by simp [enC, prC, AV.cells, AV.leaf, Value.oneCell', splice, AV.kill, AV.clean, cleanL, AV.only]) rfl ?_
              refine aops_any ?_
              refine aany_le ?_ hj
              exact le_mem ⟨rfl, rfl, rfl, rfl, rfl, trivial⟩ (by intro g; first | rfl | exact look_swap (by decide))
          ·
            refine ⟨_, rfl, rfl, ?_⟩
            refine aop_of_aops (ops := #[]) rfl ?_
            refine x_store hf rfl rfl Try.c24 rfl rfl (by simp [enC, prC, AV.cells, AV.one, Value.oneCell', splice, AV.kill, AV.clean, cleanL, AV.only]) (by simp [enC, prC, AV.cells, AV.leaf, Value.oneCell', splice, AV.kill, AV.clean, cleanL, AV.only]) rfl ?_
            refine aops_any ?_
            refine aany_step 3 [] (by kernel_rfl) ⟨?_, trivial⟩
            ·
              refine ⟨_, rfl, rfl, ?_⟩
              refine aop_of_aops (ops := #[]) rfl ?_
              first | refine x_pure rfl (p_loads rfl Try.g24 Try.c24 rfl rfl) ?_ | refine x_pure rfl (p_loadsr rfl Try.g24 Try.c24 rfl rfl rfl) ?_
              refine aops_any ?_
              refine aany_le ?_ hj
              exact le_mem ⟨rfl, rfl, rfl, rfl, rfl, trivial⟩ (by intro g; first | rfl | exact look_swap (by decide))
      ·
        refine ⟨_, rfl, rfl, ?_⟩
        refine aop_of_aops (ops := #[]) rfl ?_
        first | refine x_pure rfl (p_loads rfl Try.g24 Try.c24 rfl rfl) ?_ | refine x_pure rfl (p_loadsr rfl Try.g24 Try.c24 rfl rfl rfl) ?_
        refine aops_any ?_
        refine aany_step 1 [5] (by kernel_rfl) ⟨?_, ?_, trivial⟩
        ·
          refine ⟨_, rfl, rfl, ?_⟩
          refine aop_of_aops (ops := #[]) rfl ?_
          first | refine x_pure rfl (p_loads rfl Try.g24 Try.c24 rfl rfl) ?_ | refine x_pure rfl (p_loadsr rfl Try.g24 Try.c24 rfl rfl rfl) ?_
          refine aops_any ?_
          refine aany_step 5 [] (by kernel_rfl) ⟨?_, trivial⟩
          ·
            refine ⟨_, rfl, rfl, ?_⟩
            refine aop_of_aops (ops := #[]) rfl ?_
            refine x_alloc hf rfl rfl rfl Try.z24 ?_
            refine aops_any ?_
            refine aany_step 6 [] (by kernel_rfl) ⟨?_, trivial⟩
            ·
              refine ⟨_, rfl, rfl, ?_⟩
              refine aop_of_aops (ops := #[]) rfl ?_
              refine x_store hf rfl rfl Try.c24 rfl rfl (by simp [enC, prC, AV.cells, AV.one, Value.oneCell', splice, AV.kill, AV.clean, cleanL, AV.only]) (by simp [enC, prC, AV.cells, AV.leaf, Value.oneCell', splice, AV.kill, AV.clean, cleanL, AV.only]) rfl ?_
              refine aops_any ?_
              refine aany_le ?_ hj
              exact le_mem ⟨rfl, rfl, rfl, rfl, rfl, trivial⟩ (by intro g; first | rfl | exact look_swap (by decide))
        ·
          refine ⟨_, rfl, rfl, ?_⟩
          refine aop_of_aops (ops := #[]) rfl ?_
          refine x_alloc hf rfl rfl rfl Try.z24 ?_
          refine aops_any ?_
          refine aany_step 1 [] (by kernel_rfl) ⟨?_, trivial⟩
          ·
            refine ⟨_, rfl, rfl, ?_⟩
            refine aop_of_aops (ops := #[]) rfl ?_
            first | refine x_pure rfl (p_loads rfl Try.g24 Try.c24 rfl rfl) ?_ | refine x_pure rfl (p_loadsr rfl Try.g24 Try.c24 rfl rfl rfl) ?_
            refine aops_any ?_
            refine aany_step 6 [] (by kernel_rfl) ⟨?_, trivial⟩
            ·
              refine ⟨_, rfl, rfl, ?_⟩
              refine aop_of_aops (ops := #[]) rfl ?_
              refine x_store hf rfl rfl Try.c24 rfl rfl (by simp [enC, prC, AV.cells, AV.one, Value.oneCell', splice, AV.kill, AV.clean, cleanL, AV.only]) (by simp [enC, prC, AV.cells, AV.leaf, Value.oneCell', splice, AV.kill, AV.clean, cleanL, AV.only]) rfl ?_
              refine aops_any ?_
              refine aany_le ?_ hj
              exact le_mem ⟨rfl, rfl, rfl, rfl, rfl, trivial⟩ (by intro g; first | rfl | exact look_swap (by decide))
      ·
        refine ⟨_, rfl, rfl, ?_⟩
        refine aop_of_aops (ops := #[]) rfl ?_
        refine x_alloc hf rfl rfl rfl Try.z24 ?_
        refine aops_any ?_
        refine aany_step 1 [3] (by kernel_rfl) ⟨?_, ?_, trivial⟩
        ·
          refine ⟨_, rfl, rfl, ?_⟩
          refine aop_of_aops (ops := #[]) rfl ?_
          first | refine x_pure rfl (p_loads rfl Try.g24 Try.c24 rfl rfl) ?_ | refine x_pure rfl (p_loadsr rfl Try.g24 Try.c24 rfl rfl rfl) ?_
          refine aops_any ?_
          refine aany_step 3 [6] (by kernel_rfl) ⟨?_, ?_, trivial⟩
          ·
            refine ⟨_, rfl, rfl, ?_⟩
            refine aop_of_aops (ops := #[]) rfl ?_
            first | refine x_pure rfl (p_loads rfl Try.g24 Try.c24 rfl rfl) ?_ | refine x_pure rfl (p_loadsr rfl Try.g24 Try.c24 rfl rfl rfl) ?_
            refine aops_any ?_
            refine aany_step 6 [] (by kernel_rfl) ⟨?_, trivial⟩
            ·
              refine ⟨_, rfl, rfl, ?_⟩
              refine aop_of_aops (ops := #[]) rfl ?_
              refine x_store hf rfl rfl Try.c24 rfl rfl (by simp [enC, prC, AV.cells, AV.one, Value.oneCell', splice, AV.kill, AV.clean, cleanL, AV.only]) (by simp [enC, prC, AV.cells, AV.leaf, Value.oneCell', splice, AV.kill, AV.clean, cleanL, AV.only]) rfl ?_
              refine aops_any ?_
              refine aany_le ?_ hj
              exact le_mem ⟨rfl, rfl, rfl, rfl, rfl, trivial⟩ (by intro g; first | rfl | exact look_swap (by decide))
          ·
            refine ⟨_, rfl, rfl, ?_⟩
            refine aop_of_aops (ops := #[]) rfl ?_
            refine x_store hf rfl rfl Try.c24 rfl rfl (by simp [enC, prC, AV.cells, AV.one, Value.oneCell', splice, AV.kill, AV.clean, cleanL, AV.only]) (by simp [enC, prC, AV.cells, AV.leaf, Value.oneCell', splice, AV.kill, AV.clean, cleanL, AV.only]) rfl ?_
            refine aops_any ?_
            refine aany_step 3 [] (by kernel_rfl) ⟨?_, trivial⟩
            ·
              refine ⟨_, rfl, rfl, ?_⟩
              refine aop_of_aops (ops := #[]) rfl ?_
              first | refine x_pure rfl (p_loads rfl Try.g24 Try.c24 rfl rfl) ?_ | refine x_pure rfl (p_loadsr rfl Try.g24 Try.c24 rfl rfl rfl) ?_
              refine aops_any ?_
              refine aany_le ?_ hj
              exact le_mem ⟨rfl, rfl, rfl, rfl, rfl, trivial⟩ (by intro g; first | rfl | exact look_swap (by decide))
        ·
          refine ⟨_, rfl, rfl, ?_⟩
          refine aop_of_aops (ops := #[]) rfl ?_
          first | refine x_pure rfl (p_loads rfl Try.g24 Try.c24 rfl rfl) ?_ | refine x_pure rfl (p_loadsr rfl Try.g24 Try.c24 rfl rfl rfl) ?_
          refine aops_any ?_
          refine aany_step 1 [] (by kernel_rfl) ⟨?_, trivial⟩
          ·
            refine ⟨_, rfl, rfl, ?_⟩
            refine aop_of_aops (ops := #[]) rfl ?_
            first | refine x_pure rfl (p_loads rfl Try.g24 Try.c24 rfl rfl) ?_ | refine x_pure rfl (p_loadsr rfl Try.g24 Try.c24 rfl rfl rfl) ?_
            refine aops_any ?_
            refine aany_step 6 [] (by kernel_rfl) ⟨?_, trivial⟩
            ·
              refine ⟨_, rfl, rfl, ?_⟩
              refine aop_of_aops (ops := #[]) rfl ?_
              refine x_store hf rfl rfl Try.c24 rfl rfl (by simp [enC, prC, AV.cells, AV.one, Value.oneCell', splice, AV.kill, AV.clean, cleanL, AV.only]) (by simp [enC, prC, AV.cells, AV.leaf, Value.oneCell', splice, AV.kill, AV.clean, cleanL, AV.only]) rfl ?_
              refine aops_any ?_
              refine aany_le ?_ hj
              exact le_mem ⟨rfl, rfl, rfl, rfl, rfl, trivial⟩ (by intro g; first | rfl | exact look_swap (by decide))
    ·
      refine ⟨_, rfl, rfl, ?_⟩
      refine aop_of_aops (ops := #[]) rfl ?_
      refine x_alloc hf rfl rfl rfl Try.z24 ?_
      refine aops_any ?_
      refine aany_step 1 [3, 4] (by kernel_rfl) ⟨?_, ?_, ?_, trivial⟩
      ·
        refine ⟨_, rfl, rfl, ?_⟩
        refine aop_of_aops (ops := #[]) rfl ?_
        first | refine x_pure rfl (p_loads rfl Try.g24 Try.c24 rfl rfl) ?_ | refine x_pure rfl (p_loadsr rfl Try.g24 Try.c24 rfl rfl rfl) ?_
        refine aops_any ?_
        refine aany_step 3 [4] (by kernel_rfl) ⟨?_, ?_, trivial⟩
        ·
          refine ⟨_, rfl, rfl, ?_⟩
          refine aop_of_aops (ops := #[]) rfl ?_
          first | refine x_pure rfl (p_loads rfl Try.g24 Try.c24 rfl rfl) ?_ | refine x_pure rfl (p_loadsr rfl Try.g24 Try.c24 rfl rfl rfl) ?_
          refine aops_any ?_
          refine aany_step 4 [] (by kernel_rfl) ⟨?_, trivial⟩
          ·
            refine ⟨_, rfl, rfl, ?_⟩
            refine aop_of_aops (ops := #[]) rfl ?_
            refine x_alloc hf rfl rfl rfl Try.z24 ?_
            refine aops_any ?_
            refine aany_step 6 [] (by kernel_rfl) ⟨?_, trivial⟩
            ·
              refine ⟨_, rfl, rfl, ?_⟩
              refine aop_of_aops (ops := #[]) rfl ?_
              refine x_store hf rfl rfl Try.c24 rfl rfl (by simp [enC, prC, AV.cells, AV.one, Value.oneCell', splice, AV.kill, AV.clean, cleanL, AV.only]) (by simp [enC, prC, AV.cells, AV.leaf, Value.oneCell', splice, AV.kill, AV.clean, cleanL, AV.only]) rfl ?_
              refine aops_any ?_
              refine aany_le ?_ hj
              exact le_mem ⟨rfl, rfl, rfl, rfl, rfl, trivial⟩ (by intro g; first | rfl | exact look_swap (by decide))
        ·
          refine ⟨_, rfl, rfl, ?_⟩
          refine aop_of_aops (ops := #[]) rfl ?_
          refine x_alloc hf rfl rfl rfl Try.z24 ?_
          refine aops_any ?_
          refine aany_step 3 [6] (by kernel_rfl) ⟨?_, ?_, trivial⟩
          ·
            refine ⟨_, rfl, rfl, ?_⟩
            refine aop_of_aops (ops := #[]) rfl ?_
            first | refine x_pure rfl (p_loads rfl Try.g24 Try.c24 rfl rfl) ?_ | refine x_pure rfl (p_loadsr rfl Try.g24 Try.c24 rfl rfl rfl) ?_
            refine aops_any ?_
            refine aany_step 6 [] (by kernel_rfl) ⟨?_, trivial⟩
            ·
              refine ⟨_, rfl, rfl, ?_⟩
              refine aop_of_aops (ops := #[]) rfl ?_
              refine x_store hf rfl rfl Try.c24 rfl rfl (by simp [enC, prC, AV.cells, AV.one, Value.oneCell', splice, AV.kill, AV.clean, cleanL, AV.only]) (by simp [enC, prC, AV.cells, AV.leaf, Value.oneCell', splice, AV.kill, AV.clean, cleanL, AV.only]) rfl ?_
              refine aops_any ?_
              refine aany_le ?_ hj
              exact le_mem ⟨rfl, rfl, rfl, rfl, rfl, trivial⟩ (by intro g; first | rfl | exact look_swap (by decide))
          ·
            refine ⟨_, rfl, rfl, ?_⟩
            refine aop_of_aops (ops := #[]) rfl ?_
            refine x_store hf rfl rfl Try.c24 rfl rfl (by simp [enC, prC, AV.cells, AV.one, Value.oneCell', splice, AV.kill, AV.clean, cleanL, AV.only]) (by simp [enC, prC, AV.cells, AV.leaf, Value.oneCell', splice, AV.kill, AV.clean, cleanL, AV.only]) rfl ?_
            refine aops_any ?_
            refine aany_step 3 [] (by kernel_rfl) ⟨?_, trivial⟩
            ·
              refine ⟨_, rfl, rfl, ?_⟩
              refine aop_of_aops (ops := #[]) rfl ?_
              first | refine x_pure rfl (p_loads rfl Try.g24 Try.c24 rfl rfl) ?_ | refine x_pure rfl (p_loadsr rfl Try.g24 Try.c24 rfl rfl rfl) ?_
              refine aops_any ?_
              refine aany_le ?_ hj
              exact le_mem ⟨rfl, rfl, rfl, rfl, rfl, trivial⟩ (by intro g; first | rfl | exact look_swap (by decide))
      ·
        refine ⟨_, rfl, rfl, ?_⟩
        refine aop_of_aops (ops := #[]) rfl ?_
        first | refine x_pure rfl (p_loads rfl Try.g24 Try.c24 rfl rfl) ?_ | refine x_pure rfl (p_loadsr rfl Try.g24 Try.c24 rfl rfl rfl) ?_
        refine aops_any ?_
        refine aany_step 1 [4] (by kernel_rfl) ⟨?_, ?_, trivial⟩
        ·
          refine ⟨_, rfl, rfl, ?_⟩
          refine aop_of_aops (ops := #[]) rfl ?_
          first | refine x_pure rfl (p_loads rfl Try.g24 Try.c24 rfl rfl) ?_ | refine x_pure rfl (p_loadsr rfl Try.g24 Try.c24 rfl rfl rfl) ?_
          refine aops_any ?_
          refine aany_step 4 [] (by kernel_rfl) ⟨?_, trivial⟩
          ·
            refine ⟨_, rfl, rfl, ?_⟩
            refine aop_of_aops (ops := #[]) rfl ?_
            refine x_alloc hf rfl rfl rfl Try.z24 ?_
            refine aops_any ?_
            refine aany_step 6 [] (by kernel_rfl) ⟨?_, trivial⟩
            ·
              refine ⟨_, rfl, rfl, ?_⟩
              refine aop_of_aops (ops := #[]) rfl ?_
              refine x_store hf rfl rfl Try.c24 rfl rfl (by simp [enC, prC, AV.cells, AV.one, Value.oneCell', splice, AV.kill, AV.clean, cleanL, AV.only]) (by simp [enC, prC, AV.cells, AV.leaf, Value.oneCell', splice, AV.kill, AV.clean, cleanL, AV.only]) rfl ?_
              refine aops_any ?_
              refine aany_le ?_ hj
              exact le_mem ⟨rfl, rfl, rfl, rfl, rfl, trivial⟩ (by intro g; first | rfl | exact look_swap (by decide))
        ·
          refine ⟨_, rfl, rfl, ?_⟩
          refine aop_of_aops (ops := #[]) rfl ?_
          refine x_alloc hf rfl rfl rfl Try.z24 ?_
          refine aops_any ?_
          refine aany_step 1 [] (by kernel_rfl) ⟨?_, trivial⟩
          ·
            refine ⟨_, rfl, rfl, ?_⟩
            refine aop_of_aops (ops := #[]) rfl ?_
            first | refine x_pure rfl (p_loads rfl Try.g24 Try.c24 rfl rfl) ?_ | refine x_pure rfl (p_loadsr rfl Try.g24 Try.c24 rfl rfl rfl) ?_
            refine aops_any ?_
            refine aany_step 6 [] (by kernel_rfl) ⟨?_, trivial⟩
            ·
              refine ⟨_, rfl, rfl, ?_⟩
              refine aop_of_aops (ops := #[]) rfl ?_
              refine x_store hf rfl rfl Try.c24 rfl rfl (by simp [enC, prC, AV.cells, AV.one, Value.oneCell', splice, AV.kill, AV.clean, cleanL, AV.only]) (by simp [enC, prC, AV.cells, AV.leaf, Value.oneCell', splice, AV.kill, AV.clean, cleanL, AV.only]) rfl ?_
              refine aops_any ?_
              refine aany_le ?_ hj
              exact le_mem ⟨rfl, rfl, rfl, rfl, rfl, trivial⟩ (by intro g; first | rfl | exact look_swap (by decide))
      ·
        refine ⟨_, rfl, rfl, ?_⟩
        refine aop_of_aops (ops := #[]) rfl ?_
        refine x_alloc hf rfl rfl rfl Try.z24 ?_
        refine aops_any ?_
        refine aany_step 1 [3] (by kernel_rfl) ⟨?_, ?_, trivial⟩
        ·
          refine ⟨_, rfl, rfl, ?_⟩
          refine aop_of_aops (ops := #[]) rfl ?_
          first | refine x_pure rfl (p_loads rfl Try.g24 Try.c24 rfl rfl) ?_ | refine x_pure rfl (p_loadsr rfl Try.g24 Try.c24 rfl rfl rfl) ?_
          refine aops_any ?_
          refine aany_step 3 [6] (by kernel_rfl) ⟨?_, ?_, trivial⟩
          ·
            refine ⟨_, rfl, rfl, ?_⟩
            refine aop_of_aops (ops := #[]) rfl ?_
            first | refine x_pure rfl (p_loads rfl Try.g24 Try.c24 rfl rfl) ?_ | refine x_pure rfl (p_loadsr rfl Try.g24 Try.c24 rfl rfl rfl) ?_
            refine aops_any ?_
            refine aany_step 6 [] (by kernel_rfl) ⟨?_, trivial⟩
            ·
              refine ⟨_, rfl, rfl, ?_⟩
              refine aop_of_aops (ops := #[]) rfl ?_
              refine x_store hf rfl rfl Try.c24 rfl rfl (by simp [enC, prC, AV.cells, AV.one, Value.oneCell', splice, AV.kill, AV.clean, cleanL, AV.only]) (by simp [enC, prC, AV.cells, AV.leaf, Value.oneCell', splice, AV.kill, AV.clean, cleanL, AV.only]) rfl ?_
              refine aops_any ?_
              refine aany_le ?_ hj
              exact le_mem ⟨rfl, rfl, rfl, rfl, rfl, trivial⟩ (by intro g; first | rfl | exact look_swap (by decide))
          ·
            refine ⟨_, rfl, rfl, ?_⟩
            refine aop_of_aops (ops := #[]) rfl ?_
            refine x_store hf rfl rfl Try.c24 rfl rfl (by simp [enC, prC, AV.cells, AV.one, Value.oneCell', splice, AV.kill, AV.clean, cleanL, AV.only]) (by simp [enC, prC, AV.cells, AV.leaf, Value.oneCell', splice, AV.kill, AV.clean, cleanL, AV.only]) rfl ?_
            refine aops_any ?_
            refine aany_step 3 [] (by kernel_rfl) ⟨?_, trivial⟩
            ·
              refine ⟨_, rfl, rfl, ?_⟩
              refine aop_of_aops (ops := #[]) rfl ?_
              first | refine x_pure rfl (p_loads rfl Try.g24 Try.c24 rfl rfl) ?_ | refine x_pure rfl (p_loadsr rfl Try.g24 Try.c24 rfl rfl rfl) ?_
              refine aops_any ?_
              refine aany_le ?_ hj
              exact le_mem ⟨rfl, rfl, rfl, rfl, rfl, trivial⟩ (by intro g; first | rfl | exact look_swap (by decide))
        ·
          refine ⟨_, rfl, rfl, ?_⟩
          refine aop_of_aops (ops := #[]) rfl ?_
          first | refine x_pure rfl (p_loads rfl Try.g24 Try.c24 rfl rfl) ?_ | refine x_pure rfl (p_loadsr rfl Try.g24 Try.c24 rfl rfl rfl) ?_
          refine aops_any ?_
          refine aany_step 1 [] (by kernel_rfl) ⟨?_, trivial⟩
          ·
            refine ⟨_, rfl, rfl, ?_⟩
            refine aop_of_aops (ops := #[]) rfl ?_
            first | refine x_pure rfl (p_loads rfl Try.g24 Try.c24 rfl rfl) ?_ | refine x_pure rfl (p_loadsr rfl Try.g24 Try.c24 rfl rfl rfl) ?_
            refine aops_any ?_
            refine aany_step 6 [] (by kernel_rfl) ⟨?_, trivial⟩
            ·
              refine ⟨_, rfl, rfl, ?_⟩
              refine aop_of_aops (ops := #[]) rfl ?_
              refine x_store hf rfl rfl Try.c24 rfl rfl (by simp [enC, prC, AV.cells, AV.one, Value.oneCell', splice, AV.kill, AV.clean, cleanL, AV.only]) (by simp [enC, prC, AV.cells, AV.leaf, Value.oneCell', splice, AV.kill, AV.clean, cleanL, AV.only]) rfl ?_
              refine aops_any ?_
              refine aany_le ?_ hj
              exact le_mem ⟨rfl, rfl, rfl, rfl, rfl, trivial⟩ (by intro g; first | rfl | exact look_swap (by decide))
  refine aany_step 7 [] (by kernel_rfl) ⟨?_, trivial⟩
  ·
    refine ⟨_, rfl, rfl, ?_⟩
    refine aop_of_aops (ops := #[]) rfl ?_
    refine x_store hf rfl rfl Try.c24 rfl rfl (by simp [enC, prC, AV.cells, AV.one, Value.oneCell', splice, AV.kill, AV.clean, cleanL, AV.only]) (by simp [enC, prC, AV.cells, AV.leaf, Value.oneCell', splice, AV.kill, AV.clean, cleanL, AV.only]) rfl ?_
    refine aops_any ?_
    refine aany_end (by kernel_rfl) ?_
    refine hK2 _ ?_
    refine aw_seq_k (fun K3 hK3 => ?_)
    refine aw_seq_k (fun K4 hK4 => ?_)
    refine aw_region ?_
    refine aops_le (le_freeze (sl' := [(0, .sl 4 (l.map enC)), (2, .s (.int .i64 t)), (7, .adr (prC p)), (8, .adr (prC q))]) ⟨⟨_, rfl, rfl⟩, ⟨_, rfl, rfl⟩, ⟨_, rfl, rfl⟩, ⟨_, rfl, rfl⟩, trivial⟩) ?_
    refine x_pure rfl (p_move rfl) ?_
    first | refine x_pure rfl (p_len_sl rfl Try.e22) ?_ | refine x_pure rfl (p_len_own rfl Try.e22) ?_ | refine x_pure rfl (p_len_nil rfl Try.e22) ?_
    refine x_pure rfl (p_bin rfl rfl rfl) ?_
    refine x_pure rfl (p_move rfl) ?_
    refine y_guard_s rfl rfl rfl (fun hg1 => ?_) (fun hg1 => ?_)
    ·
      try simp only [Bool.not_eq_true', Bool.not_eq_false', Bool.not_true, Bool.not_false, Bool.not_not, decide_eq_true_eq, decide_eq_false_iff_not, beq_iff_eq, beq_eq_false_iff_ne, bne_iff_ne, bne_eq_false_iff_eq, ne_eq, Int.not_lt, Int.not_le, Nat.not_lt, Nat.not_le, gt_iff_lt, ge_iff_le, Bool.and_eq_true, Bool.or_eq_true, Int.ofNat_lt, Int.ofNat_le, Int.natCast_inj, List.length_map, List.length_cons, List.length_nil, List.length_append] at hg1
      first | refine x_pure rfl (p_loads rfl Try.g24 Try.c24 rfl rfl) ?_ | refine x_pure rfl (p_loadsr rfl Try.g24 Try.c24 rfl rfl rfl) ?_
      refine x_guard_t rfl rfl rfl ?_
      first | refine x_pure rfl (p_loads rfl Try.g24 Try.c24 rfl rfl) ?_ | refine x_pure rfl (p_loadsr rfl Try.g24 Try.c24 rfl rfl rfl) ?_
      refine x_guard_t rfl rfl rfl ?_
      refine x_pure rfl (p_eqagg rfl rfl Try.q24 (aeq_pr (x := p) (y := q))) ?_
      refine x_pure rfl (p_pick_f rfl rfl) ?_
      first | refine aops_end ?_ | refine aops_nil ?_
      refine hK4 _ ?_
      refine aw_cond_s rfl (fun hc2 => ?_) (fun hc2 => ?_)
      ·
        try simp only [Bool.not_eq_true', Bool.not_eq_false', Bool.not_true, Bool.not_false, Bool.not_not, decide_eq_true_eq, decide_eq_false_iff_not, beq_iff_eq, beq_eq_false_iff_ne, bne_iff_ne, bne_eq_false_iff_eq, ne_eq, Int.not_lt, Int.not_le, Nat.not_lt, Nat.not_le, gt_iff_lt, ge_iff_le, Bool.and_eq_true, Bool.or_eq_true, Int.ofNat_lt, Int.ofNat_le, Int.natCast_inj, List.length_map, List.length_cons, List.length_nil, List.length_append] at hc2
        refine aw_seq_k (fun K5 hK5 => ?_)
        refine aw_region ?_
        refine x_step hf rfl (r_call rfl rfl Try.ent10 rfl (alive9_den)) ?_
        refine x_pure rfl (p_assign rfl) ?_
        first | refine aops_end ?_ | refine aops_nil ?_
        refine hK5 _ ?_
        refine aw_ret ?_
        refine ⟨_, rfl, ?_⟩
        rfl
      ·
        try simp only [Bool.not_eq_true', Bool.not_eq_false', Bool.not_true, Bool.not_false, Bool.not_not, decide_eq_true_eq, decide_eq_false_iff_not, beq_iff_eq, beq_eq_false_iff_ne, bne_iff_ne, bne_eq_false_iff_eq, ne_eq, Int.not_lt, Int.not_le, Nat.not_lt, Nat.not_le, gt_iff_lt, ge_iff_le, Bool.and_eq_true, Bool.or_eq_true, Int.ofNat_lt, Int.ofNat_le, Int.natCast_inj, List.length_map, List.length_cons, List.length_nil, List.length_append] at hc2
        refine aw_skip ?_
        refine hK3 _ ?_
        refine aw_seq_k (fun K6 hK6 => ?_)
        refine aw_region ?_
        have hpq : p ≠ q := by assumption
        have hq1 := periods_len l q
        have hgl := grant_len (l := l) (p := p) (t := t)
        have hrl := revL_len p t l
        refine x_pure rfl (p_move rfl) ?_
        refine x_step hf rfl (r_call rfl rfl Try.ent11 rfl (news9_den _ (by omega))) ?_
        refine x_pure rfl (p_assign rfl) ?_
        first | refine aops_end ?_ | refine aops_nil ?_
        refine hK6 _ ?_
        refine aw_seq_k (fun K7 hK7 => ?_)
        refine aw_region ?_
        refine x_pure rfl (p_move rfl) ?_
        first | refine x_pure rfl (p_loads rfl Try.g24 Try.c24 rfl rfl) ?_ | refine x_pure rfl (p_loadsr rfl Try.g24 Try.c24 rfl rfl rfl) ?_
        refine x_step hf rfl (r_call rfl rfl Try.ent22 rfl (periods_den _ _ (by omega))) ?_
        refine x_pure rfl (p_assign rfl) ?_
        first | refine aops_end ?_ | refine aops_nil ?_
        refine hK7 _ ?_
        refine aw_seq_k (fun K8 hK8 => ?_)
        refine aw_region ?_
        refine x_pure rfl (p_move rfl) ?_
        first | refine x_pure rfl (p_loads rfl Try.g24 Try.c24 rfl rfl) ?_ | refine x_pure rfl (p_loadsr rfl Try.g24 Try.c24 rfl rfl rfl) ?_
        refine x_pure rfl (p_move rfl) ?_
        refine x_step hf rfl (r_call rfl rfl Try.ent12 rfl ((show Den Try.prog _ _ (· = .tup [.sl 4 (List.map enC (grantL l p t)), .s (.int .i64 0)]) from den_is (grant_den l p t (by omega)) (by rw [hon]; rfl)))) ?_
        refine x_pure rfl (p_move rfl) ?_
        refine x_pure rfl (p_extract rfl rfl) ?_
        refine x_pure rfl (p_extract rfl rfl) ?_
        refine x_pure rfl (p_assign rfl) ?_
        refine x_pure rfl (p_assign rfl) ?_
        first | refine aops_end ?_ | refine aops_nil ?_
        refine hK8 _ ?_
        refine aw_seq_k (fun K9 hK9 => ?_)
        refine aw_region ?_
        refine x_pure rfl (p_move rfl) ?_
        first | refine x_pure rfl (p_loads rfl Try.g24 Try.c24 rfl rfl) ?_ | refine x_pure rfl (p_loadsr rfl Try.g24 Try.c24 rfl rfl rfl) ?_
        refine x_pure rfl (p_move rfl) ?_
        refine x_step hf rfl (r_call rfl rfl Try.ent14 rfl ((show Den Try.prog _ _ (· = .tup [.sl 4 (List.map enC []), .s (.int .i64 91)]) from den_is (revoke_den l p t (by omega)) (by rw [hon]; rfl)))) ?_
        refine x_pure rfl (p_move rfl) ?_
        refine x_pure rfl (p_extract rfl rfl) ?_
        refine x_pure rfl (p_extract rfl rfl) ?_
        refine x_pure rfl (p_assign rfl) ?_
        refine x_pure rfl (p_assign rfl) ?_
        first | refine aops_end ?_ | refine aops_nil ?_
        refine hK9 _ ?_
        refine aw_seq_k (fun K10 hK10 => ?_)
        refine aw_region ?_
        refine x_step hf rfl (r_call rfl rfl Try.ent10 rfl (alive9_den)) ?_
        refine x_pure rfl (p_move rfl) ?_
        refine x_guard_t rfl rfl rfl ?_
        refine x_pure rfl (p_move rfl) ?_
        refine x_guard_t rfl rfl rfl ?_
        refine x_pure rfl (p_bin rfl rfl rfl) ?_
        refine x_guard_t rfl rfl rfl ?_
        refine x_pure rfl (p_move rfl) ?_
        refine x_guard_t rfl rfl rfl ?_
        refine x_pure rfl (p_move rfl) ?_
        refine x_guard_t rfl rfl rfl ?_
        first | refine x_pure rfl (p_loads rfl Try.g24 Try.c24 rfl rfl) ?_ | refine x_pure rfl (p_loadsr rfl Try.g24 Try.c24 rfl rfl rfl) ?_
        refine x_guard_t rfl rfl rfl ?_
        refine x_step hf rfl (r_call rfl rfl Try.ent22 rfl (periods_den _ _ (by omega))) ?_
        refine x_guard_t rfl rfl rfl ?_
        refine x_pure rfl (p_move rfl) ?_
        refine x_guard_t rfl rfl rfl ?_
        refine x_step hf rfl (r_call rfl rfl Try.ent31 rfl (sameT_den _ _ (periods_grant hpq l) (by rw [periods_grant hpq]; omega))) ?_
        refine x_guard_t rfl rfl rfl ?_
        refine x_pure rfl (p_pick_f rfl rfl) ?_
        refine x_pure rfl (p_pick_t rfl rfl) ?_
        refine x_pure rfl (p_move rfl) ?_
        refine x_guard_t rfl rfl rfl ?_
        refine x_pure rfl (p_move rfl) ?_
        refine x_guard_t rfl rfl rfl ?_
        refine x_pure rfl (p_bin rfl rfl rfl) ?_
        refine x_guard_t rfl rfl rfl ?_
        refine x_pure rfl (p_move rfl) ?_
        refine x_guard_f rfl rfl rfl ?_
        refine x_guard_f rfl rfl rfl ?_
        refine x_guard_f rfl rfl rfl ?_
        refine x_guard_f rfl rfl rfl ?_
        refine x_guard_f rfl rfl rfl ?_
        refine x_guard_t rfl rfl rfl ?_
        refine x_pure rfl (p_pick_t rfl rfl) ?_
        refine x_pure rfl (p_pick_t rfl rfl) ?_
        refine x_pure rfl (p_move rfl) ?_
        refine x_guard_t rfl rfl rfl ?_
        refine x_pure rfl (p_move rfl) ?_
        refine x_guard_t rfl rfl rfl ?_
        refine x_pure rfl (p_bin rfl rfl rfl) ?_
        refine x_guard_t rfl rfl rfl ?_
        refine x_pure rfl (p_move rfl) ?_
        refine x_guard_t rfl rfl rfl ?_
        refine x_pure rfl (p_bin rfl rfl rfl) ?_
        refine x_guard_t rfl rfl rfl ?_
        refine x_pure rfl (p_bin rfl rfl rfl) ?_
        refine x_pure rfl (p_pick_t rfl rfl) ?_
        refine x_pure rfl (p_assign rfl) ?_
        first | refine aops_end ?_ | refine aops_nil ?_
        refine hK10 _ ?_
        refine aw_ret ?_
        refine ⟨_, rfl, ?_⟩
        rfl
    ·
      try simp only [Bool.not_eq_true', Bool.not_eq_false', Bool.not_true, Bool.not_false, Bool.not_not, decide_eq_true_eq, decide_eq_false_iff_not, beq_iff_eq, beq_eq_false_iff_ne, bne_iff_ne, bne_eq_false_iff_eq, ne_eq, Int.not_lt, Int.not_le, Nat.not_lt, Nat.not_le, gt_iff_lt, ge_iff_le, Bool.and_eq_true, Bool.or_eq_true, Int.ofNat_lt, Int.ofNat_le, Int.natCast_inj, List.length_map, List.length_cons, List.length_nil, List.length_append] at hg1
      refine x_guard_f rfl rfl rfl ?_
      refine x_guard_f rfl rfl rfl ?_
      refine x_pure rfl (p_pick_t rfl rfl) ?_
      first | refine aops_end ?_ | refine aops_nil ?_
      refine hK4 _ ?_
      refine aw_cond_t rfl ?_
      refine aw_seq_k (fun K11 hK11 => ?_)
      refine aw_region ?_
      refine x_step hf rfl (r_call rfl rfl Try.ent10 rfl (alive9_den)) ?_
      refine x_pure rfl (p_assign rfl) ?_
      first | refine aops_end ?_ | refine aops_nil ?_
      refine hK11 _ ?_
      refine aw_ret ?_
      refine ⟨_, rfl, ?_⟩
      rfl

theorem subsOthers_den (l : List En) (p q : Pr) (t : Int) (hl : l.length * 48 ≤ 140737488351232) : Den Try.prog 7 [.sl 4 (l.map enC), .agg (prC p ++ prC q), .s (.int .i64 t)] (· = .s (.bool true)) := by
  cases hon : onB l p
  · exact subsOthersOff_den l p q t hl hon
  · exact subsOthersOn_den l p q t hl hon
end Go.Proofs.Ytblbkjdfgpffpaa
