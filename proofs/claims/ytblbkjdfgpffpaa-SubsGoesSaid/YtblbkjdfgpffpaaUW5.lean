import Derived.Test.YtblbkjdfgpffpaaUW3
set_option linter.unusedVariables false
set_option linter.unusedSimpArgs false
namespace Go.Proofs.Ytblbkjdfgpffpaa
open Go Go.Abs

set_option maxRecDepth 20000 in
set_option maxHeartbeats 4000000 in
theorem rising_den (l : List En) (hl : l.length ≤ 9223372036854775807) (ht : ∀ e ∈ l, TS e.1.1 ∧ TS e.1.2)  : Den Try.prog 28 [.sl 4 (l.map enC)]  (· = .s (.bool (risE l))) := by
 refine den_of_aw Try.func28 rfl (Nat.le_of_ble_eq_true rfl) (fun w0 A hf => ?_)
 refine aw_seq_k (fun K1 hK1 => ?_)
 refine aw_region ?_
 refine x_pure rfl (p_assign_bad) ?_
 first | refine aops_end ?_ | refine aops_nil ?_
 refine hK1 _ ?_
 refine aw_seq_k (fun K2 hK2 => ?_)
 refine aw_seq_k (fun K3 hK3 => ?_)
 refine aw_region ?_
 refine x_pure rfl (p_move rfl) ?_
 first | refine x_pure rfl (p_len_sl rfl Try.e26) ?_ | refine x_pure rfl (p_len_own rfl Try.e26) ?_ | refine x_pure rfl (p_len_nil rfl Try.e26) ?_
 refine x_pure rfl (p_move rfl) ?_
 first | refine aops_end ?_ | refine aops_nil ?_
 refine hK3 _ ?_
 refine aw_block ?_
 refine aw_loop (ι := Nat) (fun k => ⟨58, [(0, .sl 4 (l.map enC)), (5, .sl 4 (l.map enC)), (6, .s (.int .i64 ((l.map enC).length : Nat))), (7, .s (.int .i64 (k : Nat)))], []⟩) (fun k => k ≤ l.length ∧ risE l = risP okE nextE (prevAt l k) (l.drop k)) (fun k => l.length - k) 0 ?_ ?_ ?_
 · exact ⟨Nat.zero_le _, rfl⟩
 · exact le_of ⟨rfl, rfl, rfl, rfl, trivial⟩
 ·
  rintro k hC
  obtain ⟨h1, h2⟩ := hC
  refine aw_seq_k (fun K4 hK4 => ?_)
  refine aw_region ?_
  refine x_pure rfl (p_bin rfl rfl rfl) ?_
  first | refine aops_end ?_ | refine aops_nil ?_
  refine hK4 _ ?_
  refine aw_seq_k (fun K5 hK5 => ?_)
  refine aw_cond_s rfl (fun hc1 => ?_) (fun hc1 => ?_)
  ·
   try simp only [Bool.not_eq_true', Bool.not_eq_false', Bool.not_true, Bool.not_false, Bool.not_not, decide_eq_true_eq, decide_eq_false_iff_not, beq_iff_eq, beq_eq_false_iff_ne, bne_iff_ne, bne_eq_false_iff_eq, ne_eq, Int.not_lt, Int.not_le, Nat.not_lt, Nat.not_le, gt_iff_lt, ge_iff_le, Bool.and_eq_true, Bool.or_eq_true, Int.ofNat_lt, Int.ofNat_le, Int.natCast_inj, List.length_map, List.length_cons, List.length_nil, List.length_append] at hc1
   refine aw_skip ?_
   refine hK5 _ ?_
   refine aw_seq_k (fun K6 hK6 => ?_)
   refine aw_block ?_
   refine aw_seq_k (fun K7 hK7 => ?_)
   refine aw_region ?_
   refine x_pure rfl (p_move rfl) ?_
   first | refine x_pure rfl (p_idx_sl rfl rfl Try.e26 Try.c63 (by first | assumption | (refine ⟨by omega, ?_⟩; first | assumption | exact strs_at (by omega) | exact strs_at (by simp only [List.length_cons] at *; omega) | exact ints_at (by omega) | exact map_at (by omega) | exact list_at (by omega)) | exact ⟨by decide, rfl⟩)) ?_ | refine x_pure rfl (p_idx_own rfl rfl Try.e26 Try.c63 (by omega)) ?_
   first | refine x_pure rfl (p_loads rfl Try.g63 Try.c63 rfl rfl) ?_ | refine x_pure rfl (p_loadsr rfl Try.g63 Try.c63 rfl rfl rfl) ?_
   refine x_alloc hf rfl rfl rfl Try.z63 ?_
   refine x_pure rfl (p_assign rfl) ?_
   refine x_store hf rfl rfl Try.c63 rfl rfl (by simp [enC, prC, spC, AV.cells, AV.one, Value.oneCell', splice, AV.kill, AV.clean, cleanL, AV.only]) (by simp [enC, prC, spC, AV.cells, AV.leaf, Value.oneCell', splice, AV.kill, AV.clean, cleanL, AV.only]) rfl ?_
   refine aops_le (le_keep (nee 4) (sl' := [(0, _), (3, _), (4, _), (5, _), (6, _), (7, _)]) (m' := []) ⟨⟨_, rfl, rfl⟩, ⟨_, rfl, rfl⟩, ⟨_, rfl, rfl⟩, ⟨_, rfl, rfl⟩, ⟨_, rfl, rfl⟩, ⟨_, rfl, rfl⟩, trivial⟩ rfl) ?_
   first | refine aops_end ?_ | refine aops_nil ?_
   refine hK7 _ ?_
   refine aw_seq_k (fun K8 hK8 => ?_)
   refine aw_seq_k (fun K9 hK9 => ?_)
   refine aw_region ?_
   first | refine x_pure rfl (p_fld_adr rfl Try.fd63_1 Try.c60 rfl) ?_ | refine x_pure rfl (p_fld_ref rfl Try.fd63_1 Try.c60 rfl) ?_
   first | refine x_pure rfl (p_loads rfl Try.g60 Try.c60 rfl rfl) ?_ | refine x_pure rfl (p_loadsr rfl Try.g60 Try.c60 rfl rfl rfl) ?_
   refine x_step hf rfl (r_call rfl rfl Try.ent43 rfl (none_den _)) ?_
   refine x_pure rfl (p_move rfl) ?_
   refine y_guard_s rfl rfl rfl (fun hg2 => ?_) (fun hg2 => ?_)
   ·
    try simp only [Bool.not_eq_true', Bool.not_eq_false', Bool.not_true, Bool.not_false, Bool.not_not, decide_eq_true_eq, decide_eq_false_iff_not, beq_iff_eq, beq_eq_false_iff_ne, bne_iff_ne, bne_eq_false_iff_eq, ne_eq, Int.not_lt, Int.not_le, Nat.not_lt, Nat.not_le, gt_iff_lt, ge_iff_le, Bool.and_eq_true, Bool.or_eq_true, Int.ofNat_lt, Int.ofNat_le, Int.natCast_inj, List.length_map, List.length_cons, List.length_nil, List.length_append] at hg2
    first | refine x_pure rfl (p_fld_adr rfl Try.fd63_0 Try.c31 rfl) ?_ | refine x_pure rfl (p_fld_ref rfl Try.fd63_0 Try.c31 rfl) ?_
    refine x_guard_t rfl rfl rfl ?_
    first | refine x_pure rfl (p_loads rfl Try.g31 Try.c31 rfl rfl) ?_ | refine x_pure rfl (p_loadsr rfl Try.g31 Try.c31 rfl rfl rfl) ?_
    refine x_guard_t rfl rfl rfl ?_
    refine x_step hf rfl (r_call rfl rfl Try.ent32 rfl (Nm.pairRight_den _ _ (ht _ (List.getElem_mem _)).1 (ht _ (List.getElem_mem _)).2)) ?_
    refine x_guard_t rfl rfl rfl ?_
    refine x_pure rfl (p_not rfl) ?_
    refine x_pure rfl (p_pick_f rfl rfl) ?_
    first | refine aops_end ?_ | refine aops_nil ?_
    refine hK9 _ ?_
    refine aw_cond_s rfl (fun hc3 => ?_) (fun hc3 => ?_)
    ·
     try simp only [Bool.not_eq_true', Bool.not_eq_false', Bool.not_true, Bool.not_false, Bool.not_not, decide_eq_true_eq, decide_eq_false_iff_not, beq_iff_eq, beq_eq_false_iff_ne, bne_iff_ne, bne_eq_false_iff_eq, ne_eq, Int.not_lt, Int.not_le, Nat.not_lt, Nat.not_le, gt_iff_lt, ge_iff_le, Bool.and_eq_true, Bool.or_eq_true, Int.ofNat_lt, Int.ofNat_le, Int.natCast_inj, List.length_map, List.length_cons, List.length_nil, List.length_append] at hc3
     refine aw_seq_k (fun K10 hK10 => ?_)
     refine aw_region ?_
     refine x_pure rfl (p_assign rfl) ?_
     first | refine aops_end ?_ | refine aops_nil ?_
     refine hK10 _ ?_
     refine aw_ret ?_
     refine ⟨_, rfl, ?_⟩
     refine ret_bool ?_
     rw [ris_bad1 h2 (by omega) (okE_f (by first | exact .inl (by omega) | exact .inr (.inl (by assumption)) | exact .inr (.inr (.inl (by assumption))) | exact .inr (.inr (.inr (by assumption))) | (simp_all; done)))]
    ·
     try simp only [Bool.not_eq_true', Bool.not_eq_false', Bool.not_true, Bool.not_false, Bool.not_not, decide_eq_true_eq, decide_eq_false_iff_not, beq_iff_eq, beq_eq_false_iff_ne, bne_iff_ne, bne_eq_false_iff_eq, ne_eq, Int.not_lt, Int.not_le, Nat.not_lt, Nat.not_le, gt_iff_lt, ge_iff_le, Bool.and_eq_true, Bool.or_eq_true, Int.ofNat_lt, Int.ofNat_le, Int.natCast_inj, List.length_map, List.length_cons, List.length_nil, List.length_append] at hc3
     refine aw_skip ?_
     refine hK8 _ ?_
     refine aw_seq_k (fun K11 hK11 => ?_)
     refine aw_draw hf Try.mixed (by kernel_rfl) rfl ?_
     refine d_pure [(3, _)] rfl rfl ⟨⟨rfl, rfl⟩, trivial⟩ rfl (p_move rfl) ?_
     refine d_pure [(21, _)] rfl rfl ⟨⟨rfl, rfl⟩, trivial⟩ rfl (p_bin rfl rfl rfl) ?_
     refine d_pure [(22, _)] rfl rfl ⟨⟨rfl, rfl⟩, trivial⟩ rfl (p_move rfl) ?_
     refine d_split 23 true rfl (fun hg4 => ?_) (fun hg4 => ?_)
     ·
      try simp only [Bool.not_eq_true', Bool.not_eq_false', Bool.not_true, Bool.not_false, Bool.not_not, decide_eq_true_eq, decide_eq_false_iff_not, beq_iff_eq, beq_eq_false_iff_ne, bne_iff_ne, bne_eq_false_iff_eq, ne_eq, Int.not_lt, Int.not_le, Nat.not_lt, Nat.not_le, gt_iff_lt, ge_iff_le, Bool.and_eq_true, Bool.or_eq_true, Int.ofNat_lt, Int.ofNat_le, Int.natCast_inj, List.length_map, List.length_cons, List.length_nil, List.length_append] at hg4
      refine d_pure [(0, _)] rfl rfl ⟨⟨rfl, rfl⟩, trivial⟩ rfl (p_move rfl) ?_
      refine d_pure [(3, _)] rfl rfl ⟨⟨rfl, rfl⟩, trivial⟩ rfl (p_move rfl) ?_
      first | refine d_pure [(25, _)] rfl rfl ⟨⟨rfl, rfl⟩, trivial⟩ rfl (p_sub rfl rfl (by omega) (by omega)) ?_ | refine d_pure [(25, _)] rfl rfl ⟨⟨rfl, rfl⟩, trivial⟩ rfl (p_bin rfl rfl rfl) ?_
      refine d_pure [(24, _), (26, _)] rfl rfl ⟨⟨rfl, rfl⟩, ⟨rfl, rfl⟩, trivial⟩ rfl (p_idx_sl rfl rfl Try.e26 Try.c63 (map_atZ (k := k - 1) (by omega) (by omega))) ?_
      first | refine d_pure [(27, _)] rfl rfl ⟨⟨rfl, rfl⟩, trivial⟩ rfl (p_loads rfl Try.g63 Try.c63 rfl rfl) ?_ | refine d_pure [(27, _)] rfl rfl ⟨⟨rfl, rfl⟩, trivial⟩ rfl (p_loadsr rfl Try.g63 Try.c63 rfl rfl rfl) ?_
      first | refine d_pure [(4, _)] rfl rfl ⟨⟨rfl, rfl⟩, trivial⟩ rfl (p_loads rfl Try.g63 Try.c63 rfl rfl) ?_ | refine d_pure [(4, _)] rfl rfl ⟨⟨rfl, rfl⟩, trivial⟩ rfl (p_loadsr rfl Try.g63 Try.c63 rfl rfl rfl) ?_
      refine d_rstep [(28, _), (29, _)] rfl rfl ⟨⟨rfl, rfl⟩, ⟨rfl, rfl⟩, trivial⟩ rfl (r_call rfl rfl Try.ent38 rfl (order_den _ _)) ?_
      refine d_pure [(30, _)] rfl rfl ⟨⟨rfl, rfl⟩, trivial⟩ rfl (p_bin rfl rfl rfl) ?_
      refine d_pure [(31, _)] rfl rfl ⟨⟨rfl, rfl⟩, trivial⟩ rfl (p_move rfl) ?_
      refine d_split 32 false rfl (fun hg5 => ?_) (fun hg5 => ?_)
      ·
       try simp only [Bool.not_eq_true', Bool.not_eq_false', Bool.not_true, Bool.not_false, Bool.not_not, decide_eq_true_eq, decide_eq_false_iff_not, beq_iff_eq, beq_eq_false_iff_ne, bne_iff_ne, bne_eq_false_iff_eq, ne_eq, Int.not_lt, Int.not_le, Nat.not_lt, Nat.not_le, gt_iff_lt, ge_iff_le, Bool.and_eq_true, Bool.or_eq_true, Int.ofNat_lt, Int.ofNat_le, Int.natCast_inj, List.length_map, List.length_cons, List.length_nil, List.length_append] at hg5
       refine d_pure [(0, _)] rfl rfl ⟨⟨rfl, rfl⟩, trivial⟩ rfl (p_move rfl) ?_
       refine d_pure [(3, _)] rfl rfl ⟨⟨rfl, rfl⟩, trivial⟩ rfl (p_move rfl) ?_
       first | refine d_pure [(34, _)] rfl rfl ⟨⟨rfl, rfl⟩, trivial⟩ rfl (p_sub rfl rfl (by omega) (by omega)) ?_ | refine d_pure [(34, _)] rfl rfl ⟨⟨rfl, rfl⟩, trivial⟩ rfl (p_bin rfl rfl rfl) ?_
       refine d_pure [(33, _), (35, _)] rfl rfl ⟨⟨rfl, rfl⟩, ⟨rfl, rfl⟩, trivial⟩ rfl (p_idx_sl rfl rfl Try.e26 Try.c63 (map_atZ (k := k - 1) (by omega) (by omega))) ?_
       first | refine d_pure [(36, _)] rfl rfl ⟨⟨rfl, rfl⟩, trivial⟩ rfl (p_fld_adr rfl Try.fd63_0 Try.c31 rfl) ?_ | refine d_pure [(36, _)] rfl rfl ⟨⟨rfl, rfl⟩, trivial⟩ rfl (p_fld_ref rfl Try.fd63_0 Try.c31 rfl) ?_
       first | refine d_pure [(37, _)] rfl rfl ⟨⟨rfl, rfl⟩, trivial⟩ rfl (p_loads rfl Try.g31 Try.c31 rfl rfl) ?_ | refine d_pure [(37, _)] rfl rfl ⟨⟨rfl, rfl⟩, trivial⟩ rfl (p_loadsr rfl Try.g31 Try.c31 rfl rfl rfl) ?_
       first | refine d_pure [(4, _)] rfl rfl ⟨⟨rfl, rfl⟩, trivial⟩ rfl (p_fld_adr rfl Try.fd63_0 Try.c31 rfl) ?_ | refine d_pure [(4, _)] rfl rfl ⟨⟨rfl, rfl⟩, trivial⟩ rfl (p_fld_ref rfl Try.fd63_0 Try.c31 rfl) ?_
       first | refine d_pure [(39, _)] rfl rfl ⟨⟨rfl, rfl⟩, trivial⟩ rfl (p_loads rfl Try.g31 Try.c31 rfl rfl) ?_ | refine d_pure [(39, _)] rfl rfl ⟨⟨rfl, rfl⟩, trivial⟩ rfl (p_loadsr rfl Try.g31 Try.c31 rfl rfl rfl) ?_
       refine d_pure [(38, _), (40, _)] rfl rfl ⟨⟨rfl, rfl⟩, ⟨rfl, rfl⟩, trivial⟩ rfl (p_eqagg rfl rfl Try.q31 (aeq_pr (x := l[k - 1].1) (y := l[k].1))) ?_
       refine d_pure [(41, _)] rfl rfl ⟨⟨rfl, rfl⟩, trivial⟩ rfl (p_move rfl) ?_
       refine d_split 42 true rfl (fun hg6 => ?_) (fun hg6 => ?_)
       ·
        try simp only [Bool.not_eq_true', Bool.not_eq_false', Bool.not_true, Bool.not_false, Bool.not_not, decide_eq_true_eq, decide_eq_false_iff_not, beq_iff_eq, beq_eq_false_iff_ne, bne_iff_ne, bne_eq_false_iff_eq, ne_eq, Int.not_lt, Int.not_le, Nat.not_lt, Nat.not_le, gt_iff_lt, ge_iff_le, Bool.and_eq_true, Bool.or_eq_true, Int.ofNat_lt, Int.ofNat_le, Int.natCast_inj, List.length_map, List.length_cons, List.length_nil, List.length_append] at hg6
        refine d_pure [(0, _)] rfl rfl ⟨⟨rfl, rfl⟩, trivial⟩ rfl (p_move rfl) ?_
        refine d_pure [(3, _)] rfl rfl ⟨⟨rfl, rfl⟩, trivial⟩ rfl (p_move rfl) ?_
        first | refine d_pure [(44, _)] rfl rfl ⟨⟨rfl, rfl⟩, trivial⟩ rfl (p_sub rfl rfl (by omega) (by omega)) ?_ | refine d_pure [(44, _)] rfl rfl ⟨⟨rfl, rfl⟩, trivial⟩ rfl (p_bin rfl rfl rfl) ?_
        refine d_pure [(43, _), (45, _)] rfl rfl ⟨⟨rfl, rfl⟩, ⟨rfl, rfl⟩, trivial⟩ rfl (p_idx_sl rfl rfl Try.e26 Try.c63 (map_atZ (k := k - 1) (by omega) (by omega))) ?_
        first | refine d_pure [(46, _)] rfl rfl ⟨⟨rfl, rfl⟩, trivial⟩ rfl (p_fld_adr rfl Try.fd63_1 Try.c60 rfl) ?_ | refine d_pure [(46, _)] rfl rfl ⟨⟨rfl, rfl⟩, trivial⟩ rfl (p_fld_ref rfl Try.fd63_1 Try.c60 rfl) ?_
        first | refine d_pure [(47, _)] rfl rfl ⟨⟨rfl, rfl⟩, trivial⟩ rfl (p_fld_adr rfl Try.fd60_1 Try.c3 rfl) ?_ | refine d_pure [(47, _)] rfl rfl ⟨⟨rfl, rfl⟩, trivial⟩ rfl (p_fld_ref rfl Try.fd60_1 Try.c3 rfl) ?_
        first | refine d_pure [(48, _)] rfl rfl ⟨⟨rfl, rfl⟩, trivial⟩ rfl (p_load1 rfl Try.g3 rfl) ?_ | refine d_pure [(48, _)] rfl rfl ⟨⟨rfl, rfl⟩, trivial⟩ rfl (p_load1r rfl Try.g3 rfl rfl) ?_ | refine d_pure [(48, _)] rfl rfl ⟨⟨rfl, rfl⟩, trivial⟩ rfl (p_load1r rfl Try.g3 rfl (strs_ref (by simp only [List.length_cons] at *; omega))) ?_ | refine d_pure [(48, _)] rfl rfl ⟨⟨rfl, rfl⟩, trivial⟩ rfl (p_load1r rfl Try.g3 rfl (strs_ref (by omega))) ?_
        first | refine d_pure [(4, _)] rfl rfl ⟨⟨rfl, rfl⟩, trivial⟩ rfl (p_fld_adr rfl Try.fd63_1 Try.c60 rfl) ?_ | refine d_pure [(4, _)] rfl rfl ⟨⟨rfl, rfl⟩, trivial⟩ rfl (p_fld_ref rfl Try.fd63_1 Try.c60 rfl) ?_
        first | refine d_pure [(50, _)] rfl rfl ⟨⟨rfl, rfl⟩, trivial⟩ rfl (p_fld_adr rfl Try.fd60_0 Try.c3 rfl) ?_ | refine d_pure [(50, _)] rfl rfl ⟨⟨rfl, rfl⟩, trivial⟩ rfl (p_fld_ref rfl Try.fd60_0 Try.c3 rfl) ?_
        first | refine d_pure [(51, _)] rfl rfl ⟨⟨rfl, rfl⟩, trivial⟩ rfl (p_load1 rfl Try.g3 rfl) ?_ | refine d_pure [(51, _)] rfl rfl ⟨⟨rfl, rfl⟩, trivial⟩ rfl (p_load1r rfl Try.g3 rfl rfl) ?_ | refine d_pure [(51, _)] rfl rfl ⟨⟨rfl, rfl⟩, trivial⟩ rfl (p_load1r rfl Try.g3 rfl (strs_ref (by simp only [List.length_cons] at *; omega))) ?_ | refine d_pure [(51, _)] rfl rfl ⟨⟨rfl, rfl⟩, trivial⟩ rfl (p_load1r rfl Try.g3 rfl (strs_ref (by omega))) ?_
        refine d_pure [(49, _), (52, _)] rfl rfl ⟨⟨rfl, rfl⟩, ⟨rfl, rfl⟩, trivial⟩ rfl (p_bin rfl rfl rfl) ?_
        refine d_pure [(42, _), (53, _)] rfl rfl ⟨⟨rfl, rfl⟩, ⟨rfl, rfl⟩, trivial⟩ rfl (p_pick_t rfl rfl) ?_
        refine d_pure [(32, _), (54, _)] rfl rfl ⟨⟨rfl, rfl⟩, ⟨rfl, rfl⟩, trivial⟩ rfl (p_pick_f rfl rfl) ?_
        refine d_pure [(23, _), (55, _)] rfl rfl ⟨⟨rfl, rfl⟩, ⟨rfl, rfl⟩, trivial⟩ rfl (p_pick_t rfl rfl) ?_
        refine lex_end (sl' := [(0, _), (5, _), (6, _), (7, _), (56, _)]) rfl ⟨rfl, rfl, rfl, rfl, rfl, trivial⟩ rfl ?_
        refine hK11 _ ?_
        refine aw_cond_s rfl (fun hc7 => ?_) (fun hc7 => ?_)
        ·
         try simp only [Bool.not_eq_true', Bool.not_eq_false', Bool.not_true, Bool.not_false, Bool.not_not, decide_eq_true_eq, decide_eq_false_iff_not, beq_iff_eq, beq_eq_false_iff_ne, bne_iff_ne, bne_eq_false_iff_eq, ne_eq, Int.not_lt, Int.not_le, Nat.not_lt, Nat.not_le, gt_iff_lt, ge_iff_le, Bool.and_eq_true, Bool.or_eq_true, Int.ofNat_lt, Int.ofNat_le, Int.natCast_inj, List.length_map, List.length_cons, List.length_nil, List.length_append] at hc7
         refine aw_seq_k (fun K12 hK12 => ?_)
         refine aw_region ?_
         refine x_pure rfl (p_assign rfl) ?_
         first | refine aops_end ?_ | refine aops_nil ?_
         refine hK12 _ ?_
         refine aw_ret ?_
         refine ⟨_, rfl, ?_⟩
         refine ret_bool ?_
         rw [ris_bad2 h2 (by omega) (by omega) (nextE_f (by first | exact .inl (by omega) | exact .inr ⟨by first | assumption | exact pr_ext (by assumption) (by assumption), by omega⟩))]
        ·
         try simp only [Bool.not_eq_true', Bool.not_eq_false', Bool.not_true, Bool.not_false, Bool.not_not, decide_eq_true_eq, decide_eq_false_iff_not, beq_iff_eq, beq_eq_false_iff_ne, bne_iff_ne, bne_eq_false_iff_eq, ne_eq, Int.not_lt, Int.not_le, Nat.not_lt, Nat.not_le, gt_iff_lt, ge_iff_le, Bool.and_eq_true, Bool.or_eq_true, Int.ofNat_lt, Int.ofNat_le, Int.natCast_inj, List.length_map, List.length_cons, List.length_nil, List.length_append] at hc7
         refine aw_skip ?_
         refine hK6 _ ?_
         refine aw_region ?_
         first | refine x_pure rfl (p_add rfl rfl (by omega) (by omega)) ?_ | refine x_pure rfl (p_bin rfl rfl rfl) ?_
         refine x_pure rfl (p_move rfl) ?_
         first | refine aops_end ?_ | refine aops_nil ?_
         exact ⟨k+1, ⟨by omega, ris_next h2 (by omega) (okE_t (by omega) (by simp_all) (by simp_all)) (fun h0 => nextE_t.2 ⟨by omega, fun e => by first | omega | exact absurd e (by assumption) | exact absurd e (ne_fst (by assumption)) | exact absurd e (ne_snd (by assumption))⟩)⟩, by omega, le_of ⟨rfl, rfl, rfl, rfl, trivial⟩⟩
       ·
        try simp only [Bool.not_eq_true', Bool.not_eq_false', Bool.not_true, Bool.not_false, Bool.not_not, decide_eq_true_eq, decide_eq_false_iff_not, beq_iff_eq, beq_eq_false_iff_ne, bne_iff_ne, bne_eq_false_iff_eq, ne_eq, Int.not_lt, Int.not_le, Nat.not_lt, Nat.not_le, gt_iff_lt, ge_iff_le, Bool.and_eq_true, Bool.or_eq_true, Int.ofNat_lt, Int.ofNat_le, Int.natCast_inj, List.length_map, List.length_cons, List.length_nil, List.length_append] at hg6
        refine d_skip rfl rfl ?_
        refine d_skip rfl rfl ?_
        refine d_skip rfl rfl ?_
        refine d_skip rfl rfl ?_
        refine d_skip rfl rfl ?_
        refine d_skip rfl rfl ?_
        refine d_skip rfl rfl ?_
        refine d_skip rfl rfl ?_
        refine d_skip rfl rfl ?_
        refine d_skip rfl rfl ?_
        refine d_skip rfl rfl ?_
        refine d_pure [(42, _), (53, _)] rfl rfl ⟨⟨rfl, rfl⟩, ⟨rfl, rfl⟩, trivial⟩ rfl (p_pick_f rfl rfl) ?_
        refine d_pure [(32, _), (54, _)] rfl rfl ⟨⟨rfl, rfl⟩, ⟨rfl, rfl⟩, trivial⟩ rfl (p_pick_f rfl rfl) ?_
        refine d_pure [(23, _), (55, _)] rfl rfl ⟨⟨rfl, rfl⟩, ⟨rfl, rfl⟩, trivial⟩ rfl (p_pick_t rfl rfl) ?_
        refine lex_end (sl' := [(0, _), (5, _), (6, _), (7, _), (56, _)]) rfl ⟨rfl, rfl, rfl, rfl, rfl, trivial⟩ rfl ?_
        refine hK11 _ ?_
        refine aw_cond_f rfl ?_
        refine aw_skip ?_
        refine hK6 _ ?_
        refine aw_region ?_
        first | refine x_pure rfl (p_add rfl rfl (by omega) (by omega)) ?_ | refine x_pure rfl (p_bin rfl rfl rfl) ?_
        refine x_pure rfl (p_move rfl) ?_
        first | refine aops_end ?_ | refine aops_nil ?_
        exact ⟨k+1, ⟨by omega, ris_next h2 (by omega) (okE_t (by omega) (by simp_all) (by simp_all)) (fun h0 => nextE_t.2 ⟨by omega, fun e => by first | omega | exact absurd e (by assumption) | exact absurd e (ne_fst (by assumption)) | exact absurd e (ne_snd (by assumption))⟩)⟩, by omega, le_of ⟨rfl, rfl, rfl, rfl, trivial⟩⟩
      ·
       try simp only [Bool.not_eq_true', Bool.not_eq_false', Bool.not_true, Bool.not_false, Bool.not_not, decide_eq_true_eq, decide_eq_false_iff_not, beq_iff_eq, beq_eq_false_iff_ne, bne_iff_ne, bne_eq_false_iff_eq, ne_eq, Int.not_lt, Int.not_le, Nat.not_lt, Nat.not_le, gt_iff_lt, ge_iff_le, Bool.and_eq_true, Bool.or_eq_true, Int.ofNat_lt, Int.ofNat_le, Int.natCast_inj, List.length_map, List.length_cons, List.length_nil, List.length_append] at hg5
       refine d_skip rfl rfl ?_
       refine d_skip rfl rfl ?_
       refine d_skip rfl rfl ?_
       refine d_skip rfl rfl ?_
       refine d_skip rfl rfl ?_
       refine d_skip rfl rfl ?_
       refine d_skip rfl rfl ?_
       refine d_skip rfl rfl ?_
       refine d_skip rfl rfl ?_
       refine d_skip rfl rfl ?_
       refine d_skip rfl rfl ?_
       refine d_skip rfl rfl ?_
       refine d_skip rfl rfl ?_
       refine d_skip rfl rfl ?_
       refine d_skip rfl rfl ?_
       refine d_skip rfl rfl ?_
       refine d_skip rfl rfl ?_
       refine d_skip rfl rfl ?_
       refine d_skip rfl rfl ?_
       refine d_skip rfl rfl ?_
       refine d_skip rfl rfl ?_
       refine d_skip rfl rfl ?_
       refine d_pure [(32, _), (54, _)] rfl rfl ⟨⟨rfl, rfl⟩, ⟨rfl, rfl⟩, trivial⟩ rfl (p_pick_t rfl rfl) ?_
       refine d_pure [(23, _), (55, _)] rfl rfl ⟨⟨rfl, rfl⟩, ⟨rfl, rfl⟩, trivial⟩ rfl (p_pick_t rfl rfl) ?_
       refine lex_end (sl' := [(0, _), (5, _), (6, _), (7, _), (56, _)]) rfl ⟨rfl, rfl, rfl, rfl, rfl, trivial⟩ rfl ?_
       refine hK11 _ ?_
       refine aw_cond_t rfl ?_
       refine aw_seq_k (fun K13 hK13 => ?_)
       refine aw_region ?_
       refine x_pure rfl (p_assign rfl) ?_
       first | refine aops_end ?_ | refine aops_nil ?_
       refine hK13 _ ?_
       refine aw_ret ?_
       refine ⟨_, rfl, ?_⟩
       refine ret_bool ?_
       rw [ris_bad2 h2 (by omega) (by omega) (nextE_f (by first | exact .inl (by omega) | exact .inr ⟨by first | assumption | exact pr_ext (by assumption) (by assumption), by omega⟩))]
     ·
      try simp only [Bool.not_eq_true', Bool.not_eq_false', Bool.not_true, Bool.not_false, Bool.not_not, decide_eq_true_eq, decide_eq_false_iff_not, beq_iff_eq, beq_eq_false_iff_ne, bne_iff_ne, bne_eq_false_iff_eq, ne_eq, Int.not_lt, Int.not_le, Nat.not_lt, Nat.not_le, gt_iff_lt, ge_iff_le, Bool.and_eq_true, Bool.or_eq_true, Int.ofNat_lt, Int.ofNat_le, Int.natCast_inj, List.length_map, List.length_cons, List.length_nil, List.length_append] at hg4
      refine d_skip rfl rfl ?_
      refine d_skip rfl rfl ?_
      refine d_skip rfl rfl ?_
      refine d_skip rfl rfl ?_
      refine d_skip rfl rfl ?_
      refine d_skip rfl rfl ?_
      refine d_skip rfl rfl ?_
      refine d_skip rfl rfl ?_
      refine d_skip rfl rfl ?_
      refine d_skip rfl rfl ?_
      refine d_skip rfl rfl ?_
      refine d_skip rfl rfl ?_
      refine d_skip rfl rfl ?_
      refine d_skip rfl rfl ?_
      refine d_skip rfl rfl ?_
      refine d_skip rfl rfl ?_
      refine d_skip rfl rfl ?_
      refine d_skip rfl rfl ?_
      refine d_skip rfl rfl ?_
      refine d_skip rfl rfl ?_
      refine d_skip rfl rfl ?_
      refine d_skip rfl rfl ?_
      refine d_skip rfl rfl ?_
      refine d_skip rfl rfl ?_
      refine d_skip rfl rfl ?_
      refine d_skip rfl rfl ?_
      refine d_skip rfl rfl ?_
      refine d_skip rfl rfl ?_
      refine d_skip rfl rfl ?_
      refine d_skip rfl rfl ?_
      refine d_skip rfl rfl ?_
      refine d_skip rfl rfl ?_
      refine d_pure [(23, _), (55, _)] rfl rfl ⟨⟨rfl, rfl⟩, ⟨rfl, rfl⟩, trivial⟩ rfl (p_pick_f rfl rfl) ?_
      refine lex_end (sl' := [(0, _), (5, _), (6, _), (7, _), (56, _)]) rfl ⟨rfl, rfl, rfl, rfl, rfl, trivial⟩ rfl ?_
      refine hK11 _ ?_
      refine aw_cond_f rfl ?_
      refine aw_skip ?_
      refine hK6 _ ?_
      refine aw_region ?_
      first | refine x_pure rfl (p_add rfl rfl (by omega) (by omega)) ?_ | refine x_pure rfl (p_bin rfl rfl rfl) ?_
      refine x_pure rfl (p_move rfl) ?_
      first | refine aops_end ?_ | refine aops_nil ?_
      exact ⟨k+1, ⟨by omega, ris_next h2 (by omega) (okE_t (by omega) (by simp_all) (by simp_all)) (fun h0 => nextE_t.2 ⟨by omega, fun e => by first | omega | exact absurd e (by assumption) | exact absurd e (ne_fst (by assumption)) | exact absurd e (ne_snd (by assumption))⟩)⟩, by omega, le_of ⟨rfl, rfl, rfl, rfl, trivial⟩⟩
   ·
    try simp only [Bool.not_eq_true', Bool.not_eq_false', Bool.not_true, Bool.not_false, Bool.not_not, decide_eq_true_eq, decide_eq_false_iff_not, beq_iff_eq, beq_eq_false_iff_ne, bne_iff_ne, bne_eq_false_iff_eq, ne_eq, Int.not_lt, Int.not_le, Nat.not_lt, Nat.not_le, gt_iff_lt, ge_iff_le, Bool.and_eq_true, Bool.or_eq_true, Int.ofNat_lt, Int.ofNat_le, Int.natCast_inj, List.length_map, List.length_cons, List.length_nil, List.length_append] at hg2
    refine x_guard_f rfl rfl rfl ?_
    refine x_guard_f rfl rfl rfl ?_
    refine x_guard_f rfl rfl rfl ?_
    refine x_pure rfl (p_pick_t rfl rfl) ?_
    first | refine aops_end ?_ | refine aops_nil ?_
    refine hK9 _ ?_
    refine aw_cond_t rfl ?_
    refine aw_seq_k (fun K14 hK14 => ?_)
    refine aw_region ?_
    refine x_pure rfl (p_assign rfl) ?_
    first | refine aops_end ?_ | refine aops_nil ?_
    refine hK14 _ ?_
    refine aw_ret ?_
    refine ⟨_, rfl, ?_⟩
    refine ret_bool ?_
    rw [ris_bad1 h2 (by omega) (okE_f (by first | exact .inl (by omega) | exact .inr (.inl (by assumption)) | exact .inr (.inr (.inl (by assumption))) | exact .inr (.inr (.inr (by assumption))) | (simp_all; done)))]
  ·
   try simp only [Bool.not_eq_true', Bool.not_eq_false', Bool.not_true, Bool.not_false, Bool.not_not, decide_eq_true_eq, decide_eq_false_iff_not, beq_iff_eq, beq_eq_false_iff_ne, bne_iff_ne, bne_eq_false_iff_eq, ne_eq, Int.not_lt, Int.not_le, Nat.not_lt, Nat.not_le, gt_iff_lt, ge_iff_le, Bool.and_eq_true, Bool.or_eq_true, Int.ofNat_lt, Int.ofNat_le, Int.natCast_inj, List.length_map, List.length_cons, List.length_nil, List.length_append] at hc1
   refine aw_exit ?_
   refine hK2 _ ?_
   refine aw_seq_k (fun K15 hK15 => ?_)
   refine aw_region ?_
   refine x_pure rfl (p_assign rfl) ?_
   first | refine aops_end ?_ | refine aops_nil ?_
   refine hK15 _ ?_
   refine aw_ret ?_
   refine ⟨_, rfl, ?_⟩
   refine ret_bool ?_
   rw [ris_last h2 (by omega)]

set_option maxRecDepth 20000 in
set_option maxHeartbeats 4000000 in
theorem refRising_den (l : List En) (hl : l.length ≤ 9223372036854775807) (ht : ∀ e ∈ l, TS e.1.1 ∧ TS e.1.2)  : Den Try.prog 29 [.sl 4 (l.map enC)]  (· = .s (.bool (risE l))) := by
 refine den_of_aw Try.func29 rfl (Nat.le_of_ble_eq_true rfl) (fun w0 A hf => ?_)
 refine aw_seq_k (fun K1 hK1 => ?_)
 refine aw_region ?_
 refine x_pure rfl (p_assign_bad) ?_
 first | refine aops_end ?_ | refine aops_nil ?_
 refine hK1 _ ?_
 refine aw_seq_k (fun K2 hK2 => ?_)
 refine aw_seq_k (fun K3 hK3 => ?_)
 refine aw_region ?_
 refine x_pure rfl (p_assign rfl) ?_
 first | refine aops_end ?_ | refine aops_nil ?_
 refine hK3 _ ?_
 refine aw_block ?_
 refine aw_loop (ι := Nat) (fun k => ⟨75, [(0, .sl 4 (l.map enC)), (3, .s (.int .i64 (k : Nat)))], []⟩) (fun k => k ≤ l.length ∧ risE l = risP okE nextE (prevAt l k) (l.drop k)) (fun k => l.length - k) 0 ?_ ?_ ?_
 · exact ⟨Nat.zero_le _, rfl⟩
 · exact le_of ⟨rfl, rfl, trivial⟩
 ·
  rintro k hC
  obtain ⟨h1, h2⟩ := hC
  refine aw_seq_k (fun K4 hK4 => ?_)
  refine aw_seq_k (fun K5 hK5 => ?_)
  refine aw_region ?_
  refine x_pure rfl (p_move rfl) ?_
  refine x_pure rfl (p_move rfl) ?_
  first | refine x_pure rfl (p_len_sl rfl Try.e22) ?_ | refine x_pure rfl (p_len_own rfl Try.e22) ?_ | refine x_pure rfl (p_len_nil rfl Try.e22) ?_
  refine x_pure rfl (p_bin rfl rfl rfl) ?_
  first | refine aops_end ?_ | refine aops_nil ?_
  refine hK5 _ ?_
  refine aw_cond_s rfl (fun hc1 => ?_) (fun hc1 => ?_)
  ·
   try simp only [Bool.not_eq_true', Bool.not_eq_false', Bool.not_true, Bool.not_false, Bool.not_not, decide_eq_true_eq, decide_eq_false_iff_not, beq_iff_eq, beq_eq_false_iff_ne, bne_iff_ne, bne_eq_false_iff_eq, ne_eq, Int.not_lt, Int.not_le, Nat.not_lt, Nat.not_le, gt_iff_lt, ge_iff_le, Bool.and_eq_true, Bool.or_eq_true, Int.ofNat_lt, Int.ofNat_le, Int.natCast_inj, List.length_map, List.length_cons, List.length_nil, List.length_append] at hc1
   refine aw_skip ?_
   refine hK4 _ ?_
   refine aw_seq_k (fun K6 hK6 => ?_)
   refine aw_block ?_
   refine aw_seq_k (fun K7 hK7 => ?_)
   refine aw_region ?_
   refine x_pure rfl (p_move rfl) ?_
   refine x_pure rfl (p_move rfl) ?_
   first | refine x_pure rfl (p_idx_sl rfl rfl Try.e22 Try.c57 (by first | assumption | (refine ⟨by omega, ?_⟩; first | assumption | exact strs_at (by omega) | exact strs_at (by simp only [List.length_cons] at *; omega) | exact ints_at (by omega) | exact map_at (by omega) | exact list_at (by omega)) | exact ⟨by decide, rfl⟩)) ?_ | refine x_pure rfl (p_idx_own rfl rfl Try.e22 Try.c57 (by omega)) ?_
   first | refine x_pure rfl (p_loads rfl Try.g57 Try.c57 rfl rfl) ?_ | refine x_pure rfl (p_loadsr rfl Try.g57 Try.c57 rfl rfl rfl) ?_
   refine x_allocst hf rfl Try.z57 rfl Try.c57 rfl rfl rfl rfl (by simp [enC, prC, spC, AV.cells, AV.leaf, Value.oneCell', splice, AV.kill, AV.clean, cleanL, AV.only]) ?_
   first | refine aops_end ?_ | refine aops_nil ?_
   refine hK7 _ ?_
   refine aw_seq_k (fun K8 hK8 => ?_)
   refine aw_seq_k (fun K9 hK9 => ?_)
   refine aw_region ?_
   first | refine x_pure rfl (p_fld_adr rfl Try.fd57_3 Try.c3 rfl) ?_ | refine x_pure rfl (p_fld_ref rfl Try.fd57_3 Try.c3 rfl) ?_
   first | refine x_pure rfl (p_load1 rfl Try.g3 rfl) ?_ | refine x_pure rfl (p_load1r rfl Try.g3 rfl rfl) ?_ | refine x_pure rfl (p_load1r rfl Try.g3 rfl (strs_ref (by simp only [List.length_cons] at *; omega))) ?_ | refine x_pure rfl (p_load1r rfl Try.g3 rfl (strs_ref (by omega))) ?_
   first | refine x_pure rfl (p_fld_adr rfl Try.fd57_2 Try.c3 rfl) ?_ | refine x_pure rfl (p_fld_ref rfl Try.fd57_2 Try.c3 rfl) ?_
   first | refine x_pure rfl (p_load1 rfl Try.g3 rfl) ?_ | refine x_pure rfl (p_load1r rfl Try.g3 rfl rfl) ?_ | refine x_pure rfl (p_load1r rfl Try.g3 rfl (strs_ref (by simp only [List.length_cons] at *; omega))) ?_ | refine x_pure rfl (p_load1r rfl Try.g3 rfl (strs_ref (by omega))) ?_
   refine x_pure rfl (p_bin rfl rfl rfl) ?_
   refine x_pure rfl (p_move rfl) ?_
   refine y_guard_s rfl rfl rfl (fun hg2 => ?_) (fun hg2 => ?_)
   ·
    try simp only [Bool.not_eq_true', Bool.not_eq_false', Bool.not_true, Bool.not_false, Bool.not_not, decide_eq_true_eq, decide_eq_false_iff_not, beq_iff_eq, beq_eq_false_iff_ne, bne_iff_ne, bne_eq_false_iff_eq, ne_eq, Int.not_lt, Int.not_le, Nat.not_lt, Nat.not_le, gt_iff_lt, ge_iff_le, Bool.and_eq_true, Bool.or_eq_true, Int.ofNat_lt, Int.ofNat_le, Int.natCast_inj, List.length_map, List.length_cons, List.length_nil, List.length_append] at hg2
    first | refine x_pure rfl (p_fld_adr rfl Try.fd57_0 Try.c9 rfl) ?_ | refine x_pure rfl (p_fld_ref rfl Try.fd57_0 Try.c9 rfl) ?_
    refine x_guard_t rfl rfl rfl ?_
    first | refine x_pure rfl (p_load1 rfl Try.g9 rfl) ?_ | refine x_pure rfl (p_load1r rfl Try.g9 rfl rfl) ?_ | refine x_pure rfl (p_load1r rfl Try.g9 rfl (strs_ref (by simp only [List.length_cons] at *; omega))) ?_ | refine x_pure rfl (p_load1r rfl Try.g9 rfl (strs_ref (by omega))) ?_
    refine x_guard_t rfl rfl rfl ?_
    refine x_step hf rfl (r_call rfl rfl Try.ent52 rfl (Nm.refRight_den _ (by first | assumption | exact (ht _ (List.getElem_mem _)).1 | exact (ht _ (List.getElem_mem _)).2))) ?_
    refine x_guard_t rfl rfl rfl ?_
    refine x_pure rfl (p_not rfl) ?_
    refine x_pure rfl (p_pick_f rfl rfl) ?_
    refine x_pure rfl (p_move rfl) ?_
    refine y_guard_s rfl rfl rfl (fun hg3 => ?_) (fun hg3 => ?_)
    ·
     try simp only [Bool.not_eq_true', Bool.not_eq_false', Bool.not_true, Bool.not_false, Bool.not_not, decide_eq_true_eq, decide_eq_false_iff_not, beq_iff_eq, beq_eq_false_iff_ne, bne_iff_ne, bne_eq_false_iff_eq, ne_eq, Int.not_lt, Int.not_le, Nat.not_lt, Nat.not_le, gt_iff_lt, ge_iff_le, Bool.and_eq_true, Bool.or_eq_true, Int.ofNat_lt, Int.ofNat_le, Int.natCast_inj, List.length_map, List.length_cons, List.length_nil, List.length_append] at hg3
     first | refine x_pure rfl (p_fld_adr rfl Try.fd57_1 Try.c9 rfl) ?_ | refine x_pure rfl (p_fld_ref rfl Try.fd57_1 Try.c9 rfl) ?_
     refine x_guard_t rfl rfl rfl ?_
     first | refine x_pure rfl (p_load1 rfl Try.g9 rfl) ?_ | refine x_pure rfl (p_load1r rfl Try.g9 rfl rfl) ?_ | refine x_pure rfl (p_load1r rfl Try.g9 rfl (strs_ref (by simp only [List.length_cons] at *; omega))) ?_ | refine x_pure rfl (p_load1r rfl Try.g9 rfl (strs_ref (by omega))) ?_
     refine x_guard_t rfl rfl rfl ?_
     refine x_step hf rfl (r_call rfl rfl Try.ent52 rfl (Nm.refRight_den _ (by first | assumption | exact (ht _ (List.getElem_mem _)).1 | exact (ht _ (List.getElem_mem _)).2))) ?_
     refine x_guard_t rfl rfl rfl ?_
     refine x_pure rfl (p_not rfl) ?_
     refine x_pure rfl (p_pick_f rfl rfl) ?_
     first | refine aops_end ?_ | refine aops_nil ?_
     refine hK9 _ ?_
     refine aw_cond_s rfl (fun hc4 => ?_) (fun hc4 => ?_)
     ·
      try simp only [Bool.not_eq_true', Bool.not_eq_false', Bool.not_true, Bool.not_false, Bool.not_not, decide_eq_true_eq, decide_eq_false_iff_not, beq_iff_eq, beq_eq_false_iff_ne, bne_iff_ne, bne_eq_false_iff_eq, ne_eq, Int.not_lt, Int.not_le, Nat.not_lt, Nat.not_le, gt_iff_lt, ge_iff_le, Bool.and_eq_true, Bool.or_eq_true, Int.ofNat_lt, Int.ofNat_le, Int.natCast_inj, List.length_map, List.length_cons, List.length_nil, List.length_append] at hc4
      refine aw_seq_k (fun K10 hK10 => ?_)
      refine aw_region ?_
      refine x_pure rfl (p_assign rfl) ?_
      first | refine aops_end ?_ | refine aops_nil ?_
      refine hK10 _ ?_
      refine aw_ret ?_
      refine ⟨_, rfl, ?_⟩
      refine ret_bool ?_
      rw [ris_bad1 h2 (by omega) (okE_f (by first | exact .inl (by omega) | exact .inr (.inl (by assumption)) | exact .inr (.inr (.inl (by assumption))) | exact .inr (.inr (.inr (by assumption))) | (simp_all; done)))]
     ·
      try simp only [Bool.not_eq_true', Bool.not_eq_false', Bool.not_true, Bool.not_false, Bool.not_not, decide_eq_true_eq, decide_eq_false_iff_not, beq_iff_eq, beq_eq_false_iff_ne, bne_iff_ne, bne_eq_false_iff_eq, ne_eq, Int.not_lt, Int.not_le, Nat.not_lt, Nat.not_le, gt_iff_lt, ge_iff_le, Bool.and_eq_true, Bool.or_eq_true, Int.ofNat_lt, Int.ofNat_le, Int.natCast_inj, List.length_map, List.length_cons, List.length_nil, List.length_append] at hc4
      refine aw_skip ?_
      refine hK8 _ ?_
      refine aw_seq_k (fun K11 hK11 => ?_)
      refine aw_seq_k (fun K12 hK12 => ?_)
      refine aw_region ?_
      refine x_pure rfl (p_move rfl) ?_
      refine x_pure rfl (p_bin rfl rfl rfl) ?_
      first | refine aops_end ?_ | refine aops_nil ?_
      refine hK12 _ ?_
      refine aw_cond_s rfl (fun hc5 => ?_) (fun hc5 => ?_)
      ·
       try simp only [Bool.not_eq_true', Bool.not_eq_false', Bool.not_true, Bool.not_false, Bool.not_not, decide_eq_true_eq, decide_eq_false_iff_not, beq_iff_eq, beq_eq_false_iff_ne, bne_iff_ne, bne_eq_false_iff_eq, ne_eq, Int.not_lt, Int.not_le, Nat.not_lt, Nat.not_le, gt_iff_lt, ge_iff_le, Bool.and_eq_true, Bool.or_eq_true, Int.ofNat_lt, Int.ofNat_le, Int.natCast_inj, List.length_map, List.length_cons, List.length_nil, List.length_append] at hc5
       refine aw_exit ?_
       refine hK6 _ ?_
       refine aw_region ?_
       refine x_pure rfl (p_move rfl) ?_
       first | refine x_pure rfl (p_add rfl rfl (by omega) (by omega)) ?_ | refine x_pure rfl (p_bin rfl rfl rfl) ?_
       refine x_pure rfl (p_assign rfl) ?_
       first | refine aops_end ?_ | refine aops_nil ?_
       exact ⟨k+1, ⟨by omega, ris_next h2 (by omega) (okE_t (by omega) (by simp_all) (by simp_all)) (fun h0 => nextE_t.2 ⟨by omega, fun e => by first | omega | exact absurd e (by assumption) | exact absurd e (ne_fst (by assumption)) | exact absurd e (ne_snd (by assumption))⟩)⟩, by omega, le_of ⟨rfl, rfl, trivial⟩⟩
      ·
       try simp only [Bool.not_eq_true', Bool.not_eq_false', Bool.not_true, Bool.not_false, Bool.not_not, decide_eq_true_eq, decide_eq_false_iff_not, beq_iff_eq, beq_eq_false_iff_ne, bne_iff_ne, bne_eq_false_iff_eq, ne_eq, Int.not_lt, Int.not_le, Nat.not_lt, Nat.not_le, gt_iff_lt, ge_iff_le, Bool.and_eq_true, Bool.or_eq_true, Int.ofNat_lt, Int.ofNat_le, Int.natCast_inj, List.length_map, List.length_cons, List.length_nil, List.length_append] at hc5
       refine aw_skip ?_
       refine hK11 _ ?_
       refine aw_seq_k (fun K13 hK13 => ?_)
       refine aw_draw hf Try.mixed (by kernel_rfl) rfl ?_
       refine d_pure [(0, _)] rfl rfl ⟨⟨rfl, rfl⟩, trivial⟩ rfl (p_move rfl) ?_
       refine d_pure [(3, _)] rfl rfl ⟨⟨rfl, rfl⟩, trivial⟩ rfl (p_move rfl) ?_
       first | refine d_pure [(35, _)] rfl rfl ⟨⟨rfl, rfl⟩, trivial⟩ rfl (p_sub rfl rfl (by omega) (by omega)) ?_ | refine d_pure [(35, _)] rfl rfl ⟨⟨rfl, rfl⟩, trivial⟩ rfl (p_bin rfl rfl rfl) ?_
       refine d_pure [(34, _), (36, _)] rfl rfl ⟨⟨rfl, rfl⟩, ⟨rfl, rfl⟩, trivial⟩ rfl (p_idx_sl rfl rfl Try.e22 Try.c57 (map_atZ (k := k - 1) (by omega) (by omega))) ?_
       first | refine d_pure [(37, _)] rfl rfl ⟨⟨rfl, rfl⟩, trivial⟩ rfl (p_loads rfl Try.g57 Try.c57 rfl rfl) ?_ | refine d_pure [(37, _)] rfl rfl ⟨⟨rfl, rfl⟩, trivial⟩ rfl (p_loadsr rfl Try.g57 Try.c57 rfl rfl rfl) ?_
       first | refine d_pure [(4, _)] rfl rfl ⟨⟨rfl, rfl⟩, trivial⟩ rfl (p_loads rfl Try.g57 Try.c57 rfl rfl) ?_ | refine d_pure [(4, _)] rfl rfl ⟨⟨rfl, rfl⟩, trivial⟩ rfl (p_loadsr rfl Try.g57 Try.c57 rfl rfl rfl) ?_
       refine d_rstep [(38, _), (39, _)] rfl rfl ⟨⟨rfl, rfl⟩, ⟨rfl, rfl⟩, trivial⟩ rfl (r_call rfl rfl Try.ent40 rfl (ahead9_den _ _ (ht _ (List.getElem_mem _)).1 (ht _ (List.getElem_mem _)).2 (ht _ (List.getElem_mem _)).1 (ht _ (List.getElem_mem _)).2)) ?_
       refine d_pure [(40, _)] rfl rfl ⟨⟨rfl, rfl⟩, trivial⟩ rfl (p_not rfl) ?_
       refine d_pure [(41, _)] rfl rfl ⟨⟨rfl, rfl⟩, trivial⟩ rfl (p_move rfl) ?_
       refine d_split 42 false rfl (fun hg6 => ?_) (fun hg6 => ?_)
       ·
        try simp only [Bool.not_eq_true', Bool.not_eq_false', Bool.not_true, Bool.not_false, Bool.not_not, decide_eq_true_eq, decide_eq_false_iff_not, beq_iff_eq, beq_eq_false_iff_ne, bne_iff_ne, bne_eq_false_iff_eq, ne_eq, Int.not_lt, Int.not_le, Nat.not_lt, Nat.not_le, gt_iff_lt, ge_iff_le, Bool.and_eq_true, Bool.or_eq_true, Int.ofNat_lt, Int.ofNat_le, Int.natCast_inj, List.length_map, List.length_cons, List.length_nil, List.length_append] at hg6
        refine d_pure [(0, _)] rfl rfl ⟨⟨rfl, rfl⟩, trivial⟩ rfl (p_move rfl) ?_
        refine d_pure [(3, _)] rfl rfl ⟨⟨rfl, rfl⟩, trivial⟩ rfl (p_move rfl) ?_
        first | refine d_pure [(44, _)] rfl rfl ⟨⟨rfl, rfl⟩, trivial⟩ rfl (p_sub rfl rfl (by omega) (by omega)) ?_ | refine d_pure [(44, _)] rfl rfl ⟨⟨rfl, rfl⟩, trivial⟩ rfl (p_bin rfl rfl rfl) ?_
        refine d_pure [(43, _), (45, _)] rfl rfl ⟨⟨rfl, rfl⟩, ⟨rfl, rfl⟩, trivial⟩ rfl (p_idx_sl rfl rfl Try.e22 Try.c57 (map_atZ (k := k - 1) (by omega) (by omega))) ?_
        first | refine d_pure [(46, _)] rfl rfl ⟨⟨rfl, rfl⟩, trivial⟩ rfl (p_fld_adr rfl Try.fd57_0 Try.c9 rfl) ?_ | refine d_pure [(46, _)] rfl rfl ⟨⟨rfl, rfl⟩, trivial⟩ rfl (p_fld_ref rfl Try.fd57_0 Try.c9 rfl) ?_
        first | refine d_pure [(47, _)] rfl rfl ⟨⟨rfl, rfl⟩, trivial⟩ rfl (p_load1 rfl Try.g9 rfl) ?_ | refine d_pure [(47, _)] rfl rfl ⟨⟨rfl, rfl⟩, trivial⟩ rfl (p_load1r rfl Try.g9 rfl rfl) ?_ | refine d_pure [(47, _)] rfl rfl ⟨⟨rfl, rfl⟩, trivial⟩ rfl (p_load1r rfl Try.g9 rfl (strs_ref (by simp only [List.length_cons] at *; omega))) ?_ | refine d_pure [(47, _)] rfl rfl ⟨⟨rfl, rfl⟩, trivial⟩ rfl (p_load1r rfl Try.g9 rfl (strs_ref (by omega))) ?_
        first | refine d_pure [(4, _)] rfl rfl ⟨⟨rfl, rfl⟩, trivial⟩ rfl (p_fld_adr rfl Try.fd57_0 Try.c9 rfl) ?_ | refine d_pure [(4, _)] rfl rfl ⟨⟨rfl, rfl⟩, trivial⟩ rfl (p_fld_ref rfl Try.fd57_0 Try.c9 rfl) ?_
        first | refine d_pure [(49, _)] rfl rfl ⟨⟨rfl, rfl⟩, trivial⟩ rfl (p_load1 rfl Try.g9 rfl) ?_ | refine d_pure [(49, _)] rfl rfl ⟨⟨rfl, rfl⟩, trivial⟩ rfl (p_load1r rfl Try.g9 rfl rfl) ?_ | refine d_pure [(49, _)] rfl rfl ⟨⟨rfl, rfl⟩, trivial⟩ rfl (p_load1r rfl Try.g9 rfl (strs_ref (by simp only [List.length_cons] at *; omega))) ?_ | refine d_pure [(49, _)] rfl rfl ⟨⟨rfl, rfl⟩, trivial⟩ rfl (p_load1r rfl Try.g9 rfl (strs_ref (by omega))) ?_
        refine d_pure [(48, _), (50, _)] rfl rfl ⟨⟨rfl, rfl⟩, ⟨rfl, rfl⟩, trivial⟩ rfl (p_bin rfl rfl rfl) ?_
        refine d_pure [(51, _)] rfl rfl ⟨⟨rfl, rfl⟩, trivial⟩ rfl (p_move rfl) ?_
        refine d_split 52 true rfl (fun hg7 => ?_) (fun hg7 => ?_)
        ·
         try simp only [Bool.not_eq_true', Bool.not_eq_false', Bool.not_true, Bool.not_false, Bool.not_not, decide_eq_true_eq, decide_eq_false_iff_not, beq_iff_eq, beq_eq_false_iff_ne, bne_iff_ne, bne_eq_false_iff_eq, ne_eq, Int.not_lt, Int.not_le, Nat.not_lt, Nat.not_le, gt_iff_lt, ge_iff_le, Bool.and_eq_true, Bool.or_eq_true, Int.ofNat_lt, Int.ofNat_le, Int.natCast_inj, List.length_map, List.length_cons, List.length_nil, List.length_append] at hg7
         refine d_pure [(0, _)] rfl rfl ⟨⟨rfl, rfl⟩, trivial⟩ rfl (p_move rfl) ?_
         refine d_pure [(3, _)] rfl rfl ⟨⟨rfl, rfl⟩, trivial⟩ rfl (p_move rfl) ?_
         first | refine d_pure [(54, _)] rfl rfl ⟨⟨rfl, rfl⟩, trivial⟩ rfl (p_sub rfl rfl (by omega) (by omega)) ?_ | refine d_pure [(54, _)] rfl rfl ⟨⟨rfl, rfl⟩, trivial⟩ rfl (p_bin rfl rfl rfl) ?_
         refine d_pure [(53, _), (55, _)] rfl rfl ⟨⟨rfl, rfl⟩, ⟨rfl, rfl⟩, trivial⟩ rfl (p_idx_sl rfl rfl Try.e22 Try.c57 (map_atZ (k := k - 1) (by omega) (by omega))) ?_
         first | refine d_pure [(56, _)] rfl rfl ⟨⟨rfl, rfl⟩, trivial⟩ rfl (p_fld_adr rfl Try.fd57_1 Try.c9 rfl) ?_ | refine d_pure [(56, _)] rfl rfl ⟨⟨rfl, rfl⟩, trivial⟩ rfl (p_fld_ref rfl Try.fd57_1 Try.c9 rfl) ?_
         first | refine d_pure [(57, _)] rfl rfl ⟨⟨rfl, rfl⟩, trivial⟩ rfl (p_load1 rfl Try.g9 rfl) ?_ | refine d_pure [(57, _)] rfl rfl ⟨⟨rfl, rfl⟩, trivial⟩ rfl (p_load1r rfl Try.g9 rfl rfl) ?_ | refine d_pure [(57, _)] rfl rfl ⟨⟨rfl, rfl⟩, trivial⟩ rfl (p_load1r rfl Try.g9 rfl (strs_ref (by simp only [List.length_cons] at *; omega))) ?_ | refine d_pure [(57, _)] rfl rfl ⟨⟨rfl, rfl⟩, trivial⟩ rfl (p_load1r rfl Try.g9 rfl (strs_ref (by omega))) ?_
         first | refine d_pure [(4, _)] rfl rfl ⟨⟨rfl, rfl⟩, trivial⟩ rfl (p_fld_adr rfl Try.fd57_1 Try.c9 rfl) ?_ | refine d_pure [(4, _)] rfl rfl ⟨⟨rfl, rfl⟩, trivial⟩ rfl (p_fld_ref rfl Try.fd57_1 Try.c9 rfl) ?_
         first | refine d_pure [(59, _)] rfl rfl ⟨⟨rfl, rfl⟩, trivial⟩ rfl (p_load1 rfl Try.g9 rfl) ?_ | refine d_pure [(59, _)] rfl rfl ⟨⟨rfl, rfl⟩, trivial⟩ rfl (p_load1r rfl Try.g9 rfl rfl) ?_ | refine d_pure [(59, _)] rfl rfl ⟨⟨rfl, rfl⟩, trivial⟩ rfl (p_load1r rfl Try.g9 rfl (strs_ref (by simp only [List.length_cons] at *; omega))) ?_ | refine d_pure [(59, _)] rfl rfl ⟨⟨rfl, rfl⟩, trivial⟩ rfl (p_load1r rfl Try.g9 rfl (strs_ref (by omega))) ?_
         refine d_pure [(58, _), (60, _)] rfl rfl ⟨⟨rfl, rfl⟩, ⟨rfl, rfl⟩, trivial⟩ rfl (p_bin rfl rfl rfl) ?_
         refine d_pure [(52, _), (61, _)] rfl rfl ⟨⟨rfl, rfl⟩, ⟨rfl, rfl⟩, trivial⟩ rfl (p_pick_t rfl rfl) ?_
         refine d_pure [(62, _)] rfl rfl ⟨⟨rfl, rfl⟩, trivial⟩ rfl (p_move rfl) ?_
         refine d_split 63 true rfl (fun hg8 => ?_) (fun hg8 => ?_)
         ·
          try simp only [Bool.not_eq_true', Bool.not_eq_false', Bool.not_true, Bool.not_false, Bool.not_not, decide_eq_true_eq, decide_eq_false_iff_not, beq_iff_eq, beq_eq_false_iff_ne, bne_iff_ne, bne_eq_false_iff_eq, ne_eq, Int.not_lt, Int.not_le, Nat.not_lt, Nat.not_le, gt_iff_lt, ge_iff_le, Bool.and_eq_true, Bool.or_eq_true, Int.ofNat_lt, Int.ofNat_le, Int.natCast_inj, List.length_map, List.length_cons, List.length_nil, List.length_append] at hg8
          refine d_pure [(0, _)] rfl rfl ⟨⟨rfl, rfl⟩, trivial⟩ rfl (p_move rfl) ?_
          refine d_pure [(3, _)] rfl rfl ⟨⟨rfl, rfl⟩, trivial⟩ rfl (p_move rfl) ?_
          first | refine d_pure [(65, _)] rfl rfl ⟨⟨rfl, rfl⟩, trivial⟩ rfl (p_sub rfl rfl (by omega) (by omega)) ?_ | refine d_pure [(65, _)] rfl rfl ⟨⟨rfl, rfl⟩, trivial⟩ rfl (p_bin rfl rfl rfl) ?_
          refine d_pure [(64, _), (66, _)] rfl rfl ⟨⟨rfl, rfl⟩, ⟨rfl, rfl⟩, trivial⟩ rfl (p_idx_sl rfl rfl Try.e22 Try.c57 (map_atZ (k := k - 1) (by omega) (by omega))) ?_
          first | refine d_pure [(67, _)] rfl rfl ⟨⟨rfl, rfl⟩, trivial⟩ rfl (p_fld_adr rfl Try.fd57_3 Try.c3 rfl) ?_ | refine d_pure [(67, _)] rfl rfl ⟨⟨rfl, rfl⟩, trivial⟩ rfl (p_fld_ref rfl Try.fd57_3 Try.c3 rfl) ?_
          first | refine d_pure [(68, _)] rfl rfl ⟨⟨rfl, rfl⟩, trivial⟩ rfl (p_load1 rfl Try.g3 rfl) ?_ | refine d_pure [(68, _)] rfl rfl ⟨⟨rfl, rfl⟩, trivial⟩ rfl (p_load1r rfl Try.g3 rfl rfl) ?_ | refine d_pure [(68, _)] rfl rfl ⟨⟨rfl, rfl⟩, trivial⟩ rfl (p_load1r rfl Try.g3 rfl (strs_ref (by simp only [List.length_cons] at *; omega))) ?_ | refine d_pure [(68, _)] rfl rfl ⟨⟨rfl, rfl⟩, trivial⟩ rfl (p_load1r rfl Try.g3 rfl (strs_ref (by omega))) ?_
          first | refine d_pure [(4, _)] rfl rfl ⟨⟨rfl, rfl⟩, trivial⟩ rfl (p_fld_adr rfl Try.fd57_2 Try.c3 rfl) ?_ | refine d_pure [(4, _)] rfl rfl ⟨⟨rfl, rfl⟩, trivial⟩ rfl (p_fld_ref rfl Try.fd57_2 Try.c3 rfl) ?_
          first | refine d_pure [(70, _)] rfl rfl ⟨⟨rfl, rfl⟩, trivial⟩ rfl (p_load1 rfl Try.g3 rfl) ?_ | refine d_pure [(70, _)] rfl rfl ⟨⟨rfl, rfl⟩, trivial⟩ rfl (p_load1r rfl Try.g3 rfl rfl) ?_ | refine d_pure [(70, _)] rfl rfl ⟨⟨rfl, rfl⟩, trivial⟩ rfl (p_load1r rfl Try.g3 rfl (strs_ref (by simp only [List.length_cons] at *; omega))) ?_ | refine d_pure [(70, _)] rfl rfl ⟨⟨rfl, rfl⟩, trivial⟩ rfl (p_load1r rfl Try.g3 rfl (strs_ref (by omega))) ?_
          refine d_pure [(69, _), (71, _)] rfl rfl ⟨⟨rfl, rfl⟩, ⟨rfl, rfl⟩, trivial⟩ rfl (p_bin rfl rfl rfl) ?_
          refine d_pure [(63, _), (72, _)] rfl rfl ⟨⟨rfl, rfl⟩, ⟨rfl, rfl⟩, trivial⟩ rfl (p_pick_t rfl rfl) ?_
          refine d_pure [(42, _), (73, _)] rfl rfl ⟨⟨rfl, rfl⟩, ⟨rfl, rfl⟩, trivial⟩ rfl (p_pick_f rfl rfl) ?_
          refine lex_end (sl' := [(0, _), (3, _), (74, _)]) rfl ⟨rfl, rfl, rfl, trivial⟩ rfl ?_
          refine hK13 _ ?_
          refine aw_cond_s rfl (fun hc9 => ?_) (fun hc9 => ?_)
          ·
           try simp only [Bool.not_eq_true', Bool.not_eq_false', Bool.not_true, Bool.not_false, Bool.not_not, decide_eq_true_eq, decide_eq_false_iff_not, beq_iff_eq, beq_eq_false_iff_ne, bne_iff_ne, bne_eq_false_iff_eq, ne_eq, Int.not_lt, Int.not_le, Nat.not_lt, Nat.not_le, gt_iff_lt, ge_iff_le, Bool.and_eq_true, Bool.or_eq_true, Int.ofNat_lt, Int.ofNat_le, Int.natCast_inj, List.length_map, List.length_cons, List.length_nil, List.length_append] at hc9
           refine aw_seq_k (fun K14 hK14 => ?_)
           refine aw_region ?_
           refine x_pure rfl (p_assign rfl) ?_
           first | refine aops_end ?_ | refine aops_nil ?_
           refine hK14 _ ?_
           refine aw_ret ?_
           refine ⟨_, rfl, ?_⟩
           refine ret_bool ?_
           rw [ris_bad2 h2 (by omega) (by omega) (nextE_f (by first | exact .inl (by omega) | exact .inr ⟨by first | assumption | exact pr_ext (by assumption) (by assumption), by omega⟩))]
          ·
           try simp only [Bool.not_eq_true', Bool.not_eq_false', Bool.not_true, Bool.not_false, Bool.not_not, decide_eq_true_eq, decide_eq_false_iff_not, beq_iff_eq, beq_eq_false_iff_ne, bne_iff_ne, bne_eq_false_iff_eq, ne_eq, Int.not_lt, Int.not_le, Nat.not_lt, Nat.not_le, gt_iff_lt, ge_iff_le, Bool.and_eq_true, Bool.or_eq_true, Int.ofNat_lt, Int.ofNat_le, Int.natCast_inj, List.length_map, List.length_cons, List.length_nil, List.length_append] at hc9
           refine aw_skip ?_
           refine hK6 _ ?_
           refine aw_region ?_
           refine x_pure rfl (p_move rfl) ?_
           first | refine x_pure rfl (p_add rfl rfl (by omega) (by omega)) ?_ | refine x_pure rfl (p_bin rfl rfl rfl) ?_
           refine x_pure rfl (p_assign rfl) ?_
           first | refine aops_end ?_ | refine aops_nil ?_
           exact ⟨k+1, ⟨by omega, ris_next h2 (by omega) (okE_t (by omega) (by simp_all) (by simp_all)) (fun h0 => nextE_t.2 ⟨by omega, fun e => by first | omega | exact absurd e (by assumption) | exact absurd e (ne_fst (by assumption)) | exact absurd e (ne_snd (by assumption))⟩)⟩, by omega, le_of ⟨rfl, rfl, trivial⟩⟩
         ·
          try simp only [Bool.not_eq_true', Bool.not_eq_false', Bool.not_true, Bool.not_false, Bool.not_not, decide_eq_true_eq, decide_eq_false_iff_not, beq_iff_eq, beq_eq_false_iff_ne, bne_iff_ne, bne_eq_false_iff_eq, ne_eq, Int.not_lt, Int.not_le, Nat.not_lt, Nat.not_le, gt_iff_lt, ge_iff_le, Bool.and_eq_true, Bool.or_eq_true, Int.ofNat_lt, Int.ofNat_le, Int.natCast_inj, List.length_map, List.length_cons, List.length_nil, List.length_append] at hg8
          refine d_skip rfl rfl ?_
          refine d_skip rfl rfl ?_
          refine d_skip rfl rfl ?_
          refine d_skip rfl rfl ?_
          refine d_skip rfl rfl ?_
          refine d_skip rfl rfl ?_
          refine d_skip rfl rfl ?_
          refine d_skip rfl rfl ?_
          refine d_skip rfl rfl ?_
          refine d_pure [(63, _), (72, _)] rfl rfl ⟨⟨rfl, rfl⟩, ⟨rfl, rfl⟩, trivial⟩ rfl (p_pick_f rfl rfl) ?_
          refine d_pure [(42, _), (73, _)] rfl rfl ⟨⟨rfl, rfl⟩, ⟨rfl, rfl⟩, trivial⟩ rfl (p_pick_f rfl rfl) ?_
          refine lex_end (sl' := [(0, _), (3, _), (74, _)]) rfl ⟨rfl, rfl, rfl, trivial⟩ rfl ?_
          refine hK13 _ ?_
          refine aw_cond_f rfl ?_
          refine aw_skip ?_
          refine hK6 _ ?_
          refine aw_region ?_
          refine x_pure rfl (p_move rfl) ?_
          first | refine x_pure rfl (p_add rfl rfl (by omega) (by omega)) ?_ | refine x_pure rfl (p_bin rfl rfl rfl) ?_
          refine x_pure rfl (p_assign rfl) ?_
          first | refine aops_end ?_ | refine aops_nil ?_
          exact ⟨k+1, ⟨by omega, ris_next h2 (by omega) (okE_t (by omega) (by simp_all) (by simp_all)) (fun h0 => nextE_t.2 ⟨by omega, fun e => by first | omega | exact absurd e (by assumption) | exact absurd e (ne_fst (by assumption)) | exact absurd e (ne_snd (by assumption))⟩)⟩, by omega, le_of ⟨rfl, rfl, trivial⟩⟩
        ·
         try simp only [Bool.not_eq_true', Bool.not_eq_false', Bool.not_true, Bool.not_false, Bool.not_not, decide_eq_true_eq, decide_eq_false_iff_not, beq_iff_eq, beq_eq_false_iff_ne, bne_iff_ne, bne_eq_false_iff_eq, ne_eq, Int.not_lt, Int.not_le, Nat.not_lt, Nat.not_le, gt_iff_lt, ge_iff_le, Bool.and_eq_true, Bool.or_eq_true, Int.ofNat_lt, Int.ofNat_le, Int.natCast_inj, List.length_map, List.length_cons, List.length_nil, List.length_append] at hg7
         refine d_skip rfl rfl ?_
         refine d_skip rfl rfl ?_
         refine d_skip rfl rfl ?_
         refine d_skip rfl rfl ?_
         refine d_skip rfl rfl ?_
         refine d_skip rfl rfl ?_
         refine d_skip rfl rfl ?_
         refine d_skip rfl rfl ?_
         refine d_skip rfl rfl ?_
         refine d_pure [(52, _), (61, _)] rfl rfl ⟨⟨rfl, rfl⟩, ⟨rfl, rfl⟩, trivial⟩ rfl (p_pick_f rfl rfl) ?_
         refine d_pure [(62, _)] rfl rfl ⟨⟨rfl, rfl⟩, trivial⟩ rfl (p_move rfl) ?_
         refine d_skip rfl rfl ?_
         refine d_skip rfl rfl ?_
         refine d_skip rfl rfl ?_
         refine d_skip rfl rfl ?_
         refine d_skip rfl rfl ?_
         refine d_skip rfl rfl ?_
         refine d_skip rfl rfl ?_
         refine d_skip rfl rfl ?_
         refine d_skip rfl rfl ?_
         refine d_pure [(63, _), (72, _)] rfl rfl ⟨⟨rfl, rfl⟩, ⟨rfl, rfl⟩, trivial⟩ rfl (p_pick_f rfl rfl) ?_
         refine d_pure [(42, _), (73, _)] rfl rfl ⟨⟨rfl, rfl⟩, ⟨rfl, rfl⟩, trivial⟩ rfl (p_pick_f rfl rfl) ?_
         refine lex_end (sl' := [(0, _), (3, _), (74, _)]) rfl ⟨rfl, rfl, rfl, trivial⟩ rfl ?_
         refine hK13 _ ?_
         refine aw_cond_f rfl ?_
         refine aw_skip ?_
         refine hK6 _ ?_
         refine aw_region ?_
         refine x_pure rfl (p_move rfl) ?_
         first | refine x_pure rfl (p_add rfl rfl (by omega) (by omega)) ?_ | refine x_pure rfl (p_bin rfl rfl rfl) ?_
         refine x_pure rfl (p_assign rfl) ?_
         first | refine aops_end ?_ | refine aops_nil ?_
         exact ⟨k+1, ⟨by omega, ris_next h2 (by omega) (okE_t (by omega) (by simp_all) (by simp_all)) (fun h0 => nextE_t.2 ⟨by omega, fun e => by first | omega | exact absurd e (by assumption) | exact absurd e (ne_fst (by assumption)) | exact absurd e (ne_snd (by assumption))⟩)⟩, by omega, le_of ⟨rfl, rfl, trivial⟩⟩
       ·
        try simp only [Bool.not_eq_true', Bool.not_eq_false', Bool.not_true, Bool.not_false, Bool.not_not, decide_eq_true_eq, decide_eq_false_iff_not, beq_iff_eq, beq_eq_false_iff_ne, bne_iff_ne, bne_eq_false_iff_eq, ne_eq, Int.not_lt, Int.not_le, Nat.not_lt, Nat.not_le, gt_iff_lt, ge_iff_le, Bool.and_eq_true, Bool.or_eq_true, Int.ofNat_lt, Int.ofNat_le, Int.natCast_inj, List.length_map, List.length_cons, List.length_nil, List.length_append] at hg6
        refine d_skip rfl rfl ?_
        refine d_skip rfl rfl ?_
        refine d_skip rfl rfl ?_
        refine d_skip rfl rfl ?_
        refine d_skip rfl rfl ?_
        refine d_skip rfl rfl ?_
        refine d_skip rfl rfl ?_
        refine d_skip rfl rfl ?_
        refine d_skip rfl rfl ?_
        refine d_skip rfl rfl ?_
        refine d_skip rfl rfl ?_
        refine d_skip rfl rfl ?_
        refine d_skip rfl rfl ?_
        refine d_skip rfl rfl ?_
        refine d_skip rfl rfl ?_
        refine d_skip rfl rfl ?_
        refine d_skip rfl rfl ?_
        refine d_skip rfl rfl ?_
        refine d_skip rfl rfl ?_
        refine d_skip rfl rfl ?_
        refine d_skip rfl rfl ?_
        refine d_skip rfl rfl ?_
        refine d_skip rfl rfl ?_
        refine d_skip rfl rfl ?_
        refine d_skip rfl rfl ?_
        refine d_skip rfl rfl ?_
        refine d_skip rfl rfl ?_
        refine d_skip rfl rfl ?_
        refine d_skip rfl rfl ?_
        refine d_skip rfl rfl ?_
        refine d_skip rfl rfl ?_
        refine d_pure [(42, _), (73, _)] rfl rfl ⟨⟨rfl, rfl⟩, ⟨rfl, rfl⟩, trivial⟩ rfl (p_pick_t rfl rfl) ?_
        refine lex_end (sl' := [(0, _), (3, _), (74, _)]) rfl ⟨rfl, rfl, rfl, trivial⟩ rfl ?_
        refine hK13 _ ?_
        refine aw_cond_t rfl ?_
        refine aw_seq_k (fun K15 hK15 => ?_)
        refine aw_region ?_
        refine x_pure rfl (p_assign rfl) ?_
        first | refine aops_end ?_ | refine aops_nil ?_
        refine hK15 _ ?_
        refine aw_ret ?_
        refine ⟨_, rfl, ?_⟩
        refine ret_bool ?_
        rw [ris_bad2 h2 (by omega) (by omega) (nextE_f (by first | exact .inl (by omega) | exact .inr ⟨by first | assumption | exact pr_ext (by assumption) (by assumption), by omega⟩))]
    ·
     try simp only [Bool.not_eq_true', Bool.not_eq_false', Bool.not_true, Bool.not_false, Bool.not_not, decide_eq_true_eq, decide_eq_false_iff_not, beq_iff_eq, beq_eq_false_iff_ne, bne_iff_ne, bne_eq_false_iff_eq, ne_eq, Int.not_lt, Int.not_le, Nat.not_lt, Nat.not_le, gt_iff_lt, ge_iff_le, Bool.and_eq_true, Bool.or_eq_true, Int.ofNat_lt, Int.ofNat_le, Int.natCast_inj, List.length_map, List.length_cons, List.length_nil, List.length_append] at hg3
     refine x_guard_f rfl rfl rfl ?_
     refine x_guard_f rfl rfl rfl ?_
     refine x_guard_f rfl rfl rfl ?_
     refine x_pure rfl (p_pick_t rfl rfl) ?_
     first | refine aops_end ?_ | refine aops_nil ?_
     refine hK9 _ ?_
     refine aw_cond_t rfl ?_
     refine aw_seq_k (fun K16 hK16 => ?_)
     refine aw_region ?_
     refine x_pure rfl (p_assign rfl) ?_
     first | refine aops_end ?_ | refine aops_nil ?_
     refine hK16 _ ?_
     refine aw_ret ?_
     refine ⟨_, rfl, ?_⟩
     refine ret_bool ?_
     rw [ris_bad1 h2 (by omega) (okE_f (by first | exact .inl (by omega) | exact .inr (.inl (by assumption)) | exact .inr (.inr (.inl (by assumption))) | exact .inr (.inr (.inr (by assumption))) | (simp_all; done)))]
   ·
    try simp only [Bool.not_eq_true', Bool.not_eq_false', Bool.not_true, Bool.not_false, Bool.not_not, decide_eq_true_eq, decide_eq_false_iff_not, beq_iff_eq, beq_eq_false_iff_ne, bne_iff_ne, bne_eq_false_iff_eq, ne_eq, Int.not_lt, Int.not_le, Nat.not_lt, Nat.not_le, gt_iff_lt, ge_iff_le, Bool.and_eq_true, Bool.or_eq_true, Int.ofNat_lt, Int.ofNat_le, Int.natCast_inj, List.length_map, List.length_cons, List.length_nil, List.length_append] at hg2
    refine x_guard_f rfl rfl rfl ?_
    refine x_guard_f rfl rfl rfl ?_
    refine x_guard_f rfl rfl rfl ?_
    refine x_pure rfl (p_pick_t rfl rfl) ?_
    refine x_pure rfl (p_move rfl) ?_
    refine x_guard_f rfl rfl rfl ?_
    refine x_guard_f rfl rfl rfl ?_
    refine x_guard_f rfl rfl rfl ?_
    refine x_guard_f rfl rfl rfl ?_
    refine x_pure rfl (p_pick_t rfl rfl) ?_
    first | refine aops_end ?_ | refine aops_nil ?_
    refine hK9 _ ?_
    refine aw_cond_t rfl ?_
    refine aw_seq_k (fun K17 hK17 => ?_)
    refine aw_region ?_
    refine x_pure rfl (p_assign rfl) ?_
    first | refine aops_end ?_ | refine aops_nil ?_
    refine hK17 _ ?_
    refine aw_ret ?_
    refine ⟨_, rfl, ?_⟩
    refine ret_bool ?_
    rw [ris_bad1 h2 (by omega) (okE_f (by first | exact .inl (by omega) | exact .inr (.inl (by assumption)) | exact .inr (.inr (.inl (by assumption))) | exact .inr (.inr (.inr (by assumption))) | (simp_all; done)))]
  ·
   try simp only [Bool.not_eq_true', Bool.not_eq_false', Bool.not_true, Bool.not_false, Bool.not_not, decide_eq_true_eq, decide_eq_false_iff_not, beq_iff_eq, beq_eq_false_iff_ne, bne_iff_ne, bne_eq_false_iff_eq, ne_eq, Int.not_lt, Int.not_le, Nat.not_lt, Nat.not_le, gt_iff_lt, ge_iff_le, Bool.and_eq_true, Bool.or_eq_true, Int.ofNat_lt, Int.ofNat_le, Int.natCast_inj, List.length_map, List.length_cons, List.length_nil, List.length_append] at hc1
   refine aw_exit ?_
   refine hK2 _ ?_
   refine aw_seq_k (fun K18 hK18 => ?_)
   refine aw_region ?_
   refine x_pure rfl (p_assign rfl) ?_
   first | refine aops_end ?_ | refine aops_nil ?_
   refine hK18 _ ?_
   refine aw_ret ?_
   refine ⟨_, rfl, ?_⟩
   refine ret_bool ?_
   rw [ris_last h2 (by omega)]

set_option maxRecDepth 20000 in
set_option maxHeartbeats 400000 in
theorem same9_den (a b : List En) (ha : a.length ≤ 9223372036854775807) (hb : b.length ≤ 9223372036854775807)  : Den Try.prog 30 [.sl 4 (a.map enC), .sl 4 (b.map enC)]  (· = .s (.bool (decide (a = b)))) := by
 refine den_of_aw Try.func30 rfl (Nat.le_of_ble_eq_true rfl) (fun w0 A hf => ?_)
 refine aw_seq_k (fun K1 hK1 => ?_)
 refine aw_region ?_
 refine x_pure rfl (p_assign_bad) ?_
 first | refine aops_end ?_ | refine aops_nil ?_
 refine hK1 _ ?_
 refine aw_seq_k (fun K2 hK2 => ?_)
 refine aw_region ?_
 refine x_pure rfl (p_move rfl) ?_
 refine x_pure rfl (p_move rfl) ?_
 refine x_step hf rfl (r_call rfl rfl Try.ent53 rfl (eEqual_den a b ha hb)) ?_
 refine x_pure rfl (p_assign rfl) ?_
 first | refine aops_end ?_ | refine aops_nil ?_
 refine hK2 _ ?_
 refine aw_ret ?_
 refine ⟨_, rfl, ?_⟩
 rfl

set_option maxRecDepth 20000 in
set_option maxHeartbeats 400000 in
theorem refSame9_den (a b : List En) (ha : a.length ≤ 9223372036854775807) (hb : b.length ≤ 9223372036854775807)  : Den Try.prog 16 [.sl 4 (a.map enC), .sl 4 (b.map enC)]  (· = .s (.bool (decide (a = b)))) := by
 refine den_of_aw Try.func16 rfl (Nat.le_of_ble_eq_true rfl) (fun w0 A hf => ?_)
 refine aw_seq_k (fun K1 hK1 => ?_)
 refine aw_region ?_
 refine x_pure rfl (p_assign_bad) ?_
 first | refine aops_end ?_ | refine aops_nil ?_
 refine hK1 _ ?_
 refine aw_seq_k (fun K2 hK2 => ?_)
 refine aw_seq_k (fun K3 hK3 => ?_)
 refine aw_region ?_
 refine x_pure rfl (p_move rfl) ?_
 first | refine x_pure rfl (p_len_sl rfl Try.e22) ?_ | refine x_pure rfl (p_len_own rfl Try.e22) ?_ | refine x_pure rfl (p_len_nil rfl Try.e22) ?_
 refine x_pure rfl (p_move rfl) ?_
 first | refine x_pure rfl (p_len_sl rfl Try.e22) ?_ | refine x_pure rfl (p_len_own rfl Try.e22) ?_ | refine x_pure rfl (p_len_nil rfl Try.e22) ?_
 refine x_pure rfl (p_bin rfl rfl rfl) ?_
 first | refine aops_end ?_ | refine aops_nil ?_
 refine hK3 _ ?_
 refine aw_cond_s rfl (fun hc1 => ?_) (fun hc1 => ?_)
 ·
  try simp only [Bool.not_eq_true', Bool.not_eq_false', Bool.not_true, Bool.not_false, Bool.not_not, decide_eq_true_eq, decide_eq_false_iff_not, beq_iff_eq, beq_eq_false_iff_ne, bne_iff_ne, bne_eq_false_iff_eq, ne_eq, Int.not_lt, Int.not_le, Nat.not_lt, Nat.not_le, gt_iff_lt, ge_iff_le, Bool.and_eq_true, Bool.or_eq_true, Int.ofNat_lt, Int.ofNat_le, Int.natCast_inj, List.length_map, List.length_cons, List.length_nil, List.length_append] at hc1
  refine aw_seq_k (fun K4 hK4 => ?_)
  refine aw_region ?_
  refine x_pure rfl (p_assign rfl) ?_
  first | refine aops_end ?_ | refine aops_nil ?_
  refine hK4 _ ?_
  refine aw_ret ?_
  refine ⟨_, rfl, ?_⟩
  refine ret_bool ?_
  rw [eqrow_len (by omega)]
 ·
  try simp only [Bool.not_eq_true', Bool.not_eq_false', Bool.not_true, Bool.not_false, Bool.not_not, decide_eq_true_eq, decide_eq_false_iff_not, beq_iff_eq, beq_eq_false_iff_ne, bne_iff_ne, bne_eq_false_iff_eq, ne_eq, Int.not_lt, Int.not_le, Nat.not_lt, Nat.not_le, gt_iff_lt, ge_iff_le, Bool.and_eq_true, Bool.or_eq_true, Int.ofNat_lt, Int.ofNat_le, Int.natCast_inj, List.length_map, List.length_cons, List.length_nil, List.length_append] at hc1
  refine aw_skip ?_
  refine hK2 _ ?_
  refine aw_seq_k (fun K5 hK5 => ?_)
  refine aw_seq_k (fun K6 hK6 => ?_)
  refine aw_region ?_
  refine x_pure rfl (p_assign rfl) ?_
  first | refine aops_end ?_ | refine aops_nil ?_
  refine hK6 _ ?_
  refine aw_block ?_
  refine aw_loop (ι := Nat) (fun k => ⟨26, [(0, .sl 4 (a.map enC)), (1, .sl 4 (b.map enC)), (5, .s (.int .i64 (k : Nat)))], []⟩) (fun k => k ≤ a.length ∧ a.take k = b.take k) (fun k => a.length - k) 0 ?_ ?_ ?_
  · exact ⟨Nat.zero_le _, rfl⟩
  · exact le_of ⟨rfl, rfl, rfl, trivial⟩
  ·
   rintro k hC
   obtain ⟨h1, h2⟩ := hC
   refine aw_seq_k (fun K7 hK7 => ?_)
   refine aw_seq_k (fun K8 hK8 => ?_)
   refine aw_region ?_
   refine x_pure rfl (p_move rfl) ?_
   refine x_pure rfl (p_move rfl) ?_
   first | refine x_pure rfl (p_len_sl rfl Try.e22) ?_ | refine x_pure rfl (p_len_own rfl Try.e22) ?_ | refine x_pure rfl (p_len_nil rfl Try.e22) ?_
   refine x_pure rfl (p_bin rfl rfl rfl) ?_
   first | refine aops_end ?_ | refine aops_nil ?_
   refine hK8 _ ?_
   refine aw_cond_s rfl (fun hc2 => ?_) (fun hc2 => ?_)
   ·
    try simp only [Bool.not_eq_true', Bool.not_eq_false', Bool.not_true, Bool.not_false, Bool.not_not, decide_eq_true_eq, decide_eq_false_iff_not, beq_iff_eq, beq_eq_false_iff_ne, bne_iff_ne, bne_eq_false_iff_eq, ne_eq, Int.not_lt, Int.not_le, Nat.not_lt, Nat.not_le, gt_iff_lt, ge_iff_le, Bool.and_eq_true, Bool.or_eq_true, Int.ofNat_lt, Int.ofNat_le, Int.natCast_inj, List.length_map, List.length_cons, List.length_nil, List.length_append] at hc2
    refine aw_skip ?_
    refine hK7 _ ?_
    refine aw_seq_k (fun K9 hK9 => ?_)
    refine aw_block ?_
    refine aw_seq_k (fun K10 hK10 => ?_)
    refine aw_draw hf Try.mixed (by kernel_rfl) rfl ?_
    refine d_pure [(0, _)] rfl rfl ⟨⟨rfl, rfl⟩, trivial⟩ rfl (p_move rfl) ?_
    refine d_pure [(5, _)] rfl rfl ⟨⟨rfl, rfl⟩, trivial⟩ rfl (p_move rfl) ?_
    first | refine d_pure [(17, _), (18, _)] rfl rfl ⟨⟨rfl, rfl⟩, ⟨rfl, rfl⟩, trivial⟩ rfl (p_idx_sl rfl rfl Try.e22 Try.c57 (by first | assumption | (refine ⟨by omega, ?_⟩; first | assumption | exact strs_at (by omega) | exact strs_at (by simp only [List.length_cons] at *; omega) | exact ints_at (by omega) | exact map_at (by omega) | exact list_at (by omega)) | exact ⟨by decide, rfl⟩)) ?_ | refine d_pure [(17, _), (18, _)] rfl rfl ⟨⟨rfl, rfl⟩, ⟨rfl, rfl⟩, trivial⟩ rfl (p_idx_own rfl rfl Try.e22 Try.c57 (by omega)) ?_
    first | refine d_pure [(19, _)] rfl rfl ⟨⟨rfl, rfl⟩, trivial⟩ rfl (p_loads rfl Try.g57 Try.c57 rfl rfl) ?_ | refine d_pure [(19, _)] rfl rfl ⟨⟨rfl, rfl⟩, trivial⟩ rfl (p_loadsr rfl Try.g57 Try.c57 rfl rfl rfl) ?_
    refine d_pure [(1, _)] rfl rfl ⟨⟨rfl, rfl⟩, trivial⟩ rfl (p_move rfl) ?_
    refine d_pure [(5, _)] rfl rfl ⟨⟨rfl, rfl⟩, trivial⟩ rfl (p_move rfl) ?_
    first | refine d_pure [(21, _), (22, _)] rfl rfl ⟨⟨rfl, rfl⟩, ⟨rfl, rfl⟩, trivial⟩ rfl (p_idx_sl rfl rfl Try.e22 Try.c57 (by first | assumption | (refine ⟨by omega, ?_⟩; first | assumption | exact strs_at (by omega) | exact strs_at (by simp only [List.length_cons] at *; omega) | exact ints_at (by omega) | exact map_at (by omega) | exact list_at (by omega)) | exact ⟨by decide, rfl⟩)) ?_ | refine d_pure [(21, _), (22, _)] rfl rfl ⟨⟨rfl, rfl⟩, ⟨rfl, rfl⟩, trivial⟩ rfl (p_idx_own rfl rfl Try.e22 Try.c57 (by omega)) ?_
    first | refine d_pure [(23, _)] rfl rfl ⟨⟨rfl, rfl⟩, trivial⟩ rfl (p_loads rfl Try.g57 Try.c57 rfl rfl) ?_ | refine d_pure [(23, _)] rfl rfl ⟨⟨rfl, rfl⟩, trivial⟩ rfl (p_loadsr rfl Try.g57 Try.c57 rfl rfl rfl) ?_
    refine d_pure [(20, _), (24, _)] rfl rfl ⟨⟨rfl, rfl⟩, ⟨rfl, rfl⟩, trivial⟩ rfl (p_neagg rfl rfl Try.q57 rfl) ?_
    rw [enC_eqF]
    refine lex_end (sl' := [(0, _), (1, _), (5, _), (25, _)]) rfl ⟨rfl, rfl, rfl, rfl, trivial⟩ rfl ?_
    refine hK10 _ ?_
    refine aw_cond_s rfl (fun hc3 => ?_) (fun hc3 => ?_)
    ·
     try simp only [Bool.not_eq_true', Bool.not_eq_false', Bool.not_true, Bool.not_false, Bool.not_not, decide_eq_true_eq, decide_eq_false_iff_not, beq_iff_eq, beq_eq_false_iff_ne, bne_iff_ne, bne_eq_false_iff_eq, ne_eq, Int.not_lt, Int.not_le, Nat.not_lt, Nat.not_le, gt_iff_lt, ge_iff_le, Bool.and_eq_true, Bool.or_eq_true, Int.ofNat_lt, Int.ofNat_le, Int.natCast_inj, List.length_map, List.length_cons, List.length_nil, List.length_append] at hc3
     refine aw_seq_k (fun K11 hK11 => ?_)
     refine aw_region ?_
     refine x_pure rfl (p_assign rfl) ?_
     first | refine aops_end ?_ | refine aops_nil ?_
     refine hK11 _ ?_
     refine aw_ret ?_
     refine ⟨_, rfl, ?_⟩
     refine ret_bool ?_
     rw [eqrow_diff (by omega) (by omega) (by assumption)]
    ·
     try simp only [Bool.not_eq_true', Bool.not_eq_false', Bool.not_true, Bool.not_false, Bool.not_not, decide_eq_true_eq, decide_eq_false_iff_not, beq_iff_eq, beq_eq_false_iff_ne, bne_iff_ne, bne_eq_false_iff_eq, ne_eq, Int.not_lt, Int.not_le, Nat.not_lt, Nat.not_le, gt_iff_lt, ge_iff_le, Bool.and_eq_true, Bool.or_eq_true, Int.ofNat_lt, Int.ofNat_le, Int.natCast_inj, List.length_map, List.length_cons, List.length_nil, List.length_append] at hc3
     refine aw_skip ?_
     refine hK9 _ ?_
     refine aw_region ?_
     refine x_pure rfl (p_move rfl) ?_
     first | refine x_pure rfl (p_add rfl rfl (by omega) (by omega)) ?_ | refine x_pure rfl (p_bin rfl rfl rfl) ?_
     refine x_pure rfl (p_assign rfl) ?_
     first | refine aops_end ?_ | refine aops_nil ?_
     exact ⟨k+1, ⟨by omega, eqrow_next (by omega) (by omega) h2 (by assumption)⟩, by omega, le_of ⟨rfl, rfl, rfl, trivial⟩⟩
   ·
    try simp only [Bool.not_eq_true', Bool.not_eq_false', Bool.not_true, Bool.not_false, Bool.not_not, decide_eq_true_eq, decide_eq_false_iff_not, beq_iff_eq, beq_eq_false_iff_ne, bne_iff_ne, bne_eq_false_iff_eq, ne_eq, Int.not_lt, Int.not_le, Nat.not_lt, Nat.not_le, gt_iff_lt, ge_iff_le, Bool.and_eq_true, Bool.or_eq_true, Int.ofNat_lt, Int.ofNat_le, Int.natCast_inj, List.length_map, List.length_cons, List.length_nil, List.length_append] at hc2
    refine aw_exit ?_
    refine hK5 _ ?_
    refine aw_seq_k (fun K12 hK12 => ?_)
    refine aw_region ?_
    refine x_pure rfl (p_assign rfl) ?_
    first | refine aops_end ?_ | refine aops_nil ?_
    refine hK12 _ ?_
    refine aw_ret ?_
    refine ⟨_, rfl, ?_⟩
    refine ret_bool ?_
    rw [eqrow_end (by omega) (by omega) h2]

set_option maxRecDepth 20000 in
set_option maxHeartbeats 400000 in
theorem news9_den (l : List En) (hl : l.length * 48 ≤ 140737488351232)  : Den Try.prog 11 [.sl 4 (l.map enC)]  (· = .sl 4 (l.map enC)) := by
 refine den_of_aw Try.func11 rfl (Nat.le_of_ble_eq_true rfl) (fun w0 A hf => ?_)
 refine aw_seq_k (fun K1 hK1 => ?_)
 refine aw_region ?_
 refine x_pure rfl (p_assign_bad) ?_
 first | refine aops_end ?_ | refine aops_nil ?_
 refine hK1 _ ?_
 refine aw_seq_k (fun K2 hK2 => ?_)
 refine aw_region ?_
 refine x_nil hf 4 rfl rfl rfl ?_
 first | refine aops_end ?_ | refine aops_nil ?_
 refine hK2 _ ?_
 refine aw_seq_k (fun K3 hK3 => ?_)
 refine aw_seq_k (fun K4 hK4 => ?_)
 refine aw_region ?_
 refine x_pure rfl (p_move rfl) ?_
 first | refine x_pure rfl (p_len_sl rfl Try.e22) ?_ | refine x_pure rfl (p_len_own rfl Try.e22) ?_ | refine x_pure rfl (p_len_nil rfl Try.e22) ?_
 refine x_pure rfl (p_move rfl) ?_
 first | refine aops_end ?_ | refine aops_nil ?_
 refine hK4 _ ?_
 refine aw_block ?_
 refine aw_loop (ι := Nat) (fun k => ⟨26, [(3, .own 3 4 0 (l.take k).length), (6, .sl 4 (l.map enC)), (7, .s (.int .i64 ((l.map enC).length : Nat))), (8, .s (.int .i64 (k : Nat)))], [(3, .buf 4 ((l.take k).map enC))]⟩) (fun k => k ≤ l.length) (fun k => l.length - k) 0 ?_ ?_ ?_
 · exact Nat.zero_le _
 · exact le_of ⟨rfl, rfl, rfl, rfl, trivial⟩
 ·
  rintro k hC
  refine aw_seq_k (fun K5 hK5 => ?_)
  refine aw_region ?_
  refine x_pure rfl (p_bin rfl rfl rfl) ?_
  first | refine aops_end ?_ | refine aops_nil ?_
  refine hK5 _ ?_
  refine aw_seq_k (fun K6 hK6 => ?_)
  refine aw_cond_s rfl (fun hc1 => ?_) (fun hc1 => ?_)
  ·
   try simp only [Bool.not_eq_true', Bool.not_eq_false', Bool.not_true, Bool.not_false, Bool.not_not, decide_eq_true_eq, decide_eq_false_iff_not, beq_iff_eq, beq_eq_false_iff_ne, bne_iff_ne, bne_eq_false_iff_eq, ne_eq, Int.not_lt, Int.not_le, Nat.not_lt, Nat.not_le, gt_iff_lt, ge_iff_le, Bool.and_eq_true, Bool.or_eq_true, Int.ofNat_lt, Int.ofNat_le, Int.natCast_inj, List.length_map, List.length_cons, List.length_nil, List.length_append] at hc1
   refine aw_skip ?_
   refine hK6 _ ?_
   refine aw_seq_k (fun K7 hK7 => ?_)
   refine aw_block ?_
   refine aw_seq_k (fun K8 hK8 => ?_)
   refine aw_region ?_
   first | refine x_pure rfl (p_idx_sl rfl rfl Try.e22 Try.c57 (by first | assumption | (refine ⟨by omega, ?_⟩; first | assumption | exact strs_at (by omega) | exact strs_at (by simp only [List.length_cons] at *; omega) | exact ints_at (by omega) | exact map_at (by omega) | exact list_at (by omega)) | exact ⟨by decide, rfl⟩)) ?_ | refine x_pure rfl (p_idx_own rfl rfl Try.e22 Try.c57 (by omega)) ?_
   first | refine x_pure rfl (p_loads rfl Try.g57 Try.c57 rfl rfl) ?_ | refine x_pure rfl (p_loadsr rfl Try.g57 Try.c57 rfl rfl rfl) ?_
   refine x_allocst hf rfl Try.z57 rfl Try.c57 rfl rfl rfl rfl (by simp [enC, AV.cells, AV.leaf, Value.oneCell', splice, AV.kill, AV.clean, cleanL, AV.only]) ?_
   first | refine aops_end ?_ | refine aops_nil ?_
   refine hK8 _ ?_
   refine aw_region ?_
   have htl : (l.take k).length = k := by rw [List.length_take]; omega
   refine x_pure rfl (p_move rfl) ?_
   first | refine x_pure rfl (p_fld_adr rfl Try.fd57_0 Try.c9 rfl) ?_ | refine x_pure rfl (p_fld_ref rfl Try.fd57_0 Try.c9 rfl) ?_
   first | refine x_pure rfl (p_load1 rfl Try.g9 rfl) ?_ | refine x_pure rfl (p_load1r rfl Try.g9 rfl rfl) ?_ | refine x_pure rfl (p_load1r rfl Try.g9 rfl (strs_ref (by simp only [List.length_cons] at *; omega))) ?_ | refine x_pure rfl (p_load1r rfl Try.g9 rfl (strs_ref (by omega))) ?_
   first | refine x_pure rfl (p_fld_adr rfl Try.fd57_1 Try.c9 rfl) ?_ | refine x_pure rfl (p_fld_ref rfl Try.fd57_1 Try.c9 rfl) ?_
   first | refine x_pure rfl (p_load1 rfl Try.g9 rfl) ?_ | refine x_pure rfl (p_load1r rfl Try.g9 rfl rfl) ?_ | refine x_pure rfl (p_load1r rfl Try.g9 rfl (strs_ref (by simp only [List.length_cons] at *; omega))) ?_ | refine x_pure rfl (p_load1r rfl Try.g9 rfl (strs_ref (by omega))) ?_
   first | refine x_pure rfl (p_fld_adr rfl Try.fd57_2 Try.c3 rfl) ?_ | refine x_pure rfl (p_fld_ref rfl Try.fd57_2 Try.c3 rfl) ?_
   first | refine x_pure rfl (p_load1 rfl Try.g3 rfl) ?_ | refine x_pure rfl (p_load1r rfl Try.g3 rfl rfl) ?_ | refine x_pure rfl (p_load1r rfl Try.g3 rfl (strs_ref (by simp only [List.length_cons] at *; omega))) ?_ | refine x_pure rfl (p_load1r rfl Try.g3 rfl (strs_ref (by omega))) ?_
   first | refine x_pure rfl (p_fld_adr rfl Try.fd57_3 Try.c3 rfl) ?_ | refine x_pure rfl (p_fld_ref rfl Try.fd57_3 Try.c3 rfl) ?_
   first | refine x_pure rfl (p_load1 rfl Try.g3 rfl) ?_ | refine x_pure rfl (p_load1r rfl Try.g3 rfl rfl) ?_ | refine x_pure rfl (p_load1r rfl Try.g3 rfl (strs_ref (by simp only [List.length_cons] at *; omega))) ?_ | refine x_pure rfl (p_load1r rfl Try.g3 rfl (strs_ref (by omega))) ?_
   refine x_step hf rfl (r_call rfl rfl Try.ent35 rfl (one_den _ _ _ _)) ?_
   refine x_step hf rfl (r_buildSlice Try.ap26 rfl rfl rfl rfl (by simp [enC, AV.cells, AV.leaf, Value.oneCell', splice, AV.kill, AV.clean, cleanL, AV.only])) ?_
   refine x_append hf rfl Try.ap26 rfl rfl rfl (.inl rfl) (by rw [List.length_map]) rfl (by first | rfl | simp [asrc, look]) (by first | (simp only [maxLen, List.length_map, List.length_append, List.length_cons, List.length_nil]; omega) | (simp [maxLen] <;> omega)) (by first | (simp only [List.length_map, List.length_append, List.length_cons, List.length_nil]; omega) | (simp <;> omega)) ?_
   refine aops_le (le_of (sl' := [(6, _), (7, _), (8, _), (23, _)]) ⟨rfl, rfl, rfl, rfl, trivial⟩) ?_
   refine x_pure rfl (p_assign rfl) ?_
   first | refine aops_end ?_ | refine aops_nil ?_
   refine hK7 _ ?_
   refine aw_region ?_
   first | refine x_pure rfl (p_add rfl rfl (by omega) (by omega)) ?_ | refine x_pure rfl (p_bin rfl rfl rfl) ?_
   refine x_pure rfl (p_move rfl) ?_
   first | refine aops_end ?_ | refine aops_nil ?_
   exact ⟨k + 1, by omega, by omega, le_to ⟨(by rw [take_len1 l k (by omega)]; rfl), rfl, rfl, rfl, trivial⟩ (by rw [take_map l enC k (by omega)]; rfl)⟩
  ·
   try simp only [Bool.not_eq_true', Bool.not_eq_false', Bool.not_true, Bool.not_false, Bool.not_not, decide_eq_true_eq, decide_eq_false_iff_not, beq_iff_eq, beq_eq_false_iff_ne, bne_iff_ne, bne_eq_false_iff_eq, ne_eq, Int.not_lt, Int.not_le, Nat.not_lt, Nat.not_le, gt_iff_lt, ge_iff_le, Bool.and_eq_true, Bool.or_eq_true, Int.ofNat_lt, Int.ofNat_le, Int.natCast_inj, List.length_map, List.length_cons, List.length_nil, List.length_append] at hc1
   refine aw_exit ?_
   refine hK3 _ ?_
   refine aw_seq_k (fun K9 hK9 => ?_)
   refine aw_region ?_
   refine x_pure rfl (p_move rfl) ?_
   refine x_pure rfl (p_assign rfl) ?_
   first | refine aops_end ?_ | refine aops_nil ?_
   refine hK9 _ ?_
   refine aw_ret ?_
   refine ⟨_, rfl, ?_⟩
   refine (conv_whole (g := 3) rfl (by rw [List.length_map])).trans ?_
   rw [List.take_of_length_le (by omega)]

set_option maxRecDepth 20000 in
set_option maxHeartbeats 400000 in
theorem olds9_den (l : List En) (hl : l.length * 48 ≤ 140737488351232)  : Den Try.prog 17 [.sl 4 (l.map enC)]  (· = .sl 4 (l.map enC)) := by
 refine den_of_aw Try.func17 rfl (Nat.le_of_ble_eq_true rfl) (fun w0 A hf => ?_)
 refine aw_seq_k (fun K1 hK1 => ?_)
 refine aw_region ?_
 refine x_pure rfl (p_assign_bad) ?_
 first | refine aops_end ?_ | refine aops_nil ?_
 refine hK1 _ ?_
 refine aw_seq_k (fun K2 hK2 => ?_)
 refine aw_region ?_
 refine x_nil hf 4 rfl rfl rfl ?_
 first | refine aops_end ?_ | refine aops_nil ?_
 refine hK2 _ ?_
 refine aw_seq_k (fun K3 hK3 => ?_)
 refine aw_seq_k (fun K4 hK4 => ?_)
 refine aw_region ?_
 refine x_pure rfl (p_move rfl) ?_
 first | refine x_pure rfl (p_len_sl rfl Try.e26) ?_ | refine x_pure rfl (p_len_own rfl Try.e26) ?_ | refine x_pure rfl (p_len_nil rfl Try.e26) ?_
 refine x_pure rfl (p_move rfl) ?_
 first | refine aops_end ?_ | refine aops_nil ?_
 refine hK4 _ ?_
 refine aw_block ?_
 refine aw_loop (ι := Nat) (fun k => ⟨30, [(3, .own 3 4 0 (l.take k).length), (6, .sl 4 (l.map enC)), (7, .s (.int .i64 ((l.map enC).length : Nat))), (8, .s (.int .i64 (k : Nat)))], [(3, .buf 4 ((l.take k).map enC))]⟩) (fun k => k ≤ l.length) (fun k => l.length - k) 0 ?_ ?_ ?_
 · exact Nat.zero_le _
 · exact le_of ⟨rfl, rfl, rfl, rfl, trivial⟩
 ·
  rintro k hC
  refine aw_seq_k (fun K5 hK5 => ?_)
  refine aw_region ?_
  refine x_pure rfl (p_bin rfl rfl rfl) ?_
  first | refine aops_end ?_ | refine aops_nil ?_
  refine hK5 _ ?_
  refine aw_seq_k (fun K6 hK6 => ?_)
  refine aw_cond_s rfl (fun hc1 => ?_) (fun hc1 => ?_)
  ·
   try simp only [Bool.not_eq_true', Bool.not_eq_false', Bool.not_true, Bool.not_false, Bool.not_not, decide_eq_true_eq, decide_eq_false_iff_not, beq_iff_eq, beq_eq_false_iff_ne, bne_iff_ne, bne_eq_false_iff_eq, ne_eq, Int.not_lt, Int.not_le, Nat.not_lt, Nat.not_le, gt_iff_lt, ge_iff_le, Bool.and_eq_true, Bool.or_eq_true, Int.ofNat_lt, Int.ofNat_le, Int.natCast_inj, List.length_map, List.length_cons, List.length_nil, List.length_append] at hc1
   refine aw_skip ?_
   refine hK6 _ ?_
   refine aw_seq_k (fun K7 hK7 => ?_)
   refine aw_block ?_
   refine aw_seq_k (fun K8 hK8 => ?_)
   refine aw_region ?_
   first | refine x_pure rfl (p_idx_sl rfl rfl Try.e26 Try.c63 (by first | assumption | (refine ⟨by omega, ?_⟩; first | assumption | exact strs_at (by omega) | exact strs_at (by simp only [List.length_cons] at *; omega) | exact ints_at (by omega) | exact map_at (by omega) | exact list_at (by omega)) | exact ⟨by decide, rfl⟩)) ?_ | refine x_pure rfl (p_idx_own rfl rfl Try.e26 Try.c63 (by omega)) ?_
   first | refine x_pure rfl (p_loads rfl Try.g63 Try.c63 rfl rfl) ?_ | refine x_pure rfl (p_loadsr rfl Try.g63 Try.c63 rfl rfl rfl) ?_
   refine x_allocst hf rfl Try.z63 rfl Try.c63 rfl rfl rfl rfl (by simp [enC, AV.cells, AV.leaf, Value.oneCell', splice, AV.kill, AV.clean, cleanL, AV.only]) ?_
   first | refine aops_end ?_ | refine aops_nil ?_
   refine hK8 _ ?_
   refine aw_region ?_
   have htl : (l.take k).length = k := by rw [List.length_take]; omega
   refine x_pure rfl (p_move rfl) ?_
   first | refine x_pure rfl (p_fld_adr rfl Try.fd63_0 Try.c31 rfl) ?_ | refine x_pure rfl (p_fld_ref rfl Try.fd63_0 Try.c31 rfl) ?_
   first | refine x_pure rfl (p_fld_adr rfl Try.fd31_0 Try.c9 rfl) ?_ | refine x_pure rfl (p_fld_ref rfl Try.fd31_0 Try.c9 rfl) ?_
   first | refine x_pure rfl (p_load1 rfl Try.g9 rfl) ?_ | refine x_pure rfl (p_load1r rfl Try.g9 rfl rfl) ?_ | refine x_pure rfl (p_load1r rfl Try.g9 rfl (strs_ref (by simp only [List.length_cons] at *; omega))) ?_ | refine x_pure rfl (p_load1r rfl Try.g9 rfl (strs_ref (by omega))) ?_
   first | refine x_pure rfl (p_fld_adr rfl Try.fd63_0 Try.c31 rfl) ?_ | refine x_pure rfl (p_fld_ref rfl Try.fd63_0 Try.c31 rfl) ?_
   first | refine x_pure rfl (p_fld_adr rfl Try.fd31_1 Try.c9 rfl) ?_ | refine x_pure rfl (p_fld_ref rfl Try.fd31_1 Try.c9 rfl) ?_
   first | refine x_pure rfl (p_load1 rfl Try.g9 rfl) ?_ | refine x_pure rfl (p_load1r rfl Try.g9 rfl rfl) ?_ | refine x_pure rfl (p_load1r rfl Try.g9 rfl (strs_ref (by simp only [List.length_cons] at *; omega))) ?_ | refine x_pure rfl (p_load1r rfl Try.g9 rfl (strs_ref (by omega))) ?_
   first | refine x_pure rfl (p_fld_adr rfl Try.fd63_1 Try.c60 rfl) ?_ | refine x_pure rfl (p_fld_ref rfl Try.fd63_1 Try.c60 rfl) ?_
   first | refine x_pure rfl (p_fld_adr rfl Try.fd60_0 Try.c3 rfl) ?_ | refine x_pure rfl (p_fld_ref rfl Try.fd60_0 Try.c3 rfl) ?_
   first | refine x_pure rfl (p_load1 rfl Try.g3 rfl) ?_ | refine x_pure rfl (p_load1r rfl Try.g3 rfl rfl) ?_ | refine x_pure rfl (p_load1r rfl Try.g3 rfl (strs_ref (by simp only [List.length_cons] at *; omega))) ?_ | refine x_pure rfl (p_load1r rfl Try.g3 rfl (strs_ref (by omega))) ?_
   first | refine x_pure rfl (p_fld_adr rfl Try.fd63_1 Try.c60 rfl) ?_ | refine x_pure rfl (p_fld_ref rfl Try.fd63_1 Try.c60 rfl) ?_
   first | refine x_pure rfl (p_fld_adr rfl Try.fd60_1 Try.c3 rfl) ?_ | refine x_pure rfl (p_fld_ref rfl Try.fd60_1 Try.c3 rfl) ?_
   first | refine x_pure rfl (p_load1 rfl Try.g3 rfl) ?_ | refine x_pure rfl (p_load1r rfl Try.g3 rfl rfl) ?_ | refine x_pure rfl (p_load1r rfl Try.g3 rfl (strs_ref (by simp only [List.length_cons] at *; omega))) ?_ | refine x_pure rfl (p_load1r rfl Try.g3 rfl (strs_ref (by omega))) ?_
   refine x_pure rfl (p_build rfl Try.z57 Try.pl57 (by simp [enC, AV.cells, AV.one, Value.oneCell', splice, AV.kill, AV.clean, cleanL, AV.only]) rfl) ?_
   refine x_step hf rfl (r_buildSlice Try.ap22 rfl rfl rfl rfl (by simp [enC, AV.cells, AV.leaf, Value.oneCell', splice, AV.kill, AV.clean, cleanL, AV.only])) ?_
   refine x_append hf rfl Try.ap22 rfl rfl rfl (.inl rfl) (by rw [List.length_map]) rfl (by first | rfl | simp [asrc, look]) (by first | (simp only [maxLen, List.length_map, List.length_append, List.length_cons, List.length_nil]; omega) | (simp [maxLen] <;> omega)) (by first | (simp only [List.length_map, List.length_append, List.length_cons, List.length_nil]; omega) | (simp <;> omega)) ?_
   refine aops_le (le_of (sl' := [(6, _), (7, _), (8, _), (27, _)]) ⟨rfl, rfl, rfl, rfl, trivial⟩) ?_
   refine x_pure rfl (p_assign rfl) ?_
   first | refine aops_end ?_ | refine aops_nil ?_
   refine hK7 _ ?_
   refine aw_region ?_
   first | refine x_pure rfl (p_add rfl rfl (by omega) (by omega)) ?_ | refine x_pure rfl (p_bin rfl rfl rfl) ?_
   refine x_pure rfl (p_move rfl) ?_
   first | refine aops_end ?_ | refine aops_nil ?_
   exact ⟨k + 1, by omega, by omega, le_to ⟨(by rw [take_len1 l k (by omega)]; rfl), rfl, rfl, rfl, trivial⟩ (by rw [take_map l enC k (by omega)]; rfl)⟩
  ·
   try simp only [Bool.not_eq_true', Bool.not_eq_false', Bool.not_true, Bool.not_false, Bool.not_not, decide_eq_true_eq, decide_eq_false_iff_not, beq_iff_eq, beq_eq_false_iff_ne, bne_iff_ne, bne_eq_false_iff_eq, ne_eq, Int.not_lt, Int.not_le, Nat.not_lt, Nat.not_le, gt_iff_lt, ge_iff_le, Bool.and_eq_true, Bool.or_eq_true, Int.ofNat_lt, Int.ofNat_le, Int.natCast_inj, List.length_map, List.length_cons, List.length_nil, List.length_append] at hc1
   refine aw_exit ?_
   refine hK3 _ ?_
   refine aw_seq_k (fun K9 hK9 => ?_)
   refine aw_region ?_
   refine x_pure rfl (p_move rfl) ?_
   refine x_pure rfl (p_assign rfl) ?_
   first | refine aops_end ?_ | refine aops_nil ?_
   refine hK9 _ ?_
   refine aw_ret ?_
   refine ⟨_, rfl, ?_⟩
   refine (conv_whole (g := 3) rfl (by rw [List.length_map])).trans ?_
   rw [List.take_of_length_le (by omega)]
end Go.Proofs.Ytblbkjdfgpffpaa
