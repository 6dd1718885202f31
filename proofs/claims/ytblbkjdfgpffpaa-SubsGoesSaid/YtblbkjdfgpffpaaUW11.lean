import Derived.Test.YtblbkjdfgpffpaaUW9
import Derived.Test.YtblbkjdfgpffpaaU6
set_option linter.unusedVariables false
set_option linter.unusedSimpArgs false
namespace Go.Proofs.Ytblbkjdfgpffpaa
open Go Go.Abs

set_option maxRecDepth 20000 in
set_option maxHeartbeats 16000000 in
theorem subsGoes_den (l : List En) (hl : l.length * 48 ≤ 140737488351232) (ht : ∀ e ∈ l, TS e.1.1 ∧ TS e.1.2)  : Den Try.prog 9 [.sl 4 (l.map enC)]  (· = .s (.bool true)) := by
 refine den_of_aw Try.func9 rfl (Nat.le_of_ble_eq_true rfl) (fun w0 A hf => ?_)
 refine aw_seq_k (fun K1 hK1 => ?_)
 refine aw_region ?_
 refine x_pure rfl (p_assign_bad) ?_
 first | refine aops_end ?_ | refine aops_nil ?_
 refine hK1 _ ?_
 refine aw_seq_k (fun K2 hK2 => ?_)
 refine aw_seq_k (fun K3 hK3 => ?_)
 refine aw_region ?_
 refine x_pure rfl (p_move rfl) ?_
 first | refine x_pure rfl (p_len_sl rfl Try.e22) ?_ | refine x_pure rfl (p_len_own rfl Try.e22) ?_ | refine x_pure rfl (p_len_nil rfl Try.e22) ?_
 refine x_pure rfl (p_bin rfl rfl rfl) ?_
 first | refine aops_end ?_ | refine aops_nil ?_
 refine hK3 _ ?_
 refine aw_cond_s rfl (fun hc1 => ?_) (fun hc1 => ?_)
 ·
  try simp only [Bool.not_eq_true', Bool.not_eq_false', Bool.not_true, Bool.not_false, Bool.not_not, decide_eq_true_eq, decide_eq_false_iff_not, beq_iff_eq, beq_eq_false_iff_ne, bne_iff_ne, bne_eq_false_iff_eq, ne_eq, Int.not_lt, Int.not_le, Nat.not_lt, Nat.not_le, gt_iff_lt, ge_iff_le, Bool.and_eq_true, Bool.or_eq_true, Int.ofNat_lt, Int.ofNat_le, Int.natCast_inj, List.length_map, List.length_cons, List.length_nil, List.length_append] at hc1
  refine aw_seq_k (fun K4 hK4 => ?_)
  refine aw_region ?_
  refine x_step hf rfl (r_call rfl rfl Try.ent10 rfl (alive9_den)) ?_
  refine x_pure rfl (p_assign rfl) ?_
  first | refine aops_end ?_ | refine aops_nil ?_
  refine hK4 _ ?_
  refine aw_ret ?_
  refine ⟨_, rfl, ?_⟩
  rfl
 ·
  try simp only [Bool.not_eq_true', Bool.not_eq_false', Bool.not_true, Bool.not_false, Bool.not_not, decide_eq_true_eq, decide_eq_false_iff_not, beq_iff_eq, beq_eq_false_iff_ne, bne_iff_ne, bne_eq_false_iff_eq, ne_eq, Int.not_lt, Int.not_le, Nat.not_lt, Nat.not_le, gt_iff_lt, ge_iff_le, Bool.and_eq_true, Bool.or_eq_true, Int.ofNat_lt, Int.ofNat_le, Int.natCast_inj, List.length_map, List.length_cons, List.length_nil, List.length_append] at hc1
  refine aw_skip ?_
  refine hK2 _ ?_
  refine aw_seq_k (fun K5 hK5 => ?_)
  refine aw_region ?_
  refine x_pure rfl (p_nil (k := 4)) ?_
  first | refine aops_end ?_ | refine aops_nil ?_
  refine hK5 _ ?_
  refine aw_seq_k (fun K6 hK6 => ?_)
  refine aw_region ?_
  refine x_pure rfl (p_assign rfl) ?_
  first | refine aops_end ?_ | refine aops_nil ?_
  refine hK6 _ ?_
  refine aw_seq_k (fun K7 hK7 => ?_)
  refine aw_seq_k (fun K8 hK8 => ?_)
  refine aw_region ?_
  refine x_pure rfl (p_move rfl) ?_
  first | refine x_pure rfl (p_len_sl rfl Try.e22) ?_ | refine x_pure rfl (p_len_own rfl Try.e22) ?_ | refine x_pure rfl (p_len_nil rfl Try.e22) ?_
  refine x_pure rfl (p_move rfl) ?_
  first | refine aops_end ?_ | refine aops_nil ?_
  refine hK8 _ ?_
  refine aw_block ?_
  refine aw_loop (ι := Nat × List En × Int) (fun (⟨k, x, a⟩ : Nat × List En × Int) => ⟨101, [(3, .sl 4 (x.map enC)), (4, .s (.int .i64 a)), (17, .sl 4 (l.map enC)), (18, .s (.int .i64 ((l.map enC).length : Nat))), (19, .s (.int .i64 (k : Nat)))], []⟩) (fun (⟨k, x, a⟩ : Nat × List En × Int) => k ≤ l.length ∧ GoesI x a ∧ x.length ≤ k) (fun (⟨k, x, a⟩ : Nat × List En × Int) => l.length - k) (0, [], 0) ?_ ?_ ?_
  · exact ⟨Nat.zero_le _, ⟨rfl, by simp⟩, Nat.le_refl _⟩
  · exact le_of ⟨rfl, rfl, rfl, rfl, rfl, trivial⟩
  ·
   rintro ⟨k, x, a⟩ hC
   obtain ⟨h1, hI, h3⟩ := hC
   refine aw_seq_k (fun K9 hK9 => ?_)
   refine aw_region ?_
   refine x_pure rfl (p_bin rfl rfl rfl) ?_
   first | refine aops_end ?_ | refine aops_nil ?_
   refine hK9 _ ?_
   refine aw_seq_k (fun K10 hK10 => ?_)
   refine aw_cond_s rfl (fun hc2 => ?_) (fun hc2 => ?_)
   ·
    try simp only [Bool.not_eq_true', Bool.not_eq_false', Bool.not_true, Bool.not_false, Bool.not_not, decide_eq_true_eq, decide_eq_false_iff_not, beq_iff_eq, beq_eq_false_iff_ne, bne_iff_ne, bne_eq_false_iff_eq, ne_eq, Int.not_lt, Int.not_le, Nat.not_lt, Nat.not_le, gt_iff_lt, ge_iff_le, Bool.and_eq_true, Bool.or_eq_true, Int.ofNat_lt, Int.ofNat_le, Int.natCast_inj, List.length_map, List.length_cons, List.length_nil, List.length_append] at hc2
    refine aw_skip ?_
    refine hK10 _ ?_
    refine aw_seq_k (fun K11 hK11 => ?_)
    refine aw_block ?_
    refine aw_seq_k (fun K12 hK12 => ?_)
    refine aw_region ?_
    first | refine x_pure rfl (p_idx_sl rfl rfl Try.e22 Try.c57 (by first | assumption | (refine ⟨by omega, ?_⟩; first | assumption | exact strs_at (by omega) | exact strs_at (by simp only [List.length_cons] at *; omega) | exact ints_at (by omega) | exact map_at (by omega) | exact list_at (by omega)) | exact ⟨by decide, rfl⟩)) ?_ | refine x_pure rfl (p_idx_own rfl rfl Try.e22 Try.c57 (by omega)) ?_
    first | refine x_pure rfl (p_loads rfl Try.g57 Try.c57 rfl rfl) ?_ | refine x_pure rfl (p_loadsr rfl Try.g57 Try.c57 rfl rfl rfl) ?_
    refine x_allocst hf rfl Try.z57 rfl Try.c57 rfl rfl rfl rfl (by simp [enC, prC, spC, AV.cells, AV.leaf, Value.oneCell', splice, AV.kill, AV.clean, cleanL, AV.only]) ?_
    first | refine aops_end ?_ | refine aops_nil ?_
    refine hK12 _ ?_
    refine aw_seq_k (fun K13 hK13 => ?_)
    refine aw_region ?_
    first | refine x_pure rfl (p_fld_adr rfl Try.fd57_0 Try.c9 rfl) ?_ | refine x_pure rfl (p_fld_ref rfl Try.fd57_0 Try.c9 rfl) ?_
    first | refine x_pure rfl (p_load1 rfl Try.g9 rfl) ?_ | refine x_pure rfl (p_load1r rfl Try.g9 rfl rfl) ?_ | refine x_pure rfl (p_load1r rfl Try.g9 rfl (strs_ref (by simp only [List.length_cons] at *; omega))) ?_ | refine x_pure rfl (p_load1r rfl Try.g9 rfl (strs_ref (by omega))) ?_
    first | refine x_pure rfl (p_fld_adr rfl Try.fd57_1 Try.c9 rfl) ?_ | refine x_pure rfl (p_fld_ref rfl Try.fd57_1 Try.c9 rfl) ?_
    first | refine x_pure rfl (p_load1 rfl Try.g9 rfl) ?_ | refine x_pure rfl (p_load1r rfl Try.g9 rfl rfl) ?_ | refine x_pure rfl (p_load1r rfl Try.g9 rfl (strs_ref (by simp only [List.length_cons] at *; omega))) ?_ | refine x_pure rfl (p_load1r rfl Try.g9 rfl (strs_ref (by omega))) ?_
    refine x_pure rfl (p_build rfl Try.z31 Try.pl31 (by simp [enC, prC, spC, AV.cells, AV.one, Value.oneCell', splice, AV.kill, AV.clean, cleanL, AV.only]) rfl) ?_
    refine x_allocst hf rfl Try.z31 rfl Try.c31 rfl rfl rfl rfl (by simp [enC, prC, spC, AV.cells, AV.leaf, Value.oneCell', splice, AV.kill, AV.clean, cleanL, AV.only]) ?_
    first | refine aops_end ?_ | refine aops_nil ?_
    refine hK13 _ ?_
    refine aw_seq_k (fun K14 hK14 => ?_)
    refine aw_seq_k (fun K15 hK15 => ?_)
    refine aw_region ?_
    first | refine x_pure rfl (p_fld_adr rfl Try.fd57_2 Try.c3 rfl) ?_ | refine x_pure rfl (p_fld_ref rfl Try.fd57_2 Try.c3 rfl) ?_
    first | refine x_pure rfl (p_load1 rfl Try.g3 rfl) ?_ | refine x_pure rfl (p_load1r rfl Try.g3 rfl rfl) ?_ | refine x_pure rfl (p_load1r rfl Try.g3 rfl (strs_ref (by simp only [List.length_cons] at *; omega))) ?_ | refine x_pure rfl (p_load1r rfl Try.g3 rfl (strs_ref (by omega))) ?_
    refine x_pure rfl (p_move rfl) ?_
    refine x_pure rfl (p_bin rfl rfl rfl) ?_
    refine x_pure rfl (p_move rfl) ?_
    refine y_guard_s rfl rfl rfl (fun hg3 => ?_) (fun hg3 => ?_)
    ·
     try simp only [Bool.not_eq_true', Bool.not_eq_false', Bool.not_true, Bool.not_false, Bool.not_not, decide_eq_true_eq, decide_eq_false_iff_not, beq_iff_eq, beq_eq_false_iff_ne, bne_iff_ne, bne_eq_false_iff_eq, ne_eq, Int.not_lt, Int.not_le, Nat.not_lt, Nat.not_le, gt_iff_lt, ge_iff_le, Bool.and_eq_true, Bool.or_eq_true, Int.ofNat_lt, Int.ofNat_le, Int.natCast_inj, List.length_map, List.length_cons, List.length_nil, List.length_append] at hg3
     first | refine x_pure rfl (p_fld_adr rfl Try.fd57_2 Try.c3 rfl) ?_ | refine x_pure rfl (p_fld_ref rfl Try.fd57_2 Try.c3 rfl) ?_
     refine x_guard_t rfl rfl rfl ?_
     first | refine x_pure rfl (p_load1 rfl Try.g3 rfl) ?_ | refine x_pure rfl (p_load1r rfl Try.g3 rfl rfl) ?_ | refine x_pure rfl (p_load1r rfl Try.g3 rfl (strs_ref (by simp only [List.length_cons] at *; omega))) ?_ | refine x_pure rfl (p_load1r rfl Try.g3 rfl (strs_ref (by omega))) ?_
     refine x_guard_t rfl rfl rfl ?_
     refine x_pure rfl (p_bin rfl rfl rfl) ?_
     refine x_pure rfl (p_pick_f rfl rfl) ?_
     refine x_pure rfl (p_move rfl) ?_
     refine y_guard_s rfl rfl rfl (fun hg4 => ?_) (fun hg4 => ?_)
     ·
      try simp only [Bool.not_eq_true', Bool.not_eq_false', Bool.not_true, Bool.not_false, Bool.not_not, decide_eq_true_eq, decide_eq_false_iff_not, beq_iff_eq, beq_eq_false_iff_ne, bne_iff_ne, bne_eq_false_iff_eq, ne_eq, Int.not_lt, Int.not_le, Nat.not_lt, Nat.not_le, gt_iff_lt, ge_iff_le, Bool.and_eq_true, Bool.or_eq_true, Int.ofNat_lt, Int.ofNat_le, Int.natCast_inj, List.length_map, List.length_cons, List.length_nil, List.length_append] at hg4
      first | refine x_pure rfl (p_loads rfl Try.g31 Try.c31 rfl rfl) ?_ | refine x_pure rfl (p_loadsr rfl Try.g31 Try.c31 rfl rfl rfl) ?_
      refine x_guard_t rfl rfl rfl ?_
      refine x_step hf rfl (r_call rfl rfl Try.ent32 rfl (Nm.pairRight_den l[k].1.1 l[k].1.2 (ht _ (List.getElem_mem _)).1 (ht _ (List.getElem_mem _)).2)) ?_
      refine x_guard_t rfl rfl rfl ?_
      refine x_pure rfl (p_not rfl) ?_
      refine x_pure rfl (p_pick_f rfl rfl) ?_
      first | refine aops_end ?_ | refine aops_nil ?_
      refine hK15 _ ?_
      refine aw_cond_s rfl (fun hc5 => ?_) (fun hc5 => ?_)
      ·
       try simp only [Bool.not_eq_true', Bool.not_eq_false', Bool.not_true, Bool.not_false, Bool.not_not, decide_eq_true_eq, decide_eq_false_iff_not, beq_iff_eq, beq_eq_false_iff_ne, bne_iff_ne, bne_eq_false_iff_eq, ne_eq, Int.not_lt, Int.not_le, Nat.not_lt, Nat.not_le, gt_iff_lt, ge_iff_le, Bool.and_eq_true, Bool.or_eq_true, Int.ofNat_lt, Int.ofNat_le, Int.natCast_inj, List.length_map, List.length_cons, List.length_nil, List.length_append] at hc5
       refine aw_seq_k (fun K16 hK16 => ?_)
       refine aw_region ?_
       refine x_step hf rfl (r_call rfl rfl Try.ent10 rfl (alive9_den)) ?_
       refine x_pure rfl (p_assign rfl) ?_
       first | refine aops_end ?_ | refine aops_nil ?_
       refine hK16 _ ?_
       refine aw_ret ?_
       refine ⟨_, rfl, ?_⟩
       rfl
      ·
       try simp only [Bool.not_eq_true', Bool.not_eq_false', Bool.not_true, Bool.not_false, Bool.not_not, decide_eq_true_eq, decide_eq_false_iff_not, beq_iff_eq, beq_eq_false_iff_ne, bne_iff_ne, bne_eq_false_iff_eq, ne_eq, Int.not_lt, Int.not_le, Nat.not_lt, Nat.not_le, gt_iff_lt, ge_iff_le, Bool.and_eq_true, Bool.or_eq_true, Int.ofNat_lt, Int.ofNat_le, Int.natCast_inj, List.length_map, List.length_cons, List.length_nil, List.length_append] at hc5
       refine aw_skip ?_
       refine hK14 _ ?_
       refine aw_seq_k (fun K17 hK17 => ?_)
       refine aw_region ?_
       have hk : k < l.length := by omega
       have ha : a ≤ l[k].2.1 := by omega
       have hF : l[k].2.1 < 1099511627776 := by omega
       have hR1 : rightB l[k].1.1 = true := by simp_all
       have hR2 : rightB l[k].1.2 = true := by simp_all
       have htk := ht _ (List.getElem_mem hk)
       have hon := goes_on (p := l[k].1) hI ha hF
       have hstep := goes_step hI ha hF hR1 hR2 htk.1 htk.2
       have hsl := step_len x l[k].1 l[k].2.1
       have hpl := periods_len x l[k].1
       have hpl2 := periods_len (stepL x l[k].1 l[k].2.1) l[k].1
       first | refine x_pure rfl (p_fld_adr rfl Try.fd57_2 Try.c3 rfl) ?_ | refine x_pure rfl (p_fld_ref rfl Try.fd57_2 Try.c3 rfl) ?_
       first | refine x_pure rfl (p_load1 rfl Try.g3 rfl) ?_ | refine x_pure rfl (p_load1r rfl Try.g3 rfl rfl) ?_ | refine x_pure rfl (p_load1r rfl Try.g3 rfl (strs_ref (by simp only [List.length_cons] at *; omega))) ?_ | refine x_pure rfl (p_load1r rfl Try.g3 rfl (strs_ref (by omega))) ?_
       refine x_pure rfl (p_assign rfl) ?_
       first | refine aops_end ?_ | refine aops_nil ?_
       refine hK17 _ ?_
       refine aw_seq_k (fun K18 hK18 => ?_)
       refine aw_region ?_
       refine x_pure rfl (p_move rfl) ?_
       first | refine x_pure rfl (p_loads rfl Try.g31 Try.c31 rfl rfl) ?_ | refine x_pure rfl (p_loadsr rfl Try.g31 Try.c31 rfl rfl rfl) ?_
       refine x_step hf rfl (r_call rfl rfl Try.ent22 rfl (periods_den x l[k].1 (by omega))) ?_
       refine x_pure rfl (p_assign rfl) ?_
       first | refine aops_end ?_ | refine aops_nil ?_
       refine hK18 _ ?_
       refine aw_seq_k (fun K19 hK19 => ?_)
       refine aw_region ?_
       refine x_pure rfl (p_move rfl) ?_
       first | refine x_pure rfl (p_loads rfl Try.g31 Try.c31 rfl rfl) ?_ | refine x_pure rfl (p_loadsr rfl Try.g31 Try.c31 rfl rfl rfl) ?_
       refine x_step hf rfl (r_call rfl rfl Try.ent18 rfl (inForce_den x l[k].1 (by omega))) ?_
       refine x_pure rfl (p_assign rfl) ?_
       first | refine aops_end ?_ | refine aops_nil ?_
       refine hK19 _ ?_
       refine aw_seq_k (fun K20 hK20 => ?_)
       refine aw_region ?_
       refine x_pure rfl (p_move rfl) ?_
       first | refine x_pure rfl (p_loads rfl Try.g31 Try.c31 rfl rfl) ?_ | refine x_pure rfl (p_loadsr rfl Try.g31 Try.c31 rfl rfl rfl) ?_
       refine x_pure rfl (p_move rfl) ?_
       refine x_step hf rfl (r_call rfl rfl Try.ent12 rfl (grant_den x l[k].1 l[k].2.1 (by omega))) ?_
       refine x_pure rfl (p_move rfl) ?_
       refine x_pure rfl (p_extract rfl rfl) ?_
       refine x_pure rfl (p_extract rfl rfl) ?_
       refine x_pure rfl (p_assign rfl) ?_
       refine x_pure rfl (p_assign rfl) ?_
       first | refine aops_end ?_ | refine aops_nil ?_
       refine hK20 _ ?_
       refine aw_seq_k (fun K21 hK21 => ?_)
       refine aw_seq_k (fun K22 hK22 => ?_)
       refine aw_region ?_
       refine x_pure rfl (p_move rfl) ?_
       first | refine aops_end ?_ | refine aops_nil ?_
       refine hK22 _ ?_
       refine aw_cond_s rfl (fun hc6 => ?_) (fun hc6 => ?_)
       ·
        try simp only [Bool.not_eq_true', Bool.not_eq_false', Bool.not_true, Bool.not_false, Bool.not_not, decide_eq_true_eq, decide_eq_false_iff_not, beq_iff_eq, beq_eq_false_iff_ne, bne_iff_ne, bne_eq_false_iff_eq, ne_eq, Int.not_lt, Int.not_le, Nat.not_lt, Nat.not_le, gt_iff_lt, ge_iff_le, Bool.and_eq_true, Bool.or_eq_true, Int.ofNat_lt, Int.ofNat_le, Int.natCast_inj, List.length_map, List.length_cons, List.length_nil, List.length_append] at hc6
        refine aw_region ?_
        refine x_pure rfl (p_move rfl) ?_
        first | refine x_pure rfl (p_loads rfl Try.g31 Try.c31 rfl rfl) ?_ | refine x_pure rfl (p_loadsr rfl Try.g31 Try.c31 rfl rfl rfl) ?_
        refine x_pure rfl (p_move rfl) ?_
        refine x_step hf rfl (r_call rfl rfl Try.ent14 rfl (revoke_den x l[k].1 l[k].2.1 (by omega))) ?_
        refine x_pure rfl (p_move rfl) ?_
        refine x_pure rfl (p_extract rfl rfl) ?_
        refine x_pure rfl (p_extract rfl rfl) ?_
        refine x_pure rfl (p_assign rfl) ?_
        refine x_pure rfl (p_assign rfl) ?_
        first | refine aops_end ?_ | refine aops_nil ?_
        refine hK21 _ ?_
        refine aw_seq_k (fun K23 hK23 => ?_)
        refine aw_seq_k (fun K24 hK24 => ?_)
        refine aw_region ?_
        first
        | rw [show (if onB x l[k].1 = true then revL x l[k].1 l[k].2.1 else []) = stepL x l[k].1 l[k].2.1 from by rw [if_pos (by assumption), stepL, if_pos (by assumption)], show (if onB x l[k].1 = true then (0 : Int) else 91) = 0 from if_pos (by assumption)]
        | rw [show (if onB x l[k].1 = true then [] else grantL x l[k].1 l[k].2.1) = stepL x l[k].1 l[k].2.1 from by rw [if_neg (by simp_all), stepL, if_neg (by simp_all)], show (if onB x l[k].1 = true then (90 : Int) else 0) = 0 from if_neg (by simp_all)]
        refine x_pure rfl (p_move rfl) ?_
        refine x_pure rfl (p_bin rfl rfl rfl) ?_
        refine x_pure rfl (p_move rfl) ?_
        refine x_guard_t rfl rfl rfl ?_
        refine x_pure rfl (p_move rfl) ?_
        refine x_guard_t rfl rfl rfl ?_
        refine x_step hf rfl (r_call rfl rfl Try.ent28 rfl ((show Den Try.prog _ _ (· = .s (.bool true)) from den_is (rising_den (stepL x l[k].1 l[k].2.1) (by omega) (fun e he => (hstep.2 e he).2.2)) (by rw [hstep.1])))) ?_
        refine x_guard_t rfl rfl rfl ?_
        refine x_pure rfl (p_not rfl) ?_
        refine x_pure rfl (p_pick_f rfl rfl) ?_
        refine x_pure rfl (p_move rfl) ?_
        refine x_guard_t rfl rfl rfl ?_
        refine x_pure rfl (p_move rfl) ?_
        refine x_guard_t rfl rfl rfl ?_
        first | refine x_pure rfl (p_loads rfl Try.g31 Try.c31 rfl rfl) ?_ | refine x_pure rfl (p_loadsr rfl Try.g31 Try.c31 rfl rfl rfl) ?_
        refine x_guard_t rfl rfl rfl ?_
        refine x_step hf rfl (r_call rfl rfl Try.ent18 rfl ((show Den Try.prog _ _ (· = .s (.bool (!onB x l[k].1))) from den_is (inForce_den (stepL x l[k].1 l[k].2.1) l[k].1 (by omega)) (by rw [hon])))) ?_
        refine x_guard_t rfl rfl rfl ?_
        refine x_pure rfl (p_move rfl) ?_
        refine x_guard_t rfl rfl rfl ?_
        refine x_pure rfl (p_bin rfl rfl (booleq_f Try.underlying4 (by cases onB x l[k].1 <;> simp))) ?_
        refine x_pure rfl (p_pick_f rfl rfl) ?_
        first | refine aops_end ?_ | refine aops_nil ?_
        refine hK24 _ ?_
        refine aw_cond_f rfl ?_
        refine aw_skip ?_
        refine hK23 _ ?_
        refine aw_seq_k (fun K25 hK25 => ?_)
        refine aw_region ?_
        refine x_pure rfl (p_move rfl) ?_
        refine x_pure rfl (p_assign rfl) ?_
        first | refine aops_end ?_ | refine aops_nil ?_
        refine hK25 _ ?_
        refine aw_seq_k (fun K26 hK26 => ?_)
        refine aw_region ?_
        refine x_pure rfl (p_move rfl) ?_
        refine x_pure rfl (p_move rfl) ?_
        refine x_pure rfl (p_build rfl Try.z60 Try.pl60 (by simp [enC, prC, spC, AV.cells, AV.one, Value.oneCell', splice, AV.kill, AV.clean, cleanL, AV.only]) rfl) ?_
        refine x_step hf rfl (r_buildSlice Try.ap42 rfl rfl rfl rfl (by simp [enC, prC, spC, AV.cells, AV.leaf, Value.oneCell', splice, AV.kill, AV.clean, cleanL, AV.only])) ?_
        refine x_step hf rfl (r_buildSlice Try.ap80 rfl rfl rfl rfl (by simp [enC, prC, spC, AV.cells, AV.leaf, Value.oneCell', splice, AV.kill, AV.clean, cleanL, AV.only])) ?_
        refine x_step hf rfl (r_call rfl rfl Try.ent33 rfl (joinT_den (periodsL x l[k].1) [(l[k].2.1, 1099511627776)] (by simp only [List.length_cons, List.length_nil]; omega))) ?_
        refine x_pure rfl (p_assign rfl) ?_
        first | refine aops_end ?_ | refine aops_nil ?_
        refine hK26 _ ?_
        refine aw_seq_k (fun K27 hK27 => ?_)
        refine aw_seq_k (fun K28 hK28 => ?_)
        refine aw_region ?_
        refine x_pure rfl (p_move rfl) ?_
        first | refine aops_end ?_ | refine aops_nil ?_
        refine hK28 _ ?_
        refine aw_cond_s rfl (fun hc8 => ?_) (fun hc8 => ?_)
        ·
         try simp only [Bool.not_eq_true', Bool.not_eq_false', Bool.not_true, Bool.not_false, Bool.not_not, decide_eq_true_eq, decide_eq_false_iff_not, beq_iff_eq, beq_eq_false_iff_ne, bne_iff_ne, bne_eq_false_iff_eq, ne_eq, Int.not_lt, Int.not_le, Nat.not_lt, Nat.not_le, gt_iff_lt, ge_iff_le, Bool.and_eq_true, Bool.or_eq_true, Int.ofNat_lt, Int.ofNat_le, Int.natCast_inj, List.length_map, List.length_cons, List.length_nil, List.length_append] at hc8
         refine aw_region ?_
         refine x_pure rfl (p_move rfl) ?_
         refine x_pure rfl (p_move rfl) ?_
         refine x_pure rfl (p_build rfl Try.z60 Try.pl60 (by simp [enC, prC, spC, AV.cells, AV.one, Value.oneCell', splice, AV.kill, AV.clean, cleanL, AV.only]) rfl) ?_
         refine x_step hf rfl (r_buildSlice Try.ap42 rfl rfl rfl rfl (by simp [enC, prC, spC, AV.cells, AV.leaf, Value.oneCell', splice, AV.kill, AV.clean, cleanL, AV.only])) ?_
         refine x_step hf rfl (r_call rfl rfl Try.ent34 rfl (less_den (periodsL x l[k].1) [(l[k].2.1, 1099511627776)] (by simp only [List.length_cons, List.length_nil]; omega))) ?_
         refine x_pure rfl (p_assign rfl) ?_
         first | refine aops_end ?_ | refine aops_nil ?_
         refine hK27 _ ?_
         refine aw_seq_k (fun K29 hK29 => ?_)
         refine aw_region ?_
         refine x_pure rfl (p_move rfl) ?_
         first | refine x_pure rfl (p_loads rfl Try.g31 Try.c31 rfl rfl) ?_ | refine x_pure rfl (p_loadsr rfl Try.g31 Try.c31 rfl rfl rfl) ?_
         refine x_step hf rfl (r_call rfl rfl Try.ent22 rfl (periods_den (stepL x l[k].1 l[k].2.1) l[k].1 (by omega))) ?_
         refine x_pure rfl (p_move rfl) ?_
         refine x_step hf rfl (r_call rfl rfl Try.ent31 rfl (sameT_den _ _ (by first | exact goesA hI ha hF (by assumption) | exact goesB (by assumption)) (by omega))) ?_
         refine x_pure rfl (p_not rfl) ?_
         first | refine aops_end ?_ | refine aops_nil ?_
         refine hK29 _ ?_
         refine aw_cond_f rfl ?_
         refine aw_skip ?_
         refine hK11 _ ?_
         refine aw_region ?_
         first | refine x_pure rfl (p_add rfl rfl (by omega) (by omega)) ?_ | refine x_pure rfl (p_bin rfl rfl rfl) ?_
         refine x_pure rfl (p_move rfl) ?_
         first | refine aops_end ?_ | refine aops_nil ?_
         exact ⟨(k + 1, stepL x l[k].1 l[k].2.1, l[k].2.1), ⟨by omega, hstep, by omega⟩, by simp only; omega, le_of ⟨rfl, rfl, rfl, rfl, rfl, trivial⟩⟩
        ·
         try simp only [Bool.not_eq_true', Bool.not_eq_false', Bool.not_true, Bool.not_false, Bool.not_not, decide_eq_true_eq, decide_eq_false_iff_not, beq_iff_eq, beq_eq_false_iff_ne, bne_iff_ne, bne_eq_false_iff_eq, ne_eq, Int.not_lt, Int.not_le, Nat.not_lt, Nat.not_le, gt_iff_lt, ge_iff_le, Bool.and_eq_true, Bool.or_eq_true, Int.ofNat_lt, Int.ofNat_le, Int.natCast_inj, List.length_map, List.length_cons, List.length_nil, List.length_append] at hc8
         refine aw_skip ?_
         refine hK27 _ ?_
         refine aw_seq_k (fun K30 hK30 => ?_)
         refine aw_region ?_
         refine x_pure rfl (p_move rfl) ?_
         first | refine x_pure rfl (p_loads rfl Try.g31 Try.c31 rfl rfl) ?_ | refine x_pure rfl (p_loadsr rfl Try.g31 Try.c31 rfl rfl rfl) ?_
         refine x_step hf rfl (r_call rfl rfl Try.ent22 rfl (periods_den (stepL x l[k].1 l[k].2.1) l[k].1 (by omega))) ?_
         refine x_pure rfl (p_move rfl) ?_
         refine x_step hf rfl (r_call rfl rfl Try.ent31 rfl (sameT_den _ _ (by first | exact goesA hI ha hF (by assumption) | exact goesB (by assumption)) (by omega))) ?_
         refine x_pure rfl (p_not rfl) ?_
         first | refine aops_end ?_ | refine aops_nil ?_
         refine hK30 _ ?_
         refine aw_cond_f rfl ?_
         refine aw_skip ?_
         refine hK11 _ ?_
         refine aw_region ?_
         first | refine x_pure rfl (p_add rfl rfl (by omega) (by omega)) ?_ | refine x_pure rfl (p_bin rfl rfl rfl) ?_
         refine x_pure rfl (p_move rfl) ?_
         first | refine aops_end ?_ | refine aops_nil ?_
         exact ⟨(k + 1, stepL x l[k].1 l[k].2.1, l[k].2.1), ⟨by omega, hstep, by omega⟩, by simp only; omega, le_of ⟨rfl, rfl, rfl, rfl, rfl, trivial⟩⟩
       ·
        try simp only [Bool.not_eq_true', Bool.not_eq_false', Bool.not_true, Bool.not_false, Bool.not_not, decide_eq_true_eq, decide_eq_false_iff_not, beq_iff_eq, beq_eq_false_iff_ne, bne_iff_ne, bne_eq_false_iff_eq, ne_eq, Int.not_lt, Int.not_le, Nat.not_lt, Nat.not_le, gt_iff_lt, ge_iff_le, Bool.and_eq_true, Bool.or_eq_true, Int.ofNat_lt, Int.ofNat_le, Int.natCast_inj, List.length_map, List.length_cons, List.length_nil, List.length_append] at hc6
        refine aw_skip ?_
        refine hK21 _ ?_
        refine aw_seq_k (fun K31 hK31 => ?_)
        refine aw_seq_k (fun K32 hK32 => ?_)
        refine aw_region ?_
        first
        | rw [show (if onB x l[k].1 = true then revL x l[k].1 l[k].2.1 else []) = stepL x l[k].1 l[k].2.1 from by rw [if_pos (by assumption), stepL, if_pos (by assumption)], show (if onB x l[k].1 = true then (0 : Int) else 91) = 0 from if_pos (by assumption)]
        | rw [show (if onB x l[k].1 = true then [] else grantL x l[k].1 l[k].2.1) = stepL x l[k].1 l[k].2.1 from by rw [if_neg (by simp_all), stepL, if_neg (by simp_all)], show (if onB x l[k].1 = true then (90 : Int) else 0) = 0 from if_neg (by simp_all)]
        refine x_pure rfl (p_move rfl) ?_
        refine x_pure rfl (p_bin rfl rfl rfl) ?_
        refine x_pure rfl (p_move rfl) ?_
        refine x_guard_t rfl rfl rfl ?_
        refine x_pure rfl (p_move rfl) ?_
        refine x_guard_t rfl rfl rfl ?_
        refine x_step hf rfl (r_call rfl rfl Try.ent28 rfl ((show Den Try.prog _ _ (· = .s (.bool true)) from den_is (rising_den (stepL x l[k].1 l[k].2.1) (by omega) (fun e he => (hstep.2 e he).2.2)) (by rw [hstep.1])))) ?_
        refine x_guard_t rfl rfl rfl ?_
        refine x_pure rfl (p_not rfl) ?_
        refine x_pure rfl (p_pick_f rfl rfl) ?_
        refine x_pure rfl (p_move rfl) ?_
        refine x_guard_t rfl rfl rfl ?_
        refine x_pure rfl (p_move rfl) ?_
        refine x_guard_t rfl rfl rfl ?_
        first | refine x_pure rfl (p_loads rfl Try.g31 Try.c31 rfl rfl) ?_ | refine x_pure rfl (p_loadsr rfl Try.g31 Try.c31 rfl rfl rfl) ?_
        refine x_guard_t rfl rfl rfl ?_
        refine x_step hf rfl (r_call rfl rfl Try.ent18 rfl ((show Den Try.prog _ _ (· = .s (.bool (!onB x l[k].1))) from den_is (inForce_den (stepL x l[k].1 l[k].2.1) l[k].1 (by omega)) (by rw [hon])))) ?_
        refine x_guard_t rfl rfl rfl ?_
        refine x_pure rfl (p_move rfl) ?_
        refine x_guard_t rfl rfl rfl ?_
        refine x_pure rfl (p_bin rfl rfl (booleq_f Try.underlying4 (by cases onB x l[k].1 <;> simp))) ?_
        refine x_pure rfl (p_pick_f rfl rfl) ?_
        first | refine aops_end ?_ | refine aops_nil ?_
        refine hK32 _ ?_
        refine aw_cond_f rfl ?_
        refine aw_skip ?_
        refine hK31 _ ?_
        refine aw_seq_k (fun K33 hK33 => ?_)
        refine aw_region ?_
        refine x_pure rfl (p_move rfl) ?_
        refine x_pure rfl (p_assign rfl) ?_
        first | refine aops_end ?_ | refine aops_nil ?_
        refine hK33 _ ?_
        refine aw_seq_k (fun K34 hK34 => ?_)
        refine aw_region ?_
        refine x_pure rfl (p_move rfl) ?_
        refine x_pure rfl (p_move rfl) ?_
        refine x_pure rfl (p_build rfl Try.z60 Try.pl60 (by simp [enC, prC, spC, AV.cells, AV.one, Value.oneCell', splice, AV.kill, AV.clean, cleanL, AV.only]) rfl) ?_
        refine x_step hf rfl (r_buildSlice Try.ap42 rfl rfl rfl rfl (by simp [enC, prC, spC, AV.cells, AV.leaf, Value.oneCell', splice, AV.kill, AV.clean, cleanL, AV.only])) ?_
        refine x_step hf rfl (r_buildSlice Try.ap80 rfl rfl rfl rfl (by simp [enC, prC, spC, AV.cells, AV.leaf, Value.oneCell', splice, AV.kill, AV.clean, cleanL, AV.only])) ?_
        refine x_step hf rfl (r_call rfl rfl Try.ent33 rfl (joinT_den (periodsL x l[k].1) [(l[k].2.1, 1099511627776)] (by simp only [List.length_cons, List.length_nil]; omega))) ?_
        refine x_pure rfl (p_assign rfl) ?_
        first | refine aops_end ?_ | refine aops_nil ?_
        refine hK34 _ ?_
        refine aw_seq_k (fun K35 hK35 => ?_)
        refine aw_seq_k (fun K36 hK36 => ?_)
        refine aw_region ?_
        refine x_pure rfl (p_move rfl) ?_
        first | refine aops_end ?_ | refine aops_nil ?_
        refine hK36 _ ?_
        refine aw_cond_s rfl (fun hc12 => ?_) (fun hc12 => ?_)
        ·
         try simp only [Bool.not_eq_true', Bool.not_eq_false', Bool.not_true, Bool.not_false, Bool.not_not, decide_eq_true_eq, decide_eq_false_iff_not, beq_iff_eq, beq_eq_false_iff_ne, bne_iff_ne, bne_eq_false_iff_eq, ne_eq, Int.not_lt, Int.not_le, Nat.not_lt, Nat.not_le, gt_iff_lt, ge_iff_le, Bool.and_eq_true, Bool.or_eq_true, Int.ofNat_lt, Int.ofNat_le, Int.natCast_inj, List.length_map, List.length_cons, List.length_nil, List.length_append] at hc12
         refine aw_region ?_
         refine x_pure rfl (p_move rfl) ?_
         refine x_pure rfl (p_move rfl) ?_
         refine x_pure rfl (p_build rfl Try.z60 Try.pl60 (by simp [enC, prC, spC, AV.cells, AV.one, Value.oneCell', splice, AV.kill, AV.clean, cleanL, AV.only]) rfl) ?_
         refine x_step hf rfl (r_buildSlice Try.ap42 rfl rfl rfl rfl (by simp [enC, prC, spC, AV.cells, AV.leaf, Value.oneCell', splice, AV.kill, AV.clean, cleanL, AV.only])) ?_
         refine x_step hf rfl (r_call rfl rfl Try.ent34 rfl (less_den (periodsL x l[k].1) [(l[k].2.1, 1099511627776)] (by simp only [List.length_cons, List.length_nil]; omega))) ?_
         refine x_pure rfl (p_assign rfl) ?_
         first | refine aops_end ?_ | refine aops_nil ?_
         refine hK35 _ ?_
         refine aw_seq_k (fun K37 hK37 => ?_)
         refine aw_region ?_
         refine x_pure rfl (p_move rfl) ?_
         first | refine x_pure rfl (p_loads rfl Try.g31 Try.c31 rfl rfl) ?_ | refine x_pure rfl (p_loadsr rfl Try.g31 Try.c31 rfl rfl rfl) ?_
         refine x_step hf rfl (r_call rfl rfl Try.ent22 rfl (periods_den (stepL x l[k].1 l[k].2.1) l[k].1 (by omega))) ?_
         refine x_pure rfl (p_move rfl) ?_
         refine x_step hf rfl (r_call rfl rfl Try.ent31 rfl (sameT_den _ _ (by first | exact goesA hI ha hF (by assumption) | exact goesB (by assumption)) (by omega))) ?_
         refine x_pure rfl (p_not rfl) ?_
         first | refine aops_end ?_ | refine aops_nil ?_
         refine hK37 _ ?_
         refine aw_cond_f rfl ?_
         refine aw_skip ?_
         refine hK11 _ ?_
         refine aw_region ?_
         first | refine x_pure rfl (p_add rfl rfl (by omega) (by omega)) ?_ | refine x_pure rfl (p_bin rfl rfl rfl) ?_
         refine x_pure rfl (p_move rfl) ?_
         first | refine aops_end ?_ | refine aops_nil ?_
         exact ⟨(k + 1, stepL x l[k].1 l[k].2.1, l[k].2.1), ⟨by omega, hstep, by omega⟩, by simp only; omega, le_of ⟨rfl, rfl, rfl, rfl, rfl, trivial⟩⟩
        ·
         try simp only [Bool.not_eq_true', Bool.not_eq_false', Bool.not_true, Bool.not_false, Bool.not_not, decide_eq_true_eq, decide_eq_false_iff_not, beq_iff_eq, beq_eq_false_iff_ne, bne_iff_ne, bne_eq_false_iff_eq, ne_eq, Int.not_lt, Int.not_le, Nat.not_lt, Nat.not_le, gt_iff_lt, ge_iff_le, Bool.and_eq_true, Bool.or_eq_true, Int.ofNat_lt, Int.ofNat_le, Int.natCast_inj, List.length_map, List.length_cons, List.length_nil, List.length_append] at hc12
         refine aw_skip ?_
         refine hK35 _ ?_
         refine aw_seq_k (fun K38 hK38 => ?_)
         refine aw_region ?_
         refine x_pure rfl (p_move rfl) ?_
         first | refine x_pure rfl (p_loads rfl Try.g31 Try.c31 rfl rfl) ?_ | refine x_pure rfl (p_loadsr rfl Try.g31 Try.c31 rfl rfl rfl) ?_
         refine x_step hf rfl (r_call rfl rfl Try.ent22 rfl (periods_den (stepL x l[k].1 l[k].2.1) l[k].1 (by omega))) ?_
         refine x_pure rfl (p_move rfl) ?_
         refine x_step hf rfl (r_call rfl rfl Try.ent31 rfl (sameT_den _ _ (by first | exact goesA hI ha hF (by assumption) | exact goesB (by assumption)) (by omega))) ?_
         refine x_pure rfl (p_not rfl) ?_
         first | refine aops_end ?_ | refine aops_nil ?_
         refine hK38 _ ?_
         refine aw_cond_f rfl ?_
         refine aw_skip ?_
         refine hK11 _ ?_
         refine aw_region ?_
         first | refine x_pure rfl (p_add rfl rfl (by omega) (by omega)) ?_ | refine x_pure rfl (p_bin rfl rfl rfl) ?_
         refine x_pure rfl (p_move rfl) ?_
         first | refine aops_end ?_ | refine aops_nil ?_
         exact ⟨(k + 1, stepL x l[k].1 l[k].2.1, l[k].2.1), ⟨by omega, hstep, by omega⟩, by simp only; omega, le_of ⟨rfl, rfl, rfl, rfl, rfl, trivial⟩⟩
     ·
      try simp only [Bool.not_eq_true', Bool.not_eq_false', Bool.not_true, Bool.not_false, Bool.not_not, decide_eq_true_eq, decide_eq_false_iff_not, beq_iff_eq, beq_eq_false_iff_ne, bne_iff_ne, bne_eq_false_iff_eq, ne_eq, Int.not_lt, Int.not_le, Nat.not_lt, Nat.not_le, gt_iff_lt, ge_iff_le, Bool.and_eq_true, Bool.or_eq_true, Int.ofNat_lt, Int.ofNat_le, Int.natCast_inj, List.length_map, List.length_cons, List.length_nil, List.length_append] at hg4
      refine x_guard_f rfl rfl rfl ?_
      refine x_guard_f rfl rfl rfl ?_
      refine x_pure rfl (p_pick_t rfl rfl) ?_
      first | refine aops_end ?_ | refine aops_nil ?_
      refine hK15 _ ?_
      refine aw_cond_t rfl ?_
      refine aw_seq_k (fun K39 hK39 => ?_)
      refine aw_region ?_
      refine x_step hf rfl (r_call rfl rfl Try.ent10 rfl (alive9_den)) ?_
      refine x_pure rfl (p_assign rfl) ?_
      first | refine aops_end ?_ | refine aops_nil ?_
      refine hK39 _ ?_
      refine aw_ret ?_
      refine ⟨_, rfl, ?_⟩
      rfl
    ·
     try simp only [Bool.not_eq_true', Bool.not_eq_false', Bool.not_true, Bool.not_false, Bool.not_not, decide_eq_true_eq, decide_eq_false_iff_not, beq_iff_eq, beq_eq_false_iff_ne, bne_iff_ne, bne_eq_false_iff_eq, ne_eq, Int.not_lt, Int.not_le, Nat.not_lt, Nat.not_le, gt_iff_lt, ge_iff_le, Bool.and_eq_true, Bool.or_eq_true, Int.ofNat_lt, Int.ofNat_le, Int.natCast_inj, List.length_map, List.length_cons, List.length_nil, List.length_append] at hg3
     refine x_guard_f rfl rfl rfl ?_
     refine x_guard_f rfl rfl rfl ?_
     refine x_pure rfl (p_pick_t rfl rfl) ?_
     refine x_pure rfl (p_move rfl) ?_
     refine x_guard_f rfl rfl rfl ?_
     refine x_guard_f rfl rfl rfl ?_
     refine x_guard_f rfl rfl rfl ?_
     refine x_pure rfl (p_pick_t rfl rfl) ?_
     first | refine aops_end ?_ | refine aops_nil ?_
     refine hK15 _ ?_
     refine aw_cond_t rfl ?_
     refine aw_seq_k (fun K40 hK40 => ?_)
     refine aw_region ?_
     refine x_step hf rfl (r_call rfl rfl Try.ent10 rfl (alive9_den)) ?_
     refine x_pure rfl (p_assign rfl) ?_
     first | refine aops_end ?_ | refine aops_nil ?_
     refine hK40 _ ?_
     refine aw_ret ?_
     refine ⟨_, rfl, ?_⟩
     rfl
   ·
    try simp only [Bool.not_eq_true', Bool.not_eq_false', Bool.not_true, Bool.not_false, Bool.not_not, decide_eq_true_eq, decide_eq_false_iff_not, beq_iff_eq, beq_eq_false_iff_ne, bne_iff_ne, bne_eq_false_iff_eq, ne_eq, Int.not_lt, Int.not_le, Nat.not_lt, Nat.not_le, gt_iff_lt, ge_iff_le, Bool.and_eq_true, Bool.or_eq_true, Int.ofNat_lt, Int.ofNat_le, Int.natCast_inj, List.length_map, List.length_cons, List.length_nil, List.length_append] at hc2
    refine aw_exit ?_
    refine hK7 _ ?_
    refine aw_seq_k (fun K41 hK41 => ?_)
    refine aw_region ?_
    refine x_step hf rfl (r_call rfl rfl Try.ent10 rfl (alive9_den)) ?_
    refine x_pure rfl (p_assign rfl) ?_
    first | refine aops_end ?_ | refine aops_nil ?_
    refine hK41 _ ?_
    refine aw_ret ?_
    refine ⟨_, rfl, ?_⟩
    rfl
end Go.Proofs.Ytblbkjdfgpffpaa
