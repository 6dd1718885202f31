import Derived.Test.YtblbkjdfgpffpaaW3
import Derived.Test.YtblbkjdfgpffpaaQ4
set_option linter.unusedVariables false
set_option linter.unusedSimpArgs false
namespace Go.Proofs.Ytblbkjdfgpffpaa
open Go Go.Abs

set_option maxRecDepth 20000 in
set_option maxHeartbeats 400000 in
theorem join_den (rows : List (List Sp)) (hl : rows.length ≤ 9223372036854775807) (hb : rows.flatten.length * 16 ≤ 140737488355328)  : Den Try.prog 33 [.sl 1 ((rows).map fun r => [AV.sl 2 (r.map spC)])]  (· = .sl 2 (normL rows.flatten |>.map spC)) := by
 refine den_of_aw Try.func33 rfl (Nat.le_of_ble_eq_true rfl) (fun w0 A hf => ?_)
 refine aw_seq_k (fun K1 hK1 => ?_)
 refine aw_region ?_
 refine x_pure rfl (p_assign_bad) ?_
 first | refine aops_end ?_ | refine aops_nil ?_
 refine hK1 _ ?_
 refine aw_seq_k (fun K2 hK2 => ?_)
 refine aw_region ?_
 refine x_pure rfl (p_move rfl) ?_
 refine x_step hf rfl (r_call rfl rfl Try.ent56 rfl (den_of_deno' (concat_den rows hl hb))) ?_
 refine x_step hf rfl (r_call rfl rfl Try.ent46 rfl (norm_den _ (by omega))) ?_
 refine x_pure rfl (p_assign rfl) ?_
 first | refine aops_end ?_ | refine aops_nil ?_
 refine hK2 _ ?_
 refine aw_ret ?_
 refine ⟨_, rfl, ?_⟩
 rfl

set_option maxRecDepth 20000 in
set_option maxHeartbeats 2000000 in
theorem less_den (a b : List Sp) (hab : (a.length + b.length) * 128 ≤ 140737488355328)  : Den Try.prog 34 [.sl 2 (a.map spC), .sl 2 (b.map spC)]  (· = .sl 2 (lessL a b |>.map spC)) := by
 have hlen : ∀ k, ((b.take k).foldl lessStep (normL a)).length ≤ 2 * a.length + b.length := fun k => lessAt_len a b k
 refine den_of_aw Try.func34 rfl (Nat.le_of_ble_eq_true rfl) (fun w0 A hf => ?_)
 refine aw_seq_k (fun K1 hK1 => ?_)
 refine aw_region ?_
 refine x_pure rfl (p_assign_bad) ?_
 first | refine aops_end ?_ | refine aops_nil ?_
 refine hK1 _ ?_
 refine aw_seq_k (fun K2 hK2 => ?_)
 refine aw_region ?_
 refine x_pure rfl (p_move rfl) ?_
 refine x_step hf rfl (r_call rfl rfl Try.ent46 rfl (norm_den _ (by omega))) ?_
 refine x_pure rfl (p_assign rfl) ?_
 first | refine aops_end ?_ | refine aops_nil ?_
 refine hK2 _ ?_
 refine aw_seq_k (fun K3 hK3 => ?_)
 refine aw_seq_k (fun K4 hK4 => ?_)
 refine aw_region ?_
 refine x_pure rfl (p_move rfl) ?_
 first | refine x_pure rfl (p_len_sl rfl Try.e42) ?_ | refine x_pure rfl (p_len_own rfl Try.e42) ?_ | refine x_pure rfl (p_len_nil rfl Try.e42) ?_
 refine x_pure rfl (p_move rfl) ?_
 first | refine aops_end ?_ | refine aops_nil ?_
 refine hK4 _ ?_
 refine aw_block ?_
 refine aw_loop (ι := Nat × List Sp) (fun (⟨k, out⟩ : Nat × List Sp) => ⟨57, [(5, .sl 2 (out.map spC)), (13, .sl 2 (b.map spC)), (14, .s (.int .i64 ((b.map spC).length : Nat))), (15, .s (.int .i64 (k : Nat)))], []⟩) (fun (⟨k, out⟩ : Nat × List Sp) => k ≤ b.length ∧ out = (b.take k).foldl lessStep (normL a)) (fun (⟨k, out⟩ : Nat × List Sp) => b.length - k) (0, normL a) ?_ ?_ ?_
 · exact ⟨Nat.zero_le _, rfl⟩
 · exact le_of ⟨rfl, rfl, rfl, rfl, trivial⟩
 ·
  rintro ⟨k, out⟩ hC
  obtain ⟨h1, h2⟩ := hC
  have h3 := hlen k
  rw [← h2] at h3
  refine aw_seq_k (fun K5 hK5 => ?_)
  refine aw_region ?_
  refine x_pure rfl (p_bin rfl rfl rfl) ?_
  first | refine aops_end ?_ | refine aops_nil ?_
  refine hK5 _ ?_
  refine aw_seq_k (fun K6 hK6 => ?_)
  refine aw_cond_s rfl (fun hc1 => ?_) (fun hc1 => ?_)
  ·
   try simp only [Bool.not_eq_true', Bool.not_eq_false', Bool.not_true, Bool.not_false, Bool.not_not, decide_eq_true_eq, decide_eq_false_iff_not, beq_iff_eq, beq_eq_false_iff_ne, bne_iff_ne, bne_eq_false_iff_eq, ne_eq, Int.not_lt, Int.not_le, Nat.not_lt, Nat.not_le, gt_iff_lt, ge_iff_le, Bool.and_eq_true, Bool.or_eq_true, Int.ofNat_lt, Int.ofNat_le, Int.natCast_inj, List.length_map, List.length_cons, List.length_nil, List.length_append] at hc1
   refine aw_skip ?_
   refine hK6 _ ?_
   refine aw_seq_k (fun K7 hK7 => ?_)
   refine aw_block ?_
   refine aw_seq_k (fun K8 hK8 => ?_)
   refine aw_region ?_
   first | refine x_pure rfl (p_idx_sl rfl rfl Try.e42 Try.c60 (by first | assumption | (refine ⟨by omega, ?_⟩; first | assumption | exact strs_at (by omega) | exact strs_at (by simp only [List.length_cons] at *; omega) | exact ints_at (by omega) | exact map_at (by omega) | exact list_at (by omega)) | exact ⟨by decide, rfl⟩)) ?_ | refine x_pure rfl (p_idx_own rfl rfl Try.e42 Try.c60 (by omega)) ?_
   first | refine x_pure rfl (p_loads rfl Try.g60 Try.c60 rfl rfl) ?_ | refine x_pure rfl (p_loadsr rfl Try.g60 Try.c60 rfl rfl rfl) ?_
   refine x_allocst hf rfl Try.z60 rfl Try.c60 rfl rfl rfl rfl (by simp [spC, AV.cells, AV.leaf, Value.oneCell', splice, AV.kill, AV.clean, cleanL, AV.only]) ?_
   first | refine aops_end ?_ | refine aops_nil ?_
   refine hK8 _ ?_
   refine aw_seq_k (fun K9 hK9 => ?_)
   refine aw_seq_k (fun K10 hK10 => ?_)
   refine aw_region ?_
   first | refine x_pure rfl (p_loads rfl Try.g60 Try.c60 rfl rfl) ?_ | refine x_pure rfl (p_loadsr rfl Try.g60 Try.c60 rfl rfl rfl) ?_
   refine x_step hf rfl (r_call rfl rfl Try.ent43 rfl (none_den _)) ?_
   first | refine aops_end ?_ | refine aops_nil ?_
   refine hK10 _ ?_
   refine aw_cond_s rfl (fun hc2 => ?_) (fun hc2 => ?_)
   ·
    try simp only [Bool.not_eq_true', Bool.not_eq_false', Bool.not_true, Bool.not_false, Bool.not_not, decide_eq_true_eq, decide_eq_false_iff_not, beq_iff_eq, beq_eq_false_iff_ne, bne_iff_ne, bne_eq_false_iff_eq, ne_eq, Int.not_lt, Int.not_le, Nat.not_lt, Nat.not_le, gt_iff_lt, ge_iff_le, Bool.and_eq_true, Bool.or_eq_true, Int.ofNat_lt, Int.ofNat_le, Int.natCast_inj, List.length_map, List.length_cons, List.length_nil, List.length_append] at hc2
    refine aw_exit ?_
    refine hK7 _ ?_
    refine aw_region ?_
    first | refine x_pure rfl (p_add rfl rfl (by omega) (by omega)) ?_ | refine x_pure rfl (p_bin rfl rfl rfl) ?_
    refine x_pure rfl (p_move rfl) ?_
    first | refine aops_end ?_ | refine aops_nil ?_
    first
    | exact ⟨(k + 1, out), ⟨by omega, by rw [take_foldl b lessStep (normL a) k (by omega), ← h2, lessStep, if_pos (by assumption)]⟩, by simp only; omega, le_of ⟨rfl, rfl, rfl, rfl, trivial⟩⟩
    | exact ⟨(k + 1, left.filter fun x => !noTime x), ⟨by omega, by rw [take_foldl b lessStep (normL a) k (by omega), ← h2, lessStep, if_neg (by omega), noTime_filter, h5, List.take_of_length_le (show out.length ≤ j by omega)]⟩, by simp only; omega, le_of ⟨rfl, rfl, rfl, rfl, trivial⟩⟩
   ·
    try simp only [Bool.not_eq_true', Bool.not_eq_false', Bool.not_true, Bool.not_false, Bool.not_not, decide_eq_true_eq, decide_eq_false_iff_not, beq_iff_eq, beq_eq_false_iff_ne, bne_iff_ne, bne_eq_false_iff_eq, ne_eq, Int.not_lt, Int.not_le, Nat.not_lt, Nat.not_le, gt_iff_lt, ge_iff_le, Bool.and_eq_true, Bool.or_eq_true, Int.ofNat_lt, Int.ofNat_le, Int.natCast_inj, List.length_map, List.length_cons, List.length_nil, List.length_append] at hc2
    refine aw_skip ?_
    refine hK9 _ ?_
    refine aw_seq_k (fun K11 hK11 => ?_)
    refine aw_region ?_
    refine x_nil hf 2 rfl rfl rfl ?_
    first | refine aops_end ?_ | refine aops_nil ?_
    refine hK11 _ ?_
    refine aw_seq_k (fun K12 hK12 => ?_)
    refine aw_seq_k (fun K13 hK13 => ?_)
    refine aw_region ?_
    refine x_pure rfl (p_move rfl) ?_
    first | refine x_pure rfl (p_len_sl rfl Try.e42) ?_ | refine x_pure rfl (p_len_own rfl Try.e42) ?_ | refine x_pure rfl (p_len_nil rfl Try.e42) ?_
    refine x_pure rfl (p_move rfl) ?_
    first | refine aops_end ?_ | refine aops_nil ?_
    refine hK13 _ ?_
    refine aw_block ?_
    refine aw_loop (ι := Nat × List Sp) (fun (⟨j, left⟩ : Nat × List Sp) => ⟨57, [(7, .adr (spC b[k])), (8, .own 8 2 0 left.length), (13, .sl 2 (b.map spC)), (14, .s (.int .i64 ((b.map spC).length : Nat))), (15, .s (.int .i64 (k : Nat))), (21, .sl 2 (out.map spC)), (22, .s (.int .i64 ((out.map spC).length : Nat))), (23, .s (.int .i64 (j : Nat)))], [(8, .buf 2 (left.map spC))]⟩) (fun (⟨j, left⟩ : Nat × List Sp) => j ≤ out.length ∧ left = (out.take j).flatMap (less1 b[k]) ∧ left.length = 2 * j) (fun (⟨j, left⟩ : Nat × List Sp) => out.length - j) (0, []) ?_ ?_ ?_
    · exact ⟨Nat.zero_le _, rfl, rfl⟩
    · exact le_of ⟨rfl, rfl, rfl, rfl, rfl, rfl, rfl, rfl, trivial⟩
    ·
     rintro ⟨j, left⟩ hC
     obtain ⟨h4, h5, h6⟩ := hC
     refine aw_seq_k (fun K14 hK14 => ?_)
     refine aw_region ?_
     refine x_pure rfl (p_bin rfl rfl rfl) ?_
     first | refine aops_end ?_ | refine aops_nil ?_
     refine hK14 _ ?_
     refine aw_seq_k (fun K15 hK15 => ?_)
     refine aw_cond_s rfl (fun hc3 => ?_) (fun hc3 => ?_)
     ·
      try simp only [Bool.not_eq_true', Bool.not_eq_false', Bool.not_true, Bool.not_false, Bool.not_not, decide_eq_true_eq, decide_eq_false_iff_not, beq_iff_eq, beq_eq_false_iff_ne, bne_iff_ne, bne_eq_false_iff_eq, ne_eq, Int.not_lt, Int.not_le, Nat.not_lt, Nat.not_le, gt_iff_lt, ge_iff_le, Bool.and_eq_true, Bool.or_eq_true, Int.ofNat_lt, Int.ofNat_le, Int.natCast_inj, List.length_map, List.length_cons, List.length_nil, List.length_append] at hc3
      refine aw_skip ?_
      refine hK15 _ ?_
      refine aw_seq_k (fun K16 hK16 => ?_)
      refine aw_block ?_
      refine aw_seq_k (fun K17 hK17 => ?_)
      refine aw_region ?_
      first | refine x_pure rfl (p_idx_sl rfl rfl Try.e42 Try.c60 (by first | assumption | (refine ⟨by omega, ?_⟩; first | assumption | exact strs_at (by omega) | exact strs_at (by simp only [List.length_cons] at *; omega) | exact ints_at (by omega) | exact map_at (by omega) | exact list_at (by omega)) | exact ⟨by decide, rfl⟩)) ?_ | refine x_pure rfl (p_idx_own rfl rfl Try.e42 Try.c60 (by omega)) ?_
      first | refine x_pure rfl (p_loads rfl Try.g60 Try.c60 rfl rfl) ?_ | refine x_pure rfl (p_loadsr rfl Try.g60 Try.c60 rfl rfl rfl) ?_
      refine x_allocst hf rfl Try.z60 rfl Try.c60 rfl rfl rfl rfl (by simp [spC, AV.cells, AV.leaf, Value.oneCell', splice, AV.kill, AV.clean, cleanL, AV.only]) ?_
      first | refine aops_end ?_ | refine aops_nil ?_
      refine hK17 _ ?_
      refine aw_draw_tail hf (L := #[true, true, true, true, true, true, true, true, true, true, true, true, true, true, true, true, true, true, true, true, true, true, true, false, false]) 23 2 Try.mixed (by kernel_rfl) rfl (by kernel_rfl) rfl ?_
      refine d_pure [(8, _)] rfl rfl ⟨⟨rfl, rfl⟩, trivial⟩ rfl (p_move rfl) ?_
      refine d_pure [(8, _)] rfl rfl ⟨⟨rfl, rfl⟩, trivial⟩ rfl (p_move rfl) ?_
      first | refine d_pure [(28, _)] rfl rfl ⟨⟨rfl, rfl⟩, trivial⟩ rfl (p_len_sl rfl Try.e42) ?_ | refine d_pure [(28, _)] rfl rfl ⟨⟨rfl, rfl⟩, trivial⟩ rfl (p_len_own rfl Try.e42) ?_ | refine d_pure [(28, _)] rfl rfl ⟨⟨rfl, rfl⟩, trivial⟩ rfl (p_len_nil rfl Try.e42) ?_
      refine d_pure [(8, _)] rfl rfl ⟨⟨rfl, rfl⟩, trivial⟩ rfl (p_move rfl) ?_
      first | refine d_pure [(30, _)] rfl rfl ⟨⟨rfl, rfl⟩, trivial⟩ rfl (p_len_sl rfl Try.e42) ?_ | refine d_pure [(30, _)] rfl rfl ⟨⟨rfl, rfl⟩, trivial⟩ rfl (p_len_own rfl Try.e42) ?_ | refine d_pure [(30, _)] rfl rfl ⟨⟨rfl, rfl⟩, trivial⟩ rfl (p_len_nil rfl Try.e42) ?_
      refine d_pure [(27, _), (29, _), (31, _)] rfl rfl ⟨⟨rfl, rfl⟩, ⟨rfl, rfl⟩, ⟨rfl, rfl⟩, trivial⟩ rfl (p_slice3_own rfl Try.e42 Try.c60 rfl rfl rfl (by omega) (by omega) (by omega)) ?_
      first | refine d_pure [(10, _)] rfl rfl ⟨⟨rfl, rfl⟩, trivial⟩ rfl (p_fld_adr rfl Try.fd60_0 Try.c3 rfl) ?_ | refine d_pure [(10, _)] rfl rfl ⟨⟨rfl, rfl⟩, trivial⟩ rfl (p_fld_ref rfl Try.fd60_0 Try.c3 rfl) ?_
      first | refine d_pure [(33, _)] rfl rfl ⟨⟨rfl, rfl⟩, trivial⟩ rfl (p_load1 rfl Try.g3 rfl) ?_ | refine d_pure [(33, _)] rfl rfl ⟨⟨rfl, rfl⟩, trivial⟩ rfl (p_load1r rfl Try.g3 rfl rfl) ?_ | refine d_pure [(33, _)] rfl rfl ⟨⟨rfl, rfl⟩, trivial⟩ rfl (p_load1r rfl Try.g3 rfl (strs_ref (by simp only [List.length_cons] at *; omega))) ?_ | refine d_pure [(33, _)] rfl rfl ⟨⟨rfl, rfl⟩, trivial⟩ rfl (p_load1r rfl Try.g3 rfl (strs_ref (by omega))) ?_
      first | refine d_pure [(10, _)] rfl rfl ⟨⟨rfl, rfl⟩, trivial⟩ rfl (p_fld_adr rfl Try.fd60_1 Try.c3 rfl) ?_ | refine d_pure [(10, _)] rfl rfl ⟨⟨rfl, rfl⟩, trivial⟩ rfl (p_fld_ref rfl Try.fd60_1 Try.c3 rfl) ?_
      first | refine d_pure [(35, _)] rfl rfl ⟨⟨rfl, rfl⟩, trivial⟩ rfl (p_load1 rfl Try.g3 rfl) ?_ | refine d_pure [(35, _)] rfl rfl ⟨⟨rfl, rfl⟩, trivial⟩ rfl (p_load1r rfl Try.g3 rfl rfl) ?_ | refine d_pure [(35, _)] rfl rfl ⟨⟨rfl, rfl⟩, trivial⟩ rfl (p_load1r rfl Try.g3 rfl (strs_ref (by simp only [List.length_cons] at *; omega))) ?_ | refine d_pure [(35, _)] rfl rfl ⟨⟨rfl, rfl⟩, trivial⟩ rfl (p_load1r rfl Try.g3 rfl (strs_ref (by omega))) ?_
      first | refine d_pure [(7, _)] rfl rfl ⟨⟨rfl, rfl⟩, trivial⟩ rfl (p_fld_adr rfl Try.fd60_0 Try.c3 rfl) ?_ | refine d_pure [(7, _)] rfl rfl ⟨⟨rfl, rfl⟩, trivial⟩ rfl (p_fld_ref rfl Try.fd60_0 Try.c3 rfl) ?_
      first | refine d_pure [(37, _)] rfl rfl ⟨⟨rfl, rfl⟩, trivial⟩ rfl (p_load1 rfl Try.g3 rfl) ?_ | refine d_pure [(37, _)] rfl rfl ⟨⟨rfl, rfl⟩, trivial⟩ rfl (p_load1r rfl Try.g3 rfl rfl) ?_ | refine d_pure [(37, _)] rfl rfl ⟨⟨rfl, rfl⟩, trivial⟩ rfl (p_load1r rfl Try.g3 rfl (strs_ref (by simp only [List.length_cons] at *; omega))) ?_ | refine d_pure [(37, _)] rfl rfl ⟨⟨rfl, rfl⟩, trivial⟩ rfl (p_load1r rfl Try.g3 rfl (strs_ref (by omega))) ?_
      refine d_pure [(36, _), (38, _)] rfl rfl ⟨⟨rfl, rfl⟩, ⟨rfl, rfl⟩, trivial⟩ rfl (p_min rfl rfl) ?_
      refine d_pure [(34, _), (39, _)] rfl rfl ⟨⟨rfl, rfl⟩, ⟨rfl, rfl⟩, trivial⟩ rfl (p_build rfl Try.z60 Try.pl60 (by simp [spC, AV.cells, AV.one, Value.oneCell', splice, AV.kill, AV.clean, cleanL, AV.only]) rfl) ?_
      first | refine d_pure [(10, _)] rfl rfl ⟨⟨rfl, rfl⟩, trivial⟩ rfl (p_fld_adr rfl Try.fd60_0 Try.c3 rfl) ?_ | refine d_pure [(10, _)] rfl rfl ⟨⟨rfl, rfl⟩, trivial⟩ rfl (p_fld_ref rfl Try.fd60_0 Try.c3 rfl) ?_
      first | refine d_pure [(41, _)] rfl rfl ⟨⟨rfl, rfl⟩, trivial⟩ rfl (p_load1 rfl Try.g3 rfl) ?_ | refine d_pure [(41, _)] rfl rfl ⟨⟨rfl, rfl⟩, trivial⟩ rfl (p_load1r rfl Try.g3 rfl rfl) ?_ | refine d_pure [(41, _)] rfl rfl ⟨⟨rfl, rfl⟩, trivial⟩ rfl (p_load1r rfl Try.g3 rfl (strs_ref (by simp only [List.length_cons] at *; omega))) ?_ | refine d_pure [(41, _)] rfl rfl ⟨⟨rfl, rfl⟩, trivial⟩ rfl (p_load1r rfl Try.g3 rfl (strs_ref (by omega))) ?_
      first | refine d_pure [(7, _)] rfl rfl ⟨⟨rfl, rfl⟩, trivial⟩ rfl (p_fld_adr rfl Try.fd60_1 Try.c3 rfl) ?_ | refine d_pure [(7, _)] rfl rfl ⟨⟨rfl, rfl⟩, trivial⟩ rfl (p_fld_ref rfl Try.fd60_1 Try.c3 rfl) ?_
      first | refine d_pure [(43, _)] rfl rfl ⟨⟨rfl, rfl⟩, trivial⟩ rfl (p_load1 rfl Try.g3 rfl) ?_ | refine d_pure [(43, _)] rfl rfl ⟨⟨rfl, rfl⟩, trivial⟩ rfl (p_load1r rfl Try.g3 rfl rfl) ?_ | refine d_pure [(43, _)] rfl rfl ⟨⟨rfl, rfl⟩, trivial⟩ rfl (p_load1r rfl Try.g3 rfl (strs_ref (by simp only [List.length_cons] at *; omega))) ?_ | refine d_pure [(43, _)] rfl rfl ⟨⟨rfl, rfl⟩, trivial⟩ rfl (p_load1r rfl Try.g3 rfl (strs_ref (by omega))) ?_
      refine d_pure [(42, _), (44, _)] rfl rfl ⟨⟨rfl, rfl⟩, ⟨rfl, rfl⟩, trivial⟩ rfl (p_max rfl rfl) ?_
      first | refine d_pure [(10, _)] rfl rfl ⟨⟨rfl, rfl⟩, trivial⟩ rfl (p_fld_adr rfl Try.fd60_1 Try.c3 rfl) ?_ | refine d_pure [(10, _)] rfl rfl ⟨⟨rfl, rfl⟩, trivial⟩ rfl (p_fld_ref rfl Try.fd60_1 Try.c3 rfl) ?_
      first | refine d_pure [(46, _)] rfl rfl ⟨⟨rfl, rfl⟩, trivial⟩ rfl (p_load1 rfl Try.g3 rfl) ?_ | refine d_pure [(46, _)] rfl rfl ⟨⟨rfl, rfl⟩, trivial⟩ rfl (p_load1r rfl Try.g3 rfl rfl) ?_ | refine d_pure [(46, _)] rfl rfl ⟨⟨rfl, rfl⟩, trivial⟩ rfl (p_load1r rfl Try.g3 rfl (strs_ref (by simp only [List.length_cons] at *; omega))) ?_ | refine d_pure [(46, _)] rfl rfl ⟨⟨rfl, rfl⟩, trivial⟩ rfl (p_load1r rfl Try.g3 rfl (strs_ref (by omega))) ?_
      refine d_pure [(45, _), (47, _)] rfl rfl ⟨⟨rfl, rfl⟩, ⟨rfl, rfl⟩, trivial⟩ rfl (p_build rfl Try.z60 Try.pl60 (by simp [spC, AV.cells, AV.one, Value.oneCell', splice, AV.kill, AV.clean, cleanL, AV.only]) rfl) ?_
      refine d_rstep [(40, _), (48, _)] rfl rfl ⟨⟨rfl, rfl⟩, ⟨rfl, rfl⟩, trivial⟩ rfl (r_buildSlice Try.ap42 rfl rfl rfl rfl (by simp [spC, AV.cells, AV.leaf, Value.oneCell', splice, AV.kill, AV.clean, cleanL, AV.only])) ?_
      refine lex_tail (sl' := [(7, _), (8, _), (13, _), (14, _), (15, _), (21, _), (22, _), (23, _), (32, _), (49, _)]) rfl ⟨rfl, rfl, rfl, rfl, rfl, rfl, rfl, rfl, rfl, rfl, trivial⟩ rfl ?_
      refine aany_step 23 [] (by kernel_rfl) ⟨?_, trivial⟩
      ·
       refine ⟨_, rfl, rfl, ?_⟩
       refine aop_of_aops (ops := #[]) rfl ?_
       refine x_append hf rfl Try.ap42 rfl rfl rfl (.inl rfl) (by rw [List.length_map]; omega) rfl (by first | rfl | simp [asrc, look]) (by first | (simp only [maxLen, List.length_map, List.length_append, List.length_cons, List.length_nil]; omega) | (simp [maxLen] <;> omega)) (by first | (simp only [List.length_map, List.length_append, List.length_cons, List.length_nil]; omega) | (simp <;> omega)) ?_
       refine aops_le (le_of (sl' := [(7, _), (8, _), (13, _), (14, _), (15, _), (21, _), (22, _), (23, _), (50, _)]) ⟨rfl, rfl, rfl, rfl, rfl, rfl, rfl, rfl, rfl, trivial⟩) ?_
       refine aops_any ?_
       refine aany_step 24 [] (by kernel_rfl) ⟨?_, trivial⟩
       ·
        refine ⟨_, rfl, rfl, ?_⟩
        refine aop_of_aops (ops := #[]) rfl ?_
        refine x_pure rfl (p_assign rfl) ?_
        refine aops_any ?_
        refine aany_end (by kernel_rfl) ?_
        refine hK16 _ ?_
        refine aw_region ?_
        first | refine x_pure rfl (p_add rfl rfl (by omega) (by omega)) ?_ | refine x_pure rfl (p_bin rfl rfl rfl) ?_
        refine x_pure rfl (p_move rfl) ?_
        first | refine aops_end ?_ | refine aops_nil ?_
        refine ⟨(j + 1, left ++ less1 b[k] out[j]), ⟨by omega, by rw [h5, take_flatMap out (less1 b[k]) j (by omega)], by rw [List.length_append, h6]; simp only [less1, List.length_cons, List.length_nil]; omega⟩, by simp only; omega, ?_⟩
        exact le_to ⟨rfl, (by rw [List.length_append]; rfl), rfl, rfl, rfl, rfl, rfl, rfl, trivial⟩ (by rw [List.map_append]; rfl)
     ·
      try simp only [Bool.not_eq_true', Bool.not_eq_false', Bool.not_true, Bool.not_false, Bool.not_not, decide_eq_true_eq, decide_eq_false_iff_not, beq_iff_eq, beq_eq_false_iff_ne, bne_iff_ne, bne_eq_false_iff_eq, ne_eq, Int.not_lt, Int.not_le, Nat.not_lt, Nat.not_le, gt_iff_lt, ge_iff_le, Bool.and_eq_true, Bool.or_eq_true, Int.ofNat_lt, Int.ofNat_le, Int.natCast_inj, List.length_map, List.length_cons, List.length_nil, List.length_append] at hc3
      refine aw_exit ?_
      refine hK12 _ ?_
      refine aw_region ?_
      refine x_pure rfl (p_move rfl) ?_
      refine y_callM hf 8 rfl rfl rfl rfl rfl Try.ent57 (deleteFunc_den Try.ent43 rfl (fun _ => rfl) noTime left _ rfl (by omega) (fun x _ => none_den x)) ?_
      rintro r zs ⟨rfl, rfl⟩
      refine aops_le (le_freeze (sl' := [(53, .sl 2 ((left.filter fun x => !noTime x).map spC)), (13, _), (14, _), (15, _)]) ⟨⟨_, rfl, only_whole (g := 8) rfl (by rw [List.length_map])⟩, ⟨_, rfl, rfl⟩, ⟨_, rfl, rfl⟩, ⟨_, rfl, rfl⟩, trivial⟩) ?_
      refine x_pure rfl (p_assign rfl) ?_
      first | refine aops_end ?_ | refine aops_nil ?_
      refine hK7 _ ?_
      refine aw_region ?_
      first | refine x_pure rfl (p_add rfl rfl (by omega) (by omega)) ?_ | refine x_pure rfl (p_bin rfl rfl rfl) ?_
      refine x_pure rfl (p_move rfl) ?_
      first | refine aops_end ?_ | refine aops_nil ?_
      first
      | exact ⟨(k + 1, out), ⟨by omega, by rw [take_foldl b lessStep (normL a) k (by omega), ← h2, lessStep, if_pos (by assumption)]⟩, by simp only; omega, le_of ⟨rfl, rfl, rfl, rfl, trivial⟩⟩
      | exact ⟨(k + 1, left.filter fun x => !noTime x), ⟨by omega, by rw [take_foldl b lessStep (normL a) k (by omega), ← h2, lessStep, if_neg (by omega), noTime_filter, h5, List.take_of_length_le (show out.length ≤ j by omega)]⟩, by simp only; omega, le_of ⟨rfl, rfl, rfl, rfl, trivial⟩⟩
  ·
   try simp only [Bool.not_eq_true', Bool.not_eq_false', Bool.not_true, Bool.not_false, Bool.not_not, decide_eq_true_eq, decide_eq_false_iff_not, beq_iff_eq, beq_eq_false_iff_ne, bne_iff_ne, bne_eq_false_iff_eq, ne_eq, Int.not_lt, Int.not_le, Nat.not_lt, Nat.not_le, gt_iff_lt, ge_iff_le, Bool.and_eq_true, Bool.or_eq_true, Int.ofNat_lt, Int.ofNat_le, Int.natCast_inj, List.length_map, List.length_cons, List.length_nil, List.length_append] at hc1
   refine aw_exit ?_
   refine hK3 _ ?_
   refine aw_seq_k (fun K18 hK18 => ?_)
   refine aw_region ?_
   refine x_pure rfl (p_move rfl) ?_
   refine x_step hf rfl (r_call rfl rfl Try.ent46 rfl (norm_den _ (by omega))) ?_
   refine x_pure rfl (p_assign rfl) ?_
   first | refine aops_end ?_ | refine aops_nil ?_
   refine hK18 _ ?_
   refine aw_ret ?_
   refine ⟨_, rfl, ?_⟩
   show AV.sl 2 ((normL out).map spC) = _
   rw [h2, List.take_of_length_le (by omega), lesses_norm]
end Go.Proofs.Ytblbkjdfgpffpaa
