import Derived.Test.YtkjniggdldpnoaaHW2
import Derived.Test.YtkjniggdldpnoaaH2
set_option linter.unusedVariables false
set_option linter.unusedSimpArgs false
namespace Go.Proofs.Ytkjniggdldpnoaa
open Go Go.Abs

set_option maxRecDepth 20000 in
set_option maxHeartbeats 2000000 in
theorem addS_den (l : List Stay) (s : Stay) (hl : l.length * 32 ≤ 140737488351232)  : Den Try.prog 40 [.sl 4 (l.map stC), .agg (stC s)]  (· = .sl 4 ((addS l s).map stC)) := by
 refine den_of_aw Try.func40 rfl (Nat.le_of_ble_eq_true rfl) (fun w0 A hf => ?_)
 refine aw_seq_k (fun K1 hK1 => ?_)
 refine aw_region ?_
 refine x_step hf rfl (r_box rfl rfl (by simp [stC, spC, AV.cells, AV.leaf, Value.oneCell', splice, AV.kill, AV.clean, cleanL, AV.only])) ?_
 refine x_pure rfl (p_assign_bad) ?_
 first | refine aops_end ?_ | refine aops_nil ?_
 refine hK1 _ ?_
 refine aw_seq_k (fun K2 hK2 => ?_)
 refine aw_seq_k (fun K3 hK3 => ?_)
 refine aw_region ?_
 first | refine x_pure rfl (p_fld_adr rfl Try.fd57_0 Try.c43 rfl) ?_ | refine x_pure rfl (p_fld_ref rfl Try.fd57_0 Try.c43 rfl) ?_
 first | refine x_pure rfl (p_loads rfl Try.g43 Try.c43 rfl rfl) ?_ | refine x_pure rfl (p_loadsr rfl Try.g43 Try.c43 rfl rfl rfl) ?_
 refine x_step hf rfl (r_call rfl rfl Try.ent61 rfl (none_den s.1)) ?_
 first | refine aops_end ?_ | refine aops_nil ?_
 refine hK3 _ ?_
 refine aw_cond_s rfl (fun hc1 => ?_) (fun hc1 => ?_)
 ·
  try simp only [bs] at hc1
  refine aw_seq_k (fun K4 hK4 => ?_)
  refine aw_region ?_
  refine x_pure rfl (p_move rfl) ?_
  refine x_step hf rfl (r_call rfl rfl Try.ent74 rfl (den_of_deno' (sClone_den _ (by omega)))) ?_
  refine x_pure rfl (p_assign rfl) ?_
  first | refine aops_end ?_ | refine aops_nil ?_
  refine hK4 _ ?_
  refine aw_ret ?_
  refine ⟨_, rfl, ?_⟩
  rw [addS, if_pos (by assumption)]; rfl
 ·
  try simp only [bs] at hc1
  refine aw_skip ?_
  refine hK2 _ ?_
  refine aw_seq_k (fun K5 hK5 => ?_)
  refine aw_region ?_
  refine x_pure rfl (p_move rfl) ?_
  first | refine x_pure rfl (p_len_sl rfl Try.e61) ?_ | refine x_pure rfl (p_len_own rfl Try.e61) ?_ | refine x_pure rfl (p_len_nil rfl Try.e61) ?_
  refine x_pure rfl (p_assign rfl) ?_
  first | refine aops_end ?_ | refine aops_nil ?_
  refine hK5 _ ?_
  refine aw_seq_k (fun K6 hK6 => ?_)
  refine aw_block ?_
  refine aw_loop (ι := Nat) (fun k => ⟨37, [(0, .sl 4 (l.map stC)), (3, .adr (stC s)), (5, .s (.int .i64 (k : Nat)))], []⟩) (fun k => k ≤ l.length ∧ ∀ (j : Nat) (hj : j < l.length), k ≤ j → 0 < cmpS l[j] s) (fun k => k) l.length ?_ ?_ ?_
  · exact ⟨Nat.le_refl _, by omega⟩
  · exact le_to ⟨rfl, rfl, slot_int (by rw [List.length_map]), trivial⟩ rfl
  ·
   rintro k hC
   obtain ⟨h1, h2⟩ := hC
   refine aw_seq_k (fun K7 hK7 => ?_)
   refine aw_seq_k (fun K8 hK8 => ?_)
   refine aw_draw hf Try.mixed (by kernel_rfl) rfl ?_
   refine d_pure [(5, _)] rfl rfl ⟨⟨rfl, rfl⟩, trivial⟩ rfl (p_move rfl) ?_
   refine d_pure [(13, _)] rfl rfl ⟨⟨rfl, rfl⟩, trivial⟩ rfl (p_bin rfl rfl rfl) ?_
   refine d_pure [(14, _)] rfl rfl ⟨⟨rfl, rfl⟩, trivial⟩ rfl (p_move rfl) ?_
   refine d_split 15 true rfl (fun hg2 => ?_) (fun hg2 => ?_)
   ·
    try simp only [bs] at hg2
    refine d_pure [(0, _)] rfl rfl ⟨⟨rfl, rfl⟩, trivial⟩ rfl (p_move rfl) ?_
    refine d_pure [(5, _)] rfl rfl ⟨⟨rfl, rfl⟩, trivial⟩ rfl (p_move rfl) ?_
    first | refine d_pure [(17, _)] rfl rfl ⟨⟨rfl, rfl⟩, trivial⟩ rfl (p_sub rfl rfl (by omega) (by omega)) ?_ | refine d_pure [(17, _)] rfl rfl ⟨⟨rfl, rfl⟩, trivial⟩ rfl (p_bin rfl rfl rfl) ?_
    refine d_pure [(16, _), (18, _)] rfl rfl ⟨⟨rfl, rfl⟩, ⟨rfl, rfl⟩, trivial⟩ rfl (p_idx_sl rfl rfl Try.e61 Try.c57 (map_atZ (k := k - 1) (by omega) (by omega))) ?_
    first | refine d_pure [(19, _)] rfl rfl ⟨⟨rfl, rfl⟩, trivial⟩ rfl (p_loads rfl Try.g57 Try.c57 rfl rfl) ?_ | refine d_pure [(19, _)] rfl rfl ⟨⟨rfl, rfl⟩, trivial⟩ rfl (p_loadsr rfl Try.g57 Try.c57 rfl rfl rfl) ?_
    first | refine d_pure [(3, _)] rfl rfl ⟨⟨rfl, rfl⟩, trivial⟩ rfl (p_loads rfl Try.g57 Try.c57 rfl rfl) ?_ | refine d_pure [(3, _)] rfl rfl ⟨⟨rfl, rfl⟩, trivial⟩ rfl (p_loadsr rfl Try.g57 Try.c57 rfl rfl rfl) ?_
    refine d_rstep [(20, _), (21, _)] rfl rfl ⟨⟨rfl, rfl⟩, ⟨rfl, rfl⟩, trivial⟩ rfl (r_call rfl rfl Try.ent36 rfl (cmpS_den l[k - 1] s)) ?_
    refine d_pure [(22, _)] rfl rfl ⟨⟨rfl, rfl⟩, trivial⟩ rfl (p_bin rfl rfl rfl) ?_
    refine d_pure [(15, _), (23, _)] rfl rfl ⟨⟨rfl, rfl⟩, ⟨rfl, rfl⟩, trivial⟩ rfl (p_pick_t rfl rfl) ?_
    refine lex_end (sl' := [(0, _), (3, _), (5, _), (24, _)]) rfl ⟨rfl, rfl, rfl, rfl, trivial⟩ rfl ?_
    refine hK8 _ ?_
    refine aw_cond_s rfl (fun hc3 => ?_) (fun hc3 => ?_)
    ·
     try simp only [bs] at hc3
     refine aw_skip ?_
     refine hK7 _ ?_
     refine aw_block ?_
     refine aw_region ?_
     refine x_pure rfl (p_move rfl) ?_
     first | refine x_pure rfl (p_sub rfl rfl (by omega) (by omega)) ?_ | refine x_pure rfl (p_bin rfl rfl rfl) ?_
     refine x_pure rfl (p_assign rfl) ?_
     first | refine aops_end ?_ | refine aops_nil ?_
     exact ⟨k - 1, ⟨by omega, fun j hj hkj => by
      by_cases e : j = k - 1
      · subst e; assumption
      · exact h2 j hj (by omega)⟩, by omega, le_to ⟨rfl, rfl, slot_int (by omega), trivial⟩ rfl⟩
    ·
     try simp only [bs] at hc3
     refine aw_exit ?_
     refine hK6 _ ?_
     refine aw_seq_k (fun K9 hK9 => ?_)
     refine aw_draw hf Try.mixed (by kernel_rfl) rfl ?_
     have hins := insL_at s l k (by omega) h2 (fun h0 h => by omega)
     refine d_pure [(0, _)] rfl rfl ⟨⟨rfl, rfl⟩, trivial⟩ rfl (p_move rfl) ?_
     refine d_pure [(5, _)] rfl rfl ⟨⟨rfl, rfl⟩, trivial⟩ rfl (p_move rfl) ?_
     refine d_pure [(27, _), (28, _)] rfl rfl ⟨⟨rfl, rfl⟩, ⟨rfl, rfl⟩, trivial⟩ rfl (p_slice_sl rfl Try.e61 Try.c57 rfl (bnd_z rfl (by omega)) (by omega) (by simp only [List.length_map, Int.toNat_natCast] <;> omega) (slice_to (k := k) (by omega))) ?_
     first | refine d_pure [(3, _)] rfl rfl ⟨⟨rfl, rfl⟩, trivial⟩ rfl (p_loads rfl Try.g57 Try.c57 rfl rfl) ?_ | refine d_pure [(3, _)] rfl rfl ⟨⟨rfl, rfl⟩, trivial⟩ rfl (p_loadsr rfl Try.g57 Try.c57 rfl rfl rfl) ?_
     refine d_rstep [(30, _)] rfl rfl ⟨⟨rfl, rfl⟩, trivial⟩ rfl (r_buildSlice Try.ap61 rfl rfl rfl rfl (by simp [stC, spC, AV.cells, AV.leaf, Value.oneCell', splice, AV.kill, AV.clean, cleanL, AV.only])) ?_
     refine d_pure [(0, _)] rfl rfl ⟨⟨rfl, rfl⟩, trivial⟩ rfl (p_move rfl) ?_
     refine d_pure [(5, _)] rfl rfl ⟨⟨rfl, rfl⟩, trivial⟩ rfl (p_move rfl) ?_
     refine d_pure [(32, _), (33, _)] rfl rfl ⟨⟨rfl, rfl⟩, ⟨rfl, rfl⟩, trivial⟩ rfl (p_slice_sl rfl Try.e61 Try.c57 (bnd_z rfl (by omega)) rfl (by simp only [List.length_map, Int.toNat_natCast] <;> omega) (by omega) (slice_from (k := k) (by omega))) ?_
     refine d_rstep [(29, _), (31, _), (34, _)] rfl rfl ⟨⟨rfl, rfl⟩, ⟨rfl, rfl⟩, ⟨rfl, rfl⟩, trivial⟩ rfl (r_buildSlice Try.ap126 rfl rfl rfl rfl (by simp [stC, spC, AV.cells, AV.leaf, Value.oneCell', splice, AV.kill, AV.clean, cleanL, AV.only])) ?_
     refine d_rstep [(35, _)] rfl rfl ⟨⟨rfl, rfl⟩, trivial⟩ rfl (r_call rfl rfl Try.ent75 rfl ((show Den Try.prog _ _ (· = .sl 4 ((l.take k ++ s :: l.drop k).map stC)) from (den_of_deno' (sConcat_den [l.take k, [s], l.drop k] (by simp) (by simp only [List.flatten_cons, List.flatten_nil, List.length_append, List.length_take, List.length_drop, List.length_cons, List.length_nil]; omega))).mono fun r h => h.trans (by simp)))) ?_
     refine d_pure [(36, _)] rfl rfl ⟨⟨rfl, rfl⟩, trivial⟩ rfl (p_assign rfl) ?_
     refine lex_end (sl' := [(4, _)]) rfl ⟨rfl, trivial⟩ rfl ?_
     refine hK9 _ ?_
     refine aw_ret ?_
     refine ⟨_, rfl, ?_⟩
     rw [addS, if_neg (by omega), hins]; rfl
   ·
    try simp only [bs] at hg2
    refine d_skip rfl rfl ?_
    refine d_skip rfl rfl ?_
    refine d_skip rfl rfl ?_
    refine d_skip rfl rfl ?_
    refine d_skip rfl rfl ?_
    refine d_skip rfl rfl ?_
    refine d_skip rfl rfl ?_
    refine d_skip rfl rfl ?_
    refine d_pure [(15, _), (23, _)] rfl rfl ⟨⟨rfl, rfl⟩, ⟨rfl, rfl⟩, trivial⟩ rfl (p_pick_f rfl rfl) ?_
    refine lex_end (sl' := [(0, _), (3, _), (5, _), (24, _)]) rfl ⟨rfl, rfl, rfl, rfl, trivial⟩ rfl ?_
    refine hK8 _ ?_
    refine aw_cond_f rfl ?_
    refine aw_exit ?_
    refine hK6 _ ?_
    refine aw_seq_k (fun K10 hK10 => ?_)
    refine aw_draw hf Try.mixed (by kernel_rfl) rfl ?_
    have hins := insL_at s l k (by omega) h2 (fun h0 h => by omega)
    refine d_pure [(0, _)] rfl rfl ⟨⟨rfl, rfl⟩, trivial⟩ rfl (p_move rfl) ?_
    refine d_pure [(5, _)] rfl rfl ⟨⟨rfl, rfl⟩, trivial⟩ rfl (p_move rfl) ?_
    refine d_pure [(27, _), (28, _)] rfl rfl ⟨⟨rfl, rfl⟩, ⟨rfl, rfl⟩, trivial⟩ rfl (p_slice_sl rfl Try.e61 Try.c57 rfl (bnd_z rfl (by omega)) (by omega) (by simp only [List.length_map, Int.toNat_natCast] <;> omega) (slice_to (k := k) (by omega))) ?_
    first | refine d_pure [(3, _)] rfl rfl ⟨⟨rfl, rfl⟩, trivial⟩ rfl (p_loads rfl Try.g57 Try.c57 rfl rfl) ?_ | refine d_pure [(3, _)] rfl rfl ⟨⟨rfl, rfl⟩, trivial⟩ rfl (p_loadsr rfl Try.g57 Try.c57 rfl rfl rfl) ?_
    refine d_rstep [(30, _)] rfl rfl ⟨⟨rfl, rfl⟩, trivial⟩ rfl (r_buildSlice Try.ap61 rfl rfl rfl rfl (by simp [stC, spC, AV.cells, AV.leaf, Value.oneCell', splice, AV.kill, AV.clean, cleanL, AV.only])) ?_
    refine d_pure [(0, _)] rfl rfl ⟨⟨rfl, rfl⟩, trivial⟩ rfl (p_move rfl) ?_
    refine d_pure [(5, _)] rfl rfl ⟨⟨rfl, rfl⟩, trivial⟩ rfl (p_move rfl) ?_
    refine d_pure [(32, _), (33, _)] rfl rfl ⟨⟨rfl, rfl⟩, ⟨rfl, rfl⟩, trivial⟩ rfl (p_slice_sl rfl Try.e61 Try.c57 (bnd_z rfl (by omega)) rfl (by simp only [List.length_map, Int.toNat_natCast] <;> omega) (by omega) (slice_from (k := k) (by omega))) ?_
    refine d_rstep [(29, _), (31, _), (34, _)] rfl rfl ⟨⟨rfl, rfl⟩, ⟨rfl, rfl⟩, ⟨rfl, rfl⟩, trivial⟩ rfl (r_buildSlice Try.ap126 rfl rfl rfl rfl (by simp [stC, spC, AV.cells, AV.leaf, Value.oneCell', splice, AV.kill, AV.clean, cleanL, AV.only])) ?_
    refine d_rstep [(35, _)] rfl rfl ⟨⟨rfl, rfl⟩, trivial⟩ rfl (r_call rfl rfl Try.ent75 rfl ((show Den Try.prog _ _ (· = .sl 4 ((l.take k ++ s :: l.drop k).map stC)) from (den_of_deno' (sConcat_den [l.take k, [s], l.drop k] (by simp) (by simp only [List.flatten_cons, List.flatten_nil, List.length_append, List.length_take, List.length_drop, List.length_cons, List.length_nil]; omega))).mono fun r h => h.trans (by simp)))) ?_
    refine d_pure [(36, _)] rfl rfl ⟨⟨rfl, rfl⟩, trivial⟩ rfl (p_assign rfl) ?_
    refine lex_end (sl' := [(4, _)]) rfl ⟨rfl, trivial⟩ rfl ?_
    refine hK10 _ ?_
    refine aw_ret ?_
    refine ⟨_, rfl, ?_⟩
    rw [addS, if_neg (by omega), hins]; rfl

set_option maxRecDepth 20000 in
set_option maxHeartbeats 2000000 in
theorem refAddS_den (l : List Stay) (s : Stay) (hl : l.length * 32 ≤ 140737488351232)  : Den Try.prog 43 [.sl 4 (l.map stC), .agg (stC s)]  (· = .sl 4 ((addS l s).map stC)) := by
 refine den_of_aw Try.func43 rfl (Nat.le_of_ble_eq_true rfl) (fun w0 A hf => ?_)
 refine aw_seq_k (fun K1 hK1 => ?_)
 refine aw_region ?_
 refine x_step hf rfl (r_box rfl rfl (by simp [stC, AV.cells, AV.leaf, Value.oneCell', splice, AV.kill, AV.clean, cleanL, AV.only])) ?_
 refine x_pure rfl (p_assign_bad) ?_
 first | refine aops_end ?_ | refine aops_nil ?_
 refine hK1 _ ?_
 refine aw_seq_k (fun K2 hK2 => ?_)
 refine aw_seq_k (fun K3 hK3 => ?_)
 refine aw_region ?_
 first | refine x_pure rfl (p_fld_adr rfl Try.fd52_1 Try.c3 rfl) ?_ | refine x_pure rfl (p_fld_ref rfl Try.fd52_1 Try.c3 rfl) ?_
 first | refine x_pure rfl (p_load1 rfl Try.g3 rfl) ?_ | refine x_pure rfl (p_load1r rfl Try.g3 rfl rfl) ?_ | refine x_pure rfl (p_load1r rfl Try.g3 rfl (strs_ref (by simp only [List.length_cons] at *; omega))) ?_ | refine x_pure rfl (p_load1r rfl Try.g3 rfl (strs_ref (by omega))) ?_
 first | refine x_pure rfl (p_fld_adr rfl Try.fd52_0 Try.c3 rfl) ?_ | refine x_pure rfl (p_fld_ref rfl Try.fd52_0 Try.c3 rfl) ?_
 first | refine x_pure rfl (p_load1 rfl Try.g3 rfl) ?_ | refine x_pure rfl (p_load1r rfl Try.g3 rfl rfl) ?_ | refine x_pure rfl (p_load1r rfl Try.g3 rfl (strs_ref (by simp only [List.length_cons] at *; omega))) ?_ | refine x_pure rfl (p_load1r rfl Try.g3 rfl (strs_ref (by omega))) ?_
 refine x_pure rfl (p_bin rfl rfl rfl) ?_
 first | refine aops_end ?_ | refine aops_nil ?_
 refine hK3 _ ?_
 refine aw_cond_s rfl (fun hc1 => ?_) (fun hc1 => ?_)
 ·
  try simp only [bs] at hc1
  refine aw_seq_k (fun K4 hK4 => ?_)
  refine aw_region ?_
  refine x_pure rfl (p_move rfl) ?_
  refine x_pure rfl (p_assign rfl) ?_
  first | refine aops_end ?_ | refine aops_nil ?_
  refine hK4 _ ?_
  refine aw_ret ?_
  refine ⟨_, rfl, ?_⟩
  rw [addS, if_pos (by assumption)]; rfl
 ·
  try simp only [bs] at hc1
  refine aw_skip ?_
  refine hK2 _ ?_
  refine aw_seq_k (fun K5 hK5 => ?_)
  refine aw_region ?_
  refine x_pure rfl (p_assign rfl) ?_
  first | refine aops_end ?_ | refine aops_nil ?_
  refine hK5 _ ?_
  refine aw_seq_k (fun K6 hK6 => ?_)
  refine aw_seq_k (fun K7 hK7 => ?_)
  refine aw_region ?_
  refine x_pure rfl (p_assign rfl) ?_
  first | refine aops_end ?_ | refine aops_nil ?_
  refine hK7 _ ?_
  refine aw_block ?_
  refine aw_loop (ι := Nat × Nat) (fun (⟨k, a⟩ : Nat × Nat) => ⟨43, [(0, .sl 4 (l.map stC)), (3, .adr (stC s)), (5, .s (.int .i64 (a : Nat))), (6, .s (.int .i64 (k : Nat)))], []⟩) (fun (⟨k, a⟩ : Nat × Nat) => k ≤ l.length ∧ a ≤ k ∧ (∀ (j : Nat) (hj : j < l.length), a ≤ j → j < k → 0 < cmpS l[j] s) ∧ (∀ z, l[a - 1]? = some z → 0 < a → cmpS z s ≤ 0)) (fun (⟨k, a⟩ : Nat × Nat) => l.length - k) (0, 0) ?_ ?_ ?_
  · exact ⟨Nat.zero_le _, Nat.le_refl _, by omega, by omega⟩
  · exact le_of ⟨rfl, rfl, rfl, rfl, trivial⟩
  ·
   rintro ⟨k, a⟩ hC
   obtain ⟨h1, h2, h3, h4⟩ := hC
   refine aw_seq_k (fun K8 hK8 => ?_)
   refine aw_seq_k (fun K9 hK9 => ?_)
   refine aw_region ?_
   refine x_pure rfl (p_move rfl) ?_
   refine x_pure rfl (p_move rfl) ?_
   first | refine x_pure rfl (p_len_sl rfl Try.e54) ?_ | refine x_pure rfl (p_len_own rfl Try.e54) ?_ | refine x_pure rfl (p_len_nil rfl Try.e54) ?_
   refine x_pure rfl (p_bin rfl rfl rfl) ?_
   first | refine aops_end ?_ | refine aops_nil ?_
   refine hK9 _ ?_
   refine aw_cond_s rfl (fun hc2 => ?_) (fun hc2 => ?_)
   ·
    try simp only [bs] at hc2
    refine aw_skip ?_
    refine hK8 _ ?_
    refine aw_seq_k (fun K10 hK10 => ?_)
    refine aw_block ?_
    refine aw_seq_k (fun K11 hK11 => ?_)
    refine aw_draw hf Try.mixed (by kernel_rfl) rfl ?_
    first | refine d_pure [(3, _)] rfl rfl ⟨⟨rfl, rfl⟩, trivial⟩ rfl (p_loads rfl Try.g52 Try.c52 rfl rfl) ?_ | refine d_pure [(3, _)] rfl rfl ⟨⟨rfl, rfl⟩, trivial⟩ rfl (p_loadsr rfl Try.g52 Try.c52 rfl rfl rfl) ?_
    refine d_pure [(0, _)] rfl rfl ⟨⟨rfl, rfl⟩, trivial⟩ rfl (p_move rfl) ?_
    refine d_pure [(6, _)] rfl rfl ⟨⟨rfl, rfl⟩, trivial⟩ rfl (p_move rfl) ?_
    first | refine d_pure [(21, _), (22, _)] rfl rfl ⟨⟨rfl, rfl⟩, ⟨rfl, rfl⟩, trivial⟩ rfl (p_idx_sl rfl rfl Try.e54 Try.c52 (by first | assumption | (refine ⟨by omega, ?_⟩; first | assumption | exact strs_at (by omega) | exact strs_at (by simp only [List.length_cons] at *; omega) | exact ints_at (by omega) | exact map_at (by omega) | exact list_at (by omega)) | exact ⟨by decide, rfl⟩)) ?_ | refine d_pure [(21, _), (22, _)] rfl rfl ⟨⟨rfl, rfl⟩, ⟨rfl, rfl⟩, trivial⟩ rfl (p_idx_own rfl rfl Try.e54 Try.c52 (by omega)) ?_
    first | refine d_pure [(23, _)] rfl rfl ⟨⟨rfl, rfl⟩, trivial⟩ rfl (p_loads rfl Try.g52 Try.c52 rfl rfl) ?_ | refine d_pure [(23, _)] rfl rfl ⟨⟨rfl, rfl⟩, trivial⟩ rfl (p_loadsr rfl Try.g52 Try.c52 rfl rfl rfl) ?_
    refine d_rstep [(20, _), (24, _)] rfl rfl ⟨⟨rfl, rfl⟩, ⟨rfl, rfl⟩, trivial⟩ rfl (r_call rfl rfl Try.ent34 rfl (aheadS_den s l[k])) ?_
    refine d_pure [(25, _)] rfl rfl ⟨⟨rfl, rfl⟩, trivial⟩ rfl (p_not rfl) ?_
    refine lex_end (sl' := [(0, _), (3, _), (5, _), (6, _), (26, _)]) rfl ⟨rfl, rfl, rfl, rfl, rfl, trivial⟩ rfl ?_
    refine hK11 _ ?_
    refine aw_cond_s rfl (fun hc3 => ?_) (fun hc3 => ?_)
    ·
     try simp only [bs] at hc3
     refine aw_region ?_
     refine x_pure rfl (p_move rfl) ?_
     first | refine x_pure rfl (p_add rfl rfl (by omega) (by omega)) ?_ | refine x_pure rfl (p_bin rfl rfl rfl) ?_
     refine x_pure rfl (p_assign rfl) ?_
     first | refine aops_end ?_ | refine aops_nil ?_
     refine hK10 _ ?_
     refine aw_region ?_
     refine x_pure rfl (p_move rfl) ?_
     first | refine x_pure rfl (p_add rfl rfl (by omega) (by omega)) ?_ | refine x_pure rfl (p_bin rfl rfl rfl) ?_
     refine x_pure rfl (p_assign rfl) ?_
     first | refine aops_end ?_ | refine aops_nil ?_
     first
     | exact ⟨(k + 1, k + 1), ⟨by omega, Nat.le_refl _, by omega, fun z hz _ => by rw [Nat.add_sub_cancel, List.getElem?_eq_getElem (by omega)] at hz; cases hz; have := cmpS_tri.swap l[k] s; omega⟩, by simp only; omega, le_of ⟨rfl, rfl, rfl, rfl, trivial⟩⟩
     | exact ⟨(k + 1, a), ⟨by omega, by omega, fun j hj h5 h6 => by
      by_cases e : j = k
      · subst e; have := cmpS_tri.swap l[j] s; omega
      · exact h3 j hj h5 (by omega), h4⟩, by simp only; omega, le_of ⟨rfl, rfl, rfl, rfl, trivial⟩⟩
    ·
     try simp only [bs] at hc3
     refine aw_skip ?_
     refine hK10 _ ?_
     refine aw_region ?_
     refine x_pure rfl (p_move rfl) ?_
     first | refine x_pure rfl (p_add rfl rfl (by omega) (by omega)) ?_ | refine x_pure rfl (p_bin rfl rfl rfl) ?_
     refine x_pure rfl (p_assign rfl) ?_
     first | refine aops_end ?_ | refine aops_nil ?_
     first
     | exact ⟨(k + 1, k + 1), ⟨by omega, Nat.le_refl _, by omega, fun z hz _ => by rw [Nat.add_sub_cancel, List.getElem?_eq_getElem (by omega)] at hz; cases hz; have := cmpS_tri.swap l[k] s; omega⟩, by simp only; omega, le_of ⟨rfl, rfl, rfl, rfl, trivial⟩⟩
     | exact ⟨(k + 1, a), ⟨by omega, by omega, fun j hj h5 h6 => by
      by_cases e : j = k
      · subst e; have := cmpS_tri.swap l[j] s; omega
      · exact h3 j hj h5 (by omega), h4⟩, by simp only; omega, le_of ⟨rfl, rfl, rfl, rfl, trivial⟩⟩
   ·
    try simp only [bs] at hc2
    refine aw_exit ?_
    refine hK6 _ ?_
    refine aw_seq_k (fun K12 hK12 => ?_)
    refine aw_region ?_
    have hins := insL_at s l a (by omega) (fun j hj h5 => h3 j hj h5 (by omega)) (fun h0 h => h4 _ (List.getElem?_eq_getElem h) h0)
    refine y_buildSlice hf rfl rfl rfl Try.ap54 rfl rfl rfl rfl (by simp [stC, AV.cells, AV.leaf, Value.oneCell', splice, AV.kill, AV.clean, cleanL, AV.only]) ?_
    refine x_pure rfl (p_move rfl) ?_
    refine x_pure rfl (p_move rfl) ?_
    refine x_pure rfl (p_slice_sl rfl Try.e54 Try.c52 rfl (bnd_z rfl (by omega)) (by omega) (by simp only [List.length_map, Int.toNat_natCast] <;> omega) (slice_to (k := a) (by omega))) ?_
    refine x_append hf rfl Try.ap54 rfl rfl rfl (.inl rfl) (by first | rfl | (simp only [List.length_append, List.length_map, List.length_cons, List.length_nil, List.length_take] <;> omega)) rfl (by first | rfl | simp [asrc, look]) (by first | (simp only [maxLen, List.length_map, List.length_append, List.length_cons, List.length_nil]; omega) | (simp [maxLen] <;> omega)) (by first | (simp only [List.length_map, List.length_append, List.length_cons, List.length_nil]; omega) | (simp <;> omega)) ?_
    refine aops_le (le_of (sl' := [(0, _), (3, _), (5, _), (33, _)]) ⟨rfl, rfl, rfl, rfl, trivial⟩) ?_
    refine x_pure rfl (p_assign rfl) ?_
    first | refine aops_end ?_ | refine aops_nil ?_
    refine hK12 _ ?_
    refine aw_seq_k (fun K13 hK13 => ?_)
    refine aw_region ?_
    refine x_pure rfl (p_move rfl) ?_
    first | refine x_pure rfl (p_loads rfl Try.g52 Try.c52 rfl rfl) ?_ | refine x_pure rfl (p_loadsr rfl Try.g52 Try.c52 rfl rfl rfl) ?_
    refine x_step hf rfl (r_buildSlice Try.ap54 rfl rfl rfl rfl (by simp [stC, AV.cells, AV.leaf, Value.oneCell', splice, AV.kill, AV.clean, cleanL, AV.only])) ?_
    refine x_append hf rfl Try.ap54 rfl rfl rfl (.inl rfl) (by first | rfl | (simp only [List.length_append, List.length_map, List.length_cons, List.length_nil, List.length_take] <;> omega)) rfl (by first | rfl | simp [asrc, look]) (by first | (simp only [maxLen, List.length_map, List.length_append, List.length_cons, List.length_nil]; omega) | (simp [maxLen] <;> omega)) (by first | (simp only [List.length_map, List.length_append, List.length_cons, List.length_nil]; omega) | (simp <;> omega)) ?_
    refine aops_le (le_of (sl' := [(0, _), (5, _), (37, _)]) ⟨rfl, rfl, rfl, trivial⟩) ?_
    refine x_pure rfl (p_assign rfl) ?_
    first | refine aops_end ?_ | refine aops_nil ?_
    refine hK13 _ ?_
    refine aw_seq_k (fun K14 hK14 => ?_)
    refine aw_region ?_
    refine x_pure rfl (p_move rfl) ?_
    refine x_pure rfl (p_move rfl) ?_
    refine x_pure rfl (p_move rfl) ?_
    refine x_pure rfl (p_slice_sl rfl Try.e54 Try.c52 (bnd_z rfl (by omega)) rfl (by simp only [List.length_map, Int.toNat_natCast] <;> omega) (by omega) (slice_from (k := a) (by omega))) ?_
    refine x_append hf rfl Try.ap54 rfl rfl rfl (.inl rfl) (by first | rfl | (simp only [List.length_append, List.length_map, List.length_cons, List.length_nil, List.length_take] <;> omega)) rfl (by first | rfl | simp [asrc, look]) (by first | (simp only [maxLen, List.length_map, List.length_append, List.length_cons, List.length_nil]; omega) | (simp [maxLen] <;> omega)) (by first | (simp only [List.length_map, List.length_append, List.length_cons, List.length_nil]; omega) | (simp <;> omega)) ?_
    refine aops_le (le_of (sl' := [(42, _)]) ⟨rfl, trivial⟩) ?_
    refine x_pure rfl (p_assign rfl) ?_
    first | refine aops_end ?_ | refine aops_nil ?_
    refine hK14 _ ?_
    refine aw_ret ?_
    refine ⟨_, rfl, ?_⟩
    refine (conv_whole (g := 29) rfl ?_).trans ?_
    · simp only [List.length_append, List.length_map, List.length_cons, List.length_nil, List.length_take]
    · rw [addS, if_neg (by omega), hins]; first | (simp; done) | (simp; rfl)

set_option maxRecDepth 20000 in
set_option maxHeartbeats 4000000 in
theorem cutS_den (l : List Stay) (b : List Sp) (hl : l.length * 32 ≤ 140737488351232) (hb0 : b.length ≤ 1000000000) (hlb : l.length * (normL b).length * 32 ≤ 140737488351232)  : Den Try.prog 49 [.sl 4 (l.map stC), .sl 2 (b.map spC)]  (· = .sl 4 ((cutS l b).map stC)) := by
 have hnb := norm_len b
 refine den_of_aw Try.func49 rfl (Nat.le_of_ble_eq_true rfl) (fun w0 A hf => ?_)
 refine aw_seq_k (fun K1 hK1 => ?_)
 refine aw_region ?_
 refine x_pure rfl (p_assign_bad) ?_
 first | refine aops_end ?_ | refine aops_nil ?_
 refine hK1 _ ?_
 refine aw_seq_k (fun K2 hK2 => ?_)
 refine aw_region ?_
 refine x_nil hf 4 rfl rfl rfl ?_
 first | refine aops_end ?_ | refine aops_nil ?_
 refine hK2 _ ?_
 refine aw_seq_k (fun K3 hK3 => ?_)
 refine aw_region ?_
 refine x_pure rfl (p_move rfl) ?_
 refine x_step hf rfl (r_call rfl rfl Try.ent30 rfl (norm_den b (by omega))) ?_
 refine x_pure rfl (p_assign rfl) ?_
 first | refine aops_end ?_ | refine aops_nil ?_
 refine hK3 _ ?_
 refine aw_seq_k (fun K4 hK4 => ?_)
 refine aw_seq_k (fun K5 hK5 => ?_)
 refine aw_region ?_
 refine x_pure rfl (p_move rfl) ?_
 first | refine x_pure rfl (p_len_sl rfl Try.e61) ?_ | refine x_pure rfl (p_len_own rfl Try.e61) ?_ | refine x_pure rfl (p_len_nil rfl Try.e61) ?_
 refine x_pure rfl (p_move rfl) ?_
 first | refine aops_end ?_ | refine aops_nil ?_
 refine hK5 _ ?_
 refine aw_block ?_
 refine aw_loop (ι := Nat × List Stay) (fun (⟨k, out⟩ : Nat × List Stay) => ⟨46, [(1, .sl 2 ((normL b).map spC)), (5, .own 5 4 0 out.length), (13, .sl 4 (l.map stC)), (14, .s (.int .i64 ((l.map stC).length : Nat))), (15, .s (.int .i64 (k : Nat)))], [(5, .buf 4 (out.map stC))]⟩) (fun (⟨k, out⟩ : Nat × List Stay) => k ≤ l.length ∧ out = cutRaw (l.take k) (normL b) ∧ out.length ≤ k * (normL b).length) (fun (⟨k, out⟩ : Nat × List Stay) => l.length - k) (0, []) ?_ ?_ ?_
 · exact ⟨Nat.zero_le _, rfl, Nat.zero_le _⟩
 · exact le_of ⟨rfl, rfl, rfl, rfl, rfl, trivial⟩
 ·
  rintro ⟨k, out⟩ hC
  obtain ⟨h1, h2, h3⟩ := hC
  refine aw_seq_k (fun K6 hK6 => ?_)
  refine aw_region ?_
  refine x_pure rfl (p_bin rfl rfl rfl) ?_
  first | refine aops_end ?_ | refine aops_nil ?_
  refine hK6 _ ?_
  refine aw_seq_k (fun K7 hK7 => ?_)
  refine aw_cond_s rfl (fun hc1 => ?_) (fun hc1 => ?_)
  ·
   try simp only [bs] at hc1
   refine aw_skip ?_
   refine hK7 _ ?_
   refine aw_seq_k (fun K8 hK8 => ?_)
   refine aw_block ?_
   refine aw_seq_k (fun K9 hK9 => ?_)
   refine aw_region ?_
   first | refine x_pure rfl (p_idx_sl rfl rfl Try.e61 Try.c57 (by first | assumption | (refine ⟨by omega, ?_⟩; first | assumption | exact strs_at (by omega) | exact strs_at (by simp only [List.length_cons] at *; omega) | exact ints_at (by omega) | exact map_at (by omega) | exact list_at (by omega)) | exact ⟨by decide, rfl⟩)) ?_ | refine x_pure rfl (p_idx_own rfl rfl Try.e61 Try.c57 (by omega)) ?_
   first | refine x_pure rfl (p_loads rfl Try.g57 Try.c57 rfl rfl) ?_ | refine x_pure rfl (p_loadsr rfl Try.g57 Try.c57 rfl rfl rfl) ?_
   refine x_allocst hf rfl Try.z57 rfl Try.c57 rfl rfl rfl rfl (by simp [stC, spC, AV.cells, AV.leaf, Value.oneCell', splice, AV.kill, AV.clean, cleanL, AV.only]) ?_
   first | refine aops_end ?_ | refine aops_nil ?_
   refine hK9 _ ?_
   refine aw_seq_k (fun K10 hK10 => ?_)
   refine aw_region ?_
   refine x_pure rfl (p_move rfl) ?_
   first | refine x_pure rfl (p_len_sl rfl Try.e33) ?_ | refine x_pure rfl (p_len_own rfl Try.e33) ?_ | refine x_pure rfl (p_len_nil rfl Try.e33) ?_
   refine x_pure rfl (p_move rfl) ?_
   first | refine aops_end ?_ | refine aops_nil ?_
   refine hK10 _ ?_
   refine aw_block ?_
   refine aw_loop (ι := Nat × List Stay) (fun (⟨j, o⟩ : Nat × List Stay) => ⟨46, [(1, .sl 2 ((normL b).map spC)), (5, .own 5 4 0 o.length), (7, .adr (stC l[k])), (13, .sl 4 (l.map stC)), (14, .s (.int .i64 ((l.map stC).length : Nat))), (15, .s (.int .i64 (k : Nat))), (19, .sl 2 ((normL b).map spC)), (20, .s (.int .i64 (((normL b).map spC).length : Nat))), (21, .s (.int .i64 (j : Nat)))], [(5, .buf 4 (o.map stC))]⟩) (fun (⟨j, o⟩ : Nat × List Stay) => j ≤ (normL b).length ∧ o = out ++ ((normL b).take j).flatMap (meetS l[k]) ∧ o.length ≤ k * (normL b).length + j) (fun (⟨j, o⟩ : Nat × List Stay) => (normL b).length - j) (0, out) ?_ ?_ ?_
   · exact ⟨Nat.zero_le _, by simp, by omega⟩
   · exact le_of ⟨rfl, rfl, rfl, rfl, rfl, rfl, rfl, rfl, rfl, trivial⟩
   ·
    rintro ⟨j, o⟩ hC
    obtain ⟨h4, h5, h6⟩ := hC
    refine aw_seq_k (fun K11 hK11 => ?_)
    refine aw_region ?_
    refine x_pure rfl (p_bin rfl rfl rfl) ?_
    first | refine aops_end ?_ | refine aops_nil ?_
    refine hK11 _ ?_
    refine aw_seq_k (fun K12 hK12 => ?_)
    refine aw_cond_s rfl (fun hc2 => ?_) (fun hc2 => ?_)
    ·
     try simp only [bs] at hc2
     refine aw_skip ?_
     refine hK12 _ ?_
     refine aw_seq_k (fun K13 hK13 => ?_)
     refine aw_block ?_
     refine aw_seq_k (fun K14 hK14 => ?_)
     refine aw_region ?_
     have hm := Nat.mul_le_mul_right (normL b).length (show k + 1 ≤ l.length by omega)
     rw [Nat.add_mul, Nat.one_mul] at hm
     have hj : j < (normL b).length := by omega
     first | refine x_pure rfl (p_idx_sl rfl rfl Try.e33 Try.c43 (by first | assumption | (refine ⟨by omega, ?_⟩; first | assumption | exact strs_at (by omega) | exact strs_at (by simp only [List.length_cons] at *; omega) | exact ints_at (by omega) | exact map_at (by omega) | exact list_at (by omega)) | exact ⟨by decide, rfl⟩)) ?_ | refine x_pure rfl (p_idx_own rfl rfl Try.e33 Try.c43 (by omega)) ?_
     first | refine x_pure rfl (p_loads rfl Try.g43 Try.c43 rfl rfl) ?_ | refine x_pure rfl (p_loadsr rfl Try.g43 Try.c43 rfl rfl rfl) ?_
     refine x_allocst hf rfl Try.z43 rfl Try.c43 rfl rfl rfl rfl (by simp [stC, spC, AV.cells, AV.leaf, Value.oneCell', splice, AV.kill, AV.clean, cleanL, AV.only]) ?_
     first | refine aops_end ?_ | refine aops_nil ?_
     refine hK14 _ ?_
     refine aw_seq_k (fun K15 hK15 => ?_)
     refine aw_region ?_
     first | refine x_pure rfl (p_fld_adr rfl Try.fd57_0 Try.c43 rfl) ?_ | refine x_pure rfl (p_fld_ref rfl Try.fd57_0 Try.c43 rfl) ?_
     first | refine x_pure rfl (p_loads rfl Try.g43 Try.c43 rfl rfl) ?_ | refine x_pure rfl (p_loadsr rfl Try.g43 Try.c43 rfl rfl rfl) ?_
     first | refine x_pure rfl (p_loads rfl Try.g43 Try.c43 rfl rfl) ?_ | refine x_pure rfl (p_loadsr rfl Try.g43 Try.c43 rfl rfl rfl) ?_
     refine x_step hf rfl (r_call rfl rfl Try.ent62 rfl (meet1_den l[k].1 (normL b)[j])) ?_
     refine x_allocst hf rfl Try.z43 rfl Try.c43 rfl rfl rfl rfl (by simp [stC, spC, AV.cells, AV.leaf, Value.oneCell', splice, AV.kill, AV.clean, cleanL, AV.only]) ?_
     first | refine aops_end ?_ | refine aops_nil ?_
     refine hK15 _ ?_
     refine aw_seq_k (fun K16 hK16 => ?_)
     refine aw_region ?_
     first | refine x_pure rfl (p_loads rfl Try.g43 Try.c43 rfl rfl) ?_ | refine x_pure rfl (p_loadsr rfl Try.g43 Try.c43 rfl rfl rfl) ?_
     refine x_step hf rfl (r_call rfl rfl Try.ent61 rfl (none_den (meet1 l[k].1 (normL b)[j]))) ?_
     refine x_pure rfl (p_not rfl) ?_
     first | refine aops_end ?_ | refine aops_nil ?_
     refine hK16 _ ?_
     refine aw_cond_s rfl (fun hc3 => ?_) (fun hc3 => ?_)
     ·
      try simp only [bs] at hc3
      refine aw_region ?_
      refine x_pure rfl (p_move rfl) ?_
      first | refine x_pure rfl (p_loads rfl Try.g43 Try.c43 rfl rfl) ?_ | refine x_pure rfl (p_loadsr rfl Try.g43 Try.c43 rfl rfl rfl) ?_
      first | refine x_pure rfl (p_fld_adr rfl Try.fd57_1 Try.c3 rfl) ?_ | refine x_pure rfl (p_fld_ref rfl Try.fd57_1 Try.c3 rfl) ?_
      first | refine x_pure rfl (p_load1 rfl Try.g3 rfl) ?_ | refine x_pure rfl (p_load1r rfl Try.g3 rfl rfl) ?_ | refine x_pure rfl (p_load1r rfl Try.g3 rfl (strs_ref (by simp only [List.length_cons] at *; omega))) ?_ | refine x_pure rfl (p_load1r rfl Try.g3 rfl (strs_ref (by omega))) ?_
      first | refine x_pure rfl (p_fld_adr rfl Try.fd57_2 Try.c3 rfl) ?_ | refine x_pure rfl (p_fld_ref rfl Try.fd57_2 Try.c3 rfl) ?_
      first | refine x_pure rfl (p_load1 rfl Try.g3 rfl) ?_ | refine x_pure rfl (p_load1r rfl Try.g3 rfl rfl) ?_ | refine x_pure rfl (p_load1r rfl Try.g3 rfl (strs_ref (by simp only [List.length_cons] at *; omega))) ?_ | refine x_pure rfl (p_load1r rfl Try.g3 rfl (strs_ref (by omega))) ?_
      refine x_pure rfl (p_build rfl Try.z57 Try.pl57 (by simp [stC, spC, AV.cells, AV.one, Value.oneCell', splice, AV.kill, AV.clean, cleanL, AV.only]) rfl) ?_
      refine x_step hf rfl (r_buildSlice Try.ap61 rfl rfl rfl rfl (by simp [stC, spC, AV.cells, AV.leaf, Value.oneCell', splice, AV.kill, AV.clean, cleanL, AV.only])) ?_
      refine x_append hf rfl Try.ap61 rfl rfl rfl (.inl rfl) (by rw [List.length_map]) rfl (by first | rfl | simp [asrc, look]) (by first | (simp only [maxLen, List.length_map, List.length_append, List.length_cons, List.length_nil]; omega) | (simp [maxLen] <;> omega)) (by first | (simp only [List.length_map, List.length_append, List.length_cons, List.length_nil]; omega) | (simp <;> omega)) ?_
      refine aops_le (le_of (sl' := [(1, _), (7, _), (13, _), (14, _), (15, _), (19, _), (20, _), (21, _), (40, _)]) ⟨rfl, rfl, rfl, rfl, rfl, rfl, rfl, rfl, rfl, trivial⟩) ?_
      refine x_pure rfl (p_assign rfl) ?_
      first | refine aops_end ?_ | refine aops_nil ?_
      refine hK13 _ ?_
      refine aw_region ?_
      first | refine x_pure rfl (p_add rfl rfl (by omega) (by omega)) ?_ | refine x_pure rfl (p_bin rfl rfl rfl) ?_
      refine x_pure rfl (p_move rfl) ?_
      first | refine aops_end ?_ | refine aops_nil ?_
      first
      | exact ⟨(j + 1, o ++ [(meet1 l[k].1 (normL b)[j], l[k].2)]), ⟨by omega, by rw [h5, take_flatM _ _ j (by omega), meetS_f (by omega), List.append_assoc], by rw [List.length_append]; simp only [List.length_cons, List.length_nil]; omega⟩, by simp only; omega, le_to ⟨rfl, (by rw [List.length_append]; rfl), rfl, rfl, rfl, rfl, rfl, rfl, rfl, trivial⟩ (by rw [List.map_append]; rfl)⟩
      | exact ⟨(j + 1, o), ⟨by omega, by rw [h5, take_flatM _ _ j (by omega), meetS_t (by omega), List.append_nil], by omega⟩, by simp only; omega, le_to ⟨rfl, rfl, rfl, rfl, rfl, rfl, rfl, rfl, rfl, trivial⟩ rfl⟩
     ·
      try simp only [bs] at hc3
      refine aw_skip ?_
      refine hK13 _ ?_
      refine aw_region ?_
      first | refine x_pure rfl (p_add rfl rfl (by omega) (by omega)) ?_ | refine x_pure rfl (p_bin rfl rfl rfl) ?_
      refine x_pure rfl (p_move rfl) ?_
      first | refine aops_end ?_ | refine aops_nil ?_
      first
      | exact ⟨(j + 1, o ++ [(meet1 l[k].1 (normL b)[j], l[k].2)]), ⟨by omega, by rw [h5, take_flatM _ _ j (by omega), meetS_f (by omega), List.append_assoc], by rw [List.length_append]; simp only [List.length_cons, List.length_nil]; omega⟩, by simp only; omega, le_to ⟨rfl, (by rw [List.length_append]; rfl), rfl, rfl, rfl, rfl, rfl, rfl, rfl, trivial⟩ (by rw [List.map_append]; rfl)⟩
      | exact ⟨(j + 1, o), ⟨by omega, by rw [h5, take_flatM _ _ j (by omega), meetS_t (by omega), List.append_nil], by omega⟩, by simp only; omega, le_to ⟨rfl, rfl, rfl, rfl, rfl, rfl, rfl, rfl, rfl, trivial⟩ rfl⟩
    ·
     try simp only [bs] at hc2
     refine aw_exit ?_
     refine hK8 _ ?_
     refine aw_region ?_
     first | refine x_pure rfl (p_add rfl rfl (by omega) (by omega)) ?_ | refine x_pure rfl (p_bin rfl rfl rfl) ?_
     refine x_pure rfl (p_move rfl) ?_
     first | refine aops_end ?_ | refine aops_nil ?_
     exact ⟨(k + 1, o), ⟨by omega, by rw [h5, cut_next (by omega), h2, List.take_of_length_le (show (normL b).length ≤ j by omega)], by rw [Nat.add_mul, Nat.one_mul]; omega⟩, by simp only; omega, le_to ⟨rfl, rfl, rfl, rfl, rfl, trivial⟩ rfl⟩
  ·
   try simp only [bs] at hc1
   refine aw_exit ?_
   refine hK4 _ ?_
   refine aw_seq_k (fun K17 hK17 => ?_)
   refine aw_region ?_
   have hk : k = l.length := by omega
   have hm := Nat.mul_le_mul_right (normL b).length (show k ≤ l.length by omega)
   refine x_pure rfl (p_move rfl) ?_
   refine y_callM hf 5 rfl rfl rfl rfl rfl Try.ent80 (st_sortStable_den Try.ent36 cmpS_tri (fun x y => cmpS_den x y) out _ rfl (by omega)) ?_
   rintro r zs ⟨t, ht1, ht2, rfl⟩
   first | refine aops_end ?_ | refine aops_nil ?_
   refine hK17 _ ?_
   refine aw_seq_k (fun K18 hK18 => ?_)
   refine aw_region ?_
   refine x_pure rfl (p_move rfl) ?_
   refine x_pure rfl (p_assign rfl) ?_
   first | refine aops_end ?_ | refine aops_nil ?_
   refine hK18 _ ?_
   refine aw_ret ?_
   refine ⟨_, rfl, ?_⟩
   refine (conv_whole (g := 5) rfl (by rw [List.length_map, ht1.length_eq])).trans ?_
   rw [sortS_of ht1 ht2, h2, List.take_of_length_le (by omega)]; rfl
end Go.Proofs.Ytkjniggdldpnoaa
