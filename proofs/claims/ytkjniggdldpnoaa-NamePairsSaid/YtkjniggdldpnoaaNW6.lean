import Derived.Test.YtkjniggdldpnoaaNW5
import Derived.Test.YtkjniggdldpnoaaQ4
import Derived.Test.YtkjniggdldpnoaaQ5
set_option linter.unusedVariables false
set_option linter.unusedSimpArgs false
namespace Go.Proofs.Ytkjniggdldpnoaa.Nm
open Go Go.Abs

set_option maxRecDepth 20000 in
set_option maxHeartbeats 4000000 in
theorem alive_den   : Den Try.prog 15 []  (· = .s (.bool true)) := by
  refine den_of_aw Try.func15 rfl (Nat.le_of_ble_eq_true rfl) (fun w0 A hf => ?_)
  refine aw_seq_k (fun K1 hK1 => ?_)
  refine aw_region ?_
  refine x_pure rfl (p_assign_bad) ?_
  first | refine aops_end ?_ | refine aops_nil ?_
  refine hK1 _ ?_
  refine aw_seq_k (fun K2 hK2 => ?_)
  refine aw_region ?_
  refine x_step hf rfl (r_buildSlice Try.ap89 rfl rfl rfl rfl (by simp [AV.cells, AV.leaf, Value.oneCell', splice, AV.kill, AV.clean, cleanL, AV.only])) ?_
  refine x_step hf rfl (r_call rfl rfl Try.ent55 rfl ((sorted_den [_, _, _] (by decide)).mono (fun r h => h.trans (show _ = AV.sl 1 (strs [⟨#[97]⟩, ⟨#[98]⟩]) from by rw [show sortedL _ = [⟨#[97]⟩, ⟨#[98]⟩] from by decide])))) ?_
  refine x_pure rfl (p_assign rfl) ?_
  first | refine aops_end ?_ | refine aops_nil ?_
  refine hK2 _ ?_
  refine aw_seq_k (fun K3 hK3 => ?_)
  refine aw_region ?_
  refine x_step hf rfl (r_buildSlice Try.ap89 rfl rfl rfl rfl (by simp [AV.cells, AV.leaf, Value.oneCell', splice, AV.kill, AV.clean, cleanL, AV.only])) ?_
  refine x_step hf rfl (r_call rfl rfl Try.ent56 rfl (least_den _ [_] (by decide))) ?_
  refine x_pure rfl (p_move rfl) ?_
  refine x_pure rfl (p_extract rfl rfl) ?_
  refine x_pure rfl (p_extract rfl rfl) ?_
  refine x_pure rfl (p_assign rfl) ?_
  refine x_pure rfl (p_assign rfl) ?_
  first | refine aops_end ?_ | refine aops_nil ?_
  refine hK3 _ ?_
  refine aw_seq_k (fun K4 hK4 => ?_)
  refine aw_region ?_
  refine x_step hf rfl (r_call rfl rfl Try.ent56 rfl (den_nil1 leastNil_den)) ?_
  refine x_pure rfl (p_move rfl) ?_
  refine x_pure rfl (p_extract rfl rfl) ?_
  refine x_pure rfl (p_extract rfl rfl) ?_
  refine x_pure rfl (p_assign_bad) ?_
  refine x_pure rfl (p_assign rfl) ?_
  first | refine aops_end ?_ | refine aops_nil ?_
  refine hK4 _ ?_
  refine aw_seq_k (fun K5 hK5 => ?_)
  refine aw_region ?_
  refine x_pure rfl (p_build rfl Try.z24 Try.pl24 (by simp [AV.cells, AV.one, Value.oneCell', splice, AV.kill, AV.clean, cleanL, AV.only]) rfl) ?_
  refine x_allocst hf rfl Try.z24 rfl Try.c24 rfl rfl rfl rfl (by simp [AV.cells, AV.leaf, Value.oneCell', splice, AV.kill, AV.clean, cleanL, AV.only]) ?_
  first | refine aops_end ?_ | refine aops_nil ?_
  refine hK5 _ ?_
  refine aw_seq_k (fun K6 hK6 => ?_)
  refine aw_region ?_
  refine x_pure rfl (p_move rfl) ?_
  first | refine x_pure rfl (p_len_sl rfl Try.e89) ?_ | refine x_pure rfl (p_len_own rfl Try.e89) ?_ | refine x_pure rfl (p_len_nil rfl Try.e89) ?_
  refine x_pure rfl (p_bin rfl rfl rfl) ?_
  refine x_pure rfl (p_move rfl) ?_
  refine x_guard_t rfl rfl rfl ?_
  refine x_pure rfl (p_move rfl) ?_
  refine x_guard_t rfl rfl rfl ?_
  first | refine x_pure rfl (p_idx_sl rfl rfl Try.e89 Try.c9 (by first | assumption | (refine ⟨by omega, ?_⟩; first | assumption | exact strs_at (by omega) | exact strs_at (by simp only [List.length_cons] at *; omega) | exact ints_at (by omega) | exact map_at (by omega) | exact list_at (by omega)) | exact ⟨by decide, rfl⟩)) ?_ | refine x_pure rfl (p_idx_own rfl rfl Try.e89 Try.c9 (by omega)) ?_
  refine x_guard_t rfl rfl rfl ?_
  first | refine x_pure rfl (p_load1 rfl Try.g9 rfl) ?_ | refine x_pure rfl (p_load1r rfl Try.g9 rfl rfl) ?_ | refine x_pure rfl (p_load1r rfl Try.g9 rfl (strs_ref (by simp only [List.length_cons] at *; omega))) ?_ | refine x_pure rfl (p_load1r rfl Try.g9 rfl (strs_ref (by omega))) ?_
  refine x_guard_t rfl rfl rfl ?_
  refine x_pure rfl (p_bin rfl rfl (streq_t _)) ?_
  refine x_pure rfl (p_pick_t rfl rfl) ?_
  refine x_pure rfl (p_move rfl) ?_
  refine x_guard_t rfl rfl rfl ?_
  refine x_pure rfl (p_move rfl) ?_
  refine x_guard_t rfl rfl rfl ?_
  refine x_pure rfl (p_bin rfl rfl (streq_t _)) ?_
  refine x_pure rfl (p_pick_t rfl rfl) ?_
  refine x_pure rfl (p_move rfl) ?_
  refine x_guard_t rfl rfl rfl ?_
  refine x_pure rfl (p_move rfl) ?_
  refine x_pure rfl (p_pick_t rfl rfl) ?_
  refine x_pure rfl (p_move rfl) ?_
  refine x_guard_t rfl rfl rfl ?_
  refine x_pure rfl (p_move rfl) ?_
  refine x_guard_t rfl rfl rfl ?_
  refine x_pure rfl (p_not rfl) ?_
  refine x_pure rfl (p_pick_t rfl rfl) ?_
  refine x_pure rfl (p_move rfl) ?_
  refine x_guard_t rfl rfl rfl ?_
  refine x_step hf rfl (r_call rfl rfl Try.ent57 rfl (right_den _ (by decide))) ?_
  refine x_pure rfl (p_pick_t rfl rfl) ?_
  refine x_pure rfl (p_move rfl) ?_
  refine x_guard_t rfl rfl rfl ?_
  refine x_step hf rfl (r_call rfl rfl Try.ent57 rfl (right_den _ (by decide))) ?_
  refine x_guard_t rfl rfl rfl ?_
  refine x_pure rfl (p_not rfl) ?_
  refine x_pure rfl (p_pick_t rfl rfl) ?_
  refine x_pure rfl (p_move rfl) ?_
  refine x_guard_t rfl rfl rfl ?_
  refine x_step hf rfl (r_call rfl rfl Try.ent57 rfl (right_den _ (by decide))) ?_
  refine x_guard_t rfl rfl rfl ?_
  refine x_pure rfl (p_not rfl) ?_
  refine x_pure rfl (p_pick_t rfl rfl) ?_
  refine x_pure rfl (p_move rfl) ?_
  refine x_guard_t rfl rfl rfl ?_
  refine x_step hf rfl (r_call rfl rfl Try.ent58 rfl (den_nil1 (all_den [] (by decide)))) ?_
  refine x_pure rfl (p_pick_t rfl rfl) ?_
  refine x_pure rfl (p_move rfl) ?_
  refine x_guard_t rfl rfl rfl ?_
  refine x_step hf rfl (r_buildSlice Try.ap89 rfl rfl rfl rfl (by simp [AV.cells, AV.leaf, Value.oneCell', splice, AV.kill, AV.clean, cleanL, AV.only])) ?_
  refine x_guard_t rfl rfl rfl ?_
  refine x_step hf rfl (r_call rfl rfl Try.ent58 rfl (all_den [_, _] (by decide))) ?_
  refine x_guard_t rfl rfl rfl ?_
  refine x_pure rfl (p_not rfl) ?_
  refine x_pure rfl (p_pick_t rfl rfl) ?_
  refine x_pure rfl (p_move rfl) ?_
  refine x_guard_t rfl rfl rfl ?_
  refine x_step hf rfl (r_call rfl rfl Try.ent59 rfl (cmp_den _ _)) ?_
  refine x_guard_t rfl rfl rfl ?_
  refine x_pure rfl (p_bin rfl rfl rfl) ?_
  refine x_pure rfl (p_pick_t rfl rfl) ?_
  refine x_pure rfl (p_move rfl) ?_
  refine x_guard_t rfl rfl rfl ?_
  first | refine x_pure rfl (p_loads rfl Try.g24 Try.c24 rfl rfl) ?_ | refine x_pure rfl (p_loadsr rfl Try.g24 Try.c24 rfl rfl rfl) ?_
  refine x_guard_t rfl rfl rfl ?_
  refine x_step hf rfl (r_call rfl rfl Try.ent16 rfl (pairRight_den _ _ (by decide) (by decide))) ?_
  refine x_pure rfl (p_pick_t rfl rfl) ?_
  refine x_pure rfl (p_move rfl) ?_
  refine x_guard_t rfl rfl rfl ?_
  first | refine x_pure rfl (p_loads rfl Try.g24 Try.c24 rfl rfl) ?_ | refine x_pure rfl (p_loadsr rfl Try.g24 Try.c24 rfl rfl rfl) ?_
  refine x_guard_t rfl rfl rfl ?_
  refine x_step hf rfl (r_call rfl rfl Try.ent19 rfl (pairHas_den _ _ _)) ?_
  refine x_pure rfl (p_pick_t rfl rfl) ?_
  refine x_pure rfl (p_move rfl) ?_
  refine x_guard_t rfl rfl rfl ?_
  first | refine x_pure rfl (p_loads rfl Try.g24 Try.c24 rfl rfl) ?_ | refine x_pure rfl (p_loadsr rfl Try.g24 Try.c24 rfl rfl rfl) ?_
  refine x_guard_t rfl rfl rfl ?_
  refine x_pure rfl (p_build rfl Try.z24 Try.pl24 (by simp [AV.cells, AV.one, Value.oneCell', splice, AV.kill, AV.clean, cleanL, AV.only]) rfl) ?_
  refine x_guard_t rfl rfl rfl ?_
  refine x_step hf rfl (r_call rfl rfl Try.ent18 rfl (pairCmp_den _ _ _ _)) ?_
  refine x_guard_t rfl rfl rfl ?_
  refine x_pure rfl (p_bin rfl rfl rfl) ?_
  refine x_pure rfl (p_pick_t rfl rfl) ?_
  refine x_pure rfl (p_assign rfl) ?_
  first | refine aops_end ?_ | refine aops_nil ?_
  refine hK6 _ ?_
  refine aw_ret ?_
  refine ⟨_, rfl, ?_⟩
  rfl
end Go.Proofs.Ytkjniggdldpnoaa.Nm
