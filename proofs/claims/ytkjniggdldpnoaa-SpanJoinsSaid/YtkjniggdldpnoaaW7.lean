import Derived.Test.YtkjniggdldpnoaaW6
set_option linter.unusedVariables false
set_option linter.unusedSimpArgs false
namespace Go.Proofs.Ytkjniggdldpnoaa
open Go Go.Abs

set_option maxRecDepth 20000 in
set_option maxHeartbeats 4000000 in
theorem alive_den   : Den Try.prog 20 []  (· = .s (.bool true)) := by
  refine den_of_aw Try.func20 rfl (Nat.le_of_ble_eq_true rfl) (fun w0 A hf => ?_)
  refine aw_seq_k (fun K1 hK1 => ?_)
  refine aw_region ?_
  refine x_pure rfl (p_assign_bad) ?_
  first | refine aops_end ?_ | refine aops_nil ?_
  refine hK1 _ ?_
  refine aw_seq_k (fun K2 hK2 => ?_)
  refine aw_region ?_
  refine x_pure rfl (p_build rfl Try.z43 Try.pl43 (by simp [spC, AV.cells, AV.one, Value.oneCell', splice, AV.kill, AV.clean, cleanL, AV.only]) rfl) ?_
  refine x_pure rfl (p_build rfl Try.z43 Try.pl43 (by simp [spC, AV.cells, AV.one, Value.oneCell', splice, AV.kill, AV.clean, cleanL, AV.only]) rfl) ?_
  refine x_pure rfl (p_build rfl Try.z43 Try.pl43 (by simp [spC, AV.cells, AV.one, Value.oneCell', splice, AV.kill, AV.clean, cleanL, AV.only]) rfl) ?_
  refine x_step hf rfl (r_buildSlice Try.ap33 rfl rfl rfl rfl (by simp [spC, AV.cells, AV.leaf, Value.oneCell', splice, AV.kill, AV.clean, cleanL, AV.only])) ?_
  refine x_pure rfl (p_assign rfl) ?_
  first | refine aops_end ?_ | refine aops_nil ?_
  refine hK2 _ ?_
  refine aw_seq_k (fun K3 hK3 => ?_)
  refine aw_region ?_
  refine x_pure rfl (p_build rfl Try.z43 Try.pl43 (by simp [spC, AV.cells, AV.one, Value.oneCell', splice, AV.kill, AV.clean, cleanL, AV.only]) rfl) ?_
  refine x_step hf rfl (r_buildSlice Try.ap33 rfl rfl rfl rfl (by simp [spC, AV.cells, AV.leaf, Value.oneCell', splice, AV.kill, AV.clean, cleanL, AV.only])) ?_
  refine x_pure rfl (p_assign rfl) ?_
  first | refine aops_end ?_ | refine aops_nil ?_
  refine hK3 _ ?_
  refine aw_seq_k (fun K4 hK4 => ?_)
  refine aw_region ?_
  refine x_pure rfl (p_build rfl Try.z43 Try.pl43 (by simp [spC, AV.cells, AV.one, Value.oneCell', splice, AV.kill, AV.clean, cleanL, AV.only]) rfl) ?_
  refine x_step hf rfl (r_buildSlice Try.ap33 rfl rfl rfl rfl (by simp [spC, AV.cells, AV.leaf, Value.oneCell', splice, AV.kill, AV.clean, cleanL, AV.only])) ?_
  refine x_pure rfl (p_assign rfl) ?_
  first | refine aops_end ?_ | refine aops_nil ?_
  refine hK4 _ ?_
  refine aw_seq_k (fun K5 hK5 => ?_)
  refine aw_region ?_
  refine x_pure rfl (p_move rfl) ?_
  refine x_pure rfl (p_move rfl) ?_
  refine x_step hf rfl (r_call rfl rfl Try.ent32 rfl ((less_den [(3, 5), (1, 3), (4, 4)] [(2, 3)] (by decide)).mono (fun r h => h.trans (congrArg (fun z => AV.sl 2 (List.map spC z)) (show lessL [(3, 5), (1, 3), (4, 4)] [(2, 3)] = [(1, 2), (3, 5)] from by decide))))) ?_
  refine x_pure rfl (p_assign rfl) ?_
  first | refine aops_end ?_ | refine aops_nil ?_
  refine hK5 _ ?_
  refine aw_seq_k (fun K6 hK6 => ?_)
  refine aw_draw hf Try.mixed (by kernel_rfl) rfl ?_
  refine d_pure [(1, _)] rfl rfl ⟨⟨rfl, rfl⟩, trivial⟩ rfl (p_move rfl) ?_
  refine d_rstep [(16, _)] rfl rfl ⟨⟨rfl, rfl⟩, trivial⟩ rfl (r_call rfl rfl Try.ent30 rfl ((norm_den [(3, 5), (1, 3), (4, 4)] (by decide)).mono (fun r h => h.trans (congrArg (fun z => AV.sl 2 (List.map spC z)) (show normL [(3, 5), (1, 3), (4, 4)] = [(1, 5)] from by decide))))) ?_
  refine d_pure [(2, _)] rfl rfl ⟨⟨rfl, rfl⟩, trivial⟩ rfl (p_move rfl) ?_
  refine d_rstep [(17, _), (18, _)] rfl rfl ⟨⟨rfl, rfl⟩, ⟨rfl, rfl⟩, trivial⟩ rfl (r_call rfl rfl Try.ent26 rfl (same7_den [(1, 5)] [(1, 5)] (by decide) (by decide))) ?_
  refine d_pure [(19, _)] rfl rfl ⟨⟨rfl, rfl⟩, trivial⟩ rfl (p_move rfl) ?_
  refine d_pure [(1, _)] rfl rfl ⟨⟨rfl, rfl⟩, trivial⟩ rfl (p_move rfl) ?_
  refine d_pure [(3, _)] rfl rfl ⟨⟨rfl, rfl⟩, trivial⟩ rfl (p_move rfl) ?_
  refine d_rstep [(21, _), (22, _)] rfl rfl ⟨⟨rfl, rfl⟩, ⟨rfl, rfl⟩, trivial⟩ rfl (r_buildSlice Try.ap32 rfl rfl rfl rfl (by simp [spC, AV.cells, AV.leaf, Value.oneCell', splice, AV.kill, AV.clean, cleanL, AV.only])) ?_
  refine d_rstep [(23, _)] rfl rfl ⟨⟨rfl, rfl⟩, trivial⟩ rfl (r_call rfl rfl Try.ent24 rfl ((join_den [[(3, 5), (1, 3), (4, 4)], [(2, 3)]] (by decide) (by decide)).mono (fun r h => h.trans (congrArg (fun z => AV.sl 2 (List.map spC z)) (show normL (List.flatten [[(3, 5), (1, 3), (4, 4)], [(2, 3)]]) = [(1, 5)] from by decide))))) ?_
  refine d_pure [(2, _)] rfl rfl ⟨⟨rfl, rfl⟩, trivial⟩ rfl (p_move rfl) ?_
  refine d_rstep [(24, _), (25, _)] rfl rfl ⟨⟨rfl, rfl⟩, ⟨rfl, rfl⟩, trivial⟩ rfl (r_call rfl rfl Try.ent26 rfl (same7_den [(1, 5)] [(1, 5)] (by decide) (by decide))) ?_
  refine d_pure [(20, _), (26, _)] rfl rfl ⟨⟨rfl, rfl⟩, ⟨rfl, rfl⟩, trivial⟩ rfl (p_pick_t rfl rfl) ?_
  refine d_pure [(27, _)] rfl rfl ⟨⟨rfl, rfl⟩, trivial⟩ rfl (p_move rfl) ?_
  refine d_pure [(1, _)] rfl rfl ⟨⟨rfl, rfl⟩, trivial⟩ rfl (p_move rfl) ?_
  refine d_pure [(3, _)] rfl rfl ⟨⟨rfl, rfl⟩, trivial⟩ rfl (p_move rfl) ?_
  refine d_rstep [(29, _), (30, _)] rfl rfl ⟨⟨rfl, rfl⟩, ⟨rfl, rfl⟩, trivial⟩ rfl (r_call rfl rfl Try.ent31 rfl ((meet_den [(3, 5), (1, 3), (4, 4)] [(2, 3)] (by decide) (by decide) (by decide)).mono (fun r h => h.trans (congrArg (fun z => AV.sl 2 (List.map spC z)) (show meetL [(3, 5), (1, 3), (4, 4)] [(2, 3)] = [(2, 3)] from by decide))))) ?_
  refine d_pure [(3, _)] rfl rfl ⟨⟨rfl, rfl⟩, trivial⟩ rfl (p_move rfl) ?_
  refine d_rstep [(31, _), (32, _)] rfl rfl ⟨⟨rfl, rfl⟩, ⟨rfl, rfl⟩, trivial⟩ rfl (r_call rfl rfl Try.ent26 rfl (same7_den [(2, 3)] [(2, 3)] (by decide) (by decide))) ?_
  refine d_pure [(28, _), (33, _)] rfl rfl ⟨⟨rfl, rfl⟩, ⟨rfl, rfl⟩, trivial⟩ rfl (p_pick_t rfl rfl) ?_
  refine d_pure [(34, _)] rfl rfl ⟨⟨rfl, rfl⟩, trivial⟩ rfl (p_move rfl) ?_
  refine d_pure [(4, _)] rfl rfl ⟨⟨rfl, rfl⟩, trivial⟩ rfl (p_move rfl) ?_
  first | refine d_pure [(36, _)] rfl rfl ⟨⟨rfl, rfl⟩, trivial⟩ rfl (p_len_sl rfl Try.e33) ?_ | refine d_pure [(36, _)] rfl rfl ⟨⟨rfl, rfl⟩, trivial⟩ rfl (p_len_own rfl Try.e33) ?_ | refine d_pure [(36, _)] rfl rfl ⟨⟨rfl, rfl⟩, trivial⟩ rfl (p_len_nil rfl Try.e33) ?_
  refine d_pure [(37, _)] rfl rfl ⟨⟨rfl, rfl⟩, trivial⟩ rfl (p_bin rfl rfl rfl) ?_
  refine d_pure [(35, _), (38, _)] rfl rfl ⟨⟨rfl, rfl⟩, ⟨rfl, rfl⟩, trivial⟩ rfl (p_pick_t rfl rfl) ?_
  refine d_pure [(39, _)] rfl rfl ⟨⟨rfl, rfl⟩, trivial⟩ rfl (p_move rfl) ?_
  refine d_pure [(4, _)] rfl rfl ⟨⟨rfl, rfl⟩, trivial⟩ rfl (p_move rfl) ?_
  first | refine d_pure [(41, _)] rfl rfl ⟨⟨rfl, rfl⟩, trivial⟩ rfl (p_idx_sl rfl rfl Try.e33 Try.c43 (by first | assumption | (refine ⟨by omega, ?_⟩; first | assumption | exact strs_at (by omega) | exact strs_at (by simp only [List.length_cons] at *; omega) | exact ints_at (by omega) | exact map_at (by omega) | exact list_at (by omega)) | exact ⟨by decide, rfl⟩)) ?_ | refine d_pure [(41, _)] rfl rfl ⟨⟨rfl, rfl⟩, trivial⟩ rfl (p_idx_own rfl rfl Try.e33 Try.c43 (by omega)) ?_
  first | refine d_pure [(42, _)] rfl rfl ⟨⟨rfl, rfl⟩, trivial⟩ rfl (p_loads rfl Try.g43 Try.c43 rfl rfl) ?_ | refine d_pure [(42, _)] rfl rfl ⟨⟨rfl, rfl⟩, trivial⟩ rfl (p_loadsr rfl Try.g43 Try.c43 rfl rfl rfl) ?_
  refine d_pure [] rfl rfl trivial rfl (p_build rfl Try.z43 Try.pl43 (by simp [spC, AV.cells, AV.one, Value.oneCell', splice, AV.kill, AV.clean, cleanL, AV.only]) rfl) ?_
  refine d_pure [(43, _), (44, _)] rfl rfl ⟨⟨rfl, rfl⟩, ⟨rfl, rfl⟩, trivial⟩ rfl (p_eqagg rfl rfl Try.q43 rfl) ?_
  refine d_pure [(40, _), (45, _)] rfl rfl ⟨⟨rfl, rfl⟩, ⟨rfl, rfl⟩, trivial⟩ rfl (p_pick_t rfl rfl) ?_
  refine d_pure [(46, _)] rfl rfl ⟨⟨rfl, rfl⟩, trivial⟩ rfl (p_move rfl) ?_
  refine d_pure [(1, _)] rfl rfl ⟨⟨rfl, rfl⟩, trivial⟩ rfl (p_move rfl) ?_
  refine d_rstep [(48, _)] rfl rfl ⟨⟨rfl, rfl⟩, trivial⟩ rfl (r_call rfl rfl Try.ent53 rfl (hasAny_den [(3, 5), (1, 3), (4, 4)] 1 (by decide))) ?_
  refine d_pure [(47, _), (49, _)] rfl rfl ⟨⟨rfl, rfl⟩, ⟨rfl, rfl⟩, trivial⟩ rfl (p_pick_t rfl rfl) ?_
  refine d_pure [(50, _)] rfl rfl ⟨⟨rfl, rfl⟩, trivial⟩ rfl (p_move rfl) ?_
  refine d_pure [(1, _)] rfl rfl ⟨⟨rfl, rfl⟩, trivial⟩ rfl (p_move rfl) ?_
  refine d_rstep [(52, _)] rfl rfl ⟨⟨rfl, rfl⟩, trivial⟩ rfl (r_call rfl rfl Try.ent53 rfl (hasAny_den [(3, 5), (1, 3), (4, 4)] 5 (by decide))) ?_
  refine d_pure [(53, _)] rfl rfl ⟨⟨rfl, rfl⟩, trivial⟩ rfl (p_not rfl) ?_
  refine d_pure [(51, _), (54, _)] rfl rfl ⟨⟨rfl, rfl⟩, ⟨rfl, rfl⟩, trivial⟩ rfl (p_pick_t rfl rfl) ?_
  refine d_pure [(55, _)] rfl rfl ⟨⟨rfl, rfl⟩, trivial⟩ rfl (p_move rfl) ?_
  refine d_pure [(1, _)] rfl rfl ⟨⟨rfl, rfl⟩, trivial⟩ rfl (p_move rfl) ?_
  first | refine d_pure [(57, _)] rfl rfl ⟨⟨rfl, rfl⟩, trivial⟩ rfl (p_idx_sl rfl rfl Try.e33 Try.c43 (by first | assumption | (refine ⟨by omega, ?_⟩; first | assumption | exact strs_at (by omega) | exact strs_at (by simp only [List.length_cons] at *; omega) | exact ints_at (by omega) | exact map_at (by omega) | exact list_at (by omega)) | exact ⟨by decide, rfl⟩)) ?_ | refine d_pure [(57, _)] rfl rfl ⟨⟨rfl, rfl⟩, trivial⟩ rfl (p_idx_own rfl rfl Try.e33 Try.c43 (by omega)) ?_
  first | refine d_pure [(58, _)] rfl rfl ⟨⟨rfl, rfl⟩, trivial⟩ rfl (p_loads rfl Try.g43 Try.c43 rfl rfl) ?_ | refine d_pure [(58, _)] rfl rfl ⟨⟨rfl, rfl⟩, trivial⟩ rfl (p_loadsr rfl Try.g43 Try.c43 rfl rfl rfl) ?_
  refine d_rstep [(59, _)] rfl rfl ⟨⟨rfl, rfl⟩, trivial⟩ rfl (r_call rfl rfl Try.ent61 rfl (none_den (4, 4))) ?_
  refine d_pure [(56, _), (60, _)] rfl rfl ⟨⟨rfl, rfl⟩, ⟨rfl, rfl⟩, trivial⟩ rfl (p_pick_t rfl rfl) ?_
  refine d_pure [(61, _)] rfl rfl ⟨⟨rfl, rfl⟩, trivial⟩ rfl (p_move rfl) ?_
  refine d_pure [(1, _)] rfl rfl ⟨⟨rfl, rfl⟩, trivial⟩ rfl (p_move rfl) ?_
  first | refine d_pure [(63, _)] rfl rfl ⟨⟨rfl, rfl⟩, trivial⟩ rfl (p_idx_sl rfl rfl Try.e33 Try.c43 (by first | assumption | (refine ⟨by omega, ?_⟩; first | assumption | exact strs_at (by omega) | exact strs_at (by simp only [List.length_cons] at *; omega) | exact ints_at (by omega) | exact map_at (by omega) | exact list_at (by omega)) | exact ⟨by decide, rfl⟩)) ?_ | refine d_pure [(63, _)] rfl rfl ⟨⟨rfl, rfl⟩, trivial⟩ rfl (p_idx_own rfl rfl Try.e33 Try.c43 (by omega)) ?_
  first | refine d_pure [(64, _)] rfl rfl ⟨⟨rfl, rfl⟩, trivial⟩ rfl (p_loads rfl Try.g43 Try.c43 rfl rfl) ?_ | refine d_pure [(64, _)] rfl rfl ⟨⟨rfl, rfl⟩, trivial⟩ rfl (p_loadsr rfl Try.g43 Try.c43 rfl rfl rfl) ?_
  refine d_rstep [(65, _)] rfl rfl ⟨⟨rfl, rfl⟩, trivial⟩ rfl (r_call rfl rfl Try.ent52 rfl (has_den (3, 5) 4)) ?_
  refine d_pure [(62, _), (66, _)] rfl rfl ⟨⟨rfl, rfl⟩, ⟨rfl, rfl⟩, trivial⟩ rfl (p_pick_t rfl rfl) ?_
  refine d_pure [(67, _)] rfl rfl ⟨⟨rfl, rfl⟩, trivial⟩ rfl (p_move rfl) ?_
  refine d_pure [(1, _)] rfl rfl ⟨⟨rfl, rfl⟩, trivial⟩ rfl (p_move rfl) ?_
  first | refine d_pure [(69, _)] rfl rfl ⟨⟨rfl, rfl⟩, trivial⟩ rfl (p_idx_sl rfl rfl Try.e33 Try.c43 (by first | assumption | (refine ⟨by omega, ?_⟩; first | assumption | exact strs_at (by omega) | exact strs_at (by simp only [List.length_cons] at *; omega) | exact ints_at (by omega) | exact map_at (by omega) | exact list_at (by omega)) | exact ⟨by decide, rfl⟩)) ?_ | refine d_pure [(69, _)] rfl rfl ⟨⟨rfl, rfl⟩, trivial⟩ rfl (p_idx_own rfl rfl Try.e33 Try.c43 (by omega)) ?_
  first | refine d_pure [(70, _)] rfl rfl ⟨⟨rfl, rfl⟩, trivial⟩ rfl (p_loads rfl Try.g43 Try.c43 rfl rfl) ?_ | refine d_pure [(70, _)] rfl rfl ⟨⟨rfl, rfl⟩, trivial⟩ rfl (p_loadsr rfl Try.g43 Try.c43 rfl rfl rfl) ?_
  refine d_pure [(1, _)] rfl rfl ⟨⟨rfl, rfl⟩, trivial⟩ rfl (p_move rfl) ?_
  first | refine d_pure [(72, _)] rfl rfl ⟨⟨rfl, rfl⟩, trivial⟩ rfl (p_idx_sl rfl rfl Try.e33 Try.c43 (by first | assumption | (refine ⟨by omega, ?_⟩; first | assumption | exact strs_at (by omega) | exact strs_at (by simp only [List.length_cons] at *; omega) | exact ints_at (by omega) | exact map_at (by omega) | exact list_at (by omega)) | exact ⟨by decide, rfl⟩)) ?_ | refine d_pure [(72, _)] rfl rfl ⟨⟨rfl, rfl⟩, trivial⟩ rfl (p_idx_own rfl rfl Try.e33 Try.c43 (by omega)) ?_
  first | refine d_pure [(73, _)] rfl rfl ⟨⟨rfl, rfl⟩, trivial⟩ rfl (p_loads rfl Try.g43 Try.c43 rfl rfl) ?_ | refine d_pure [(73, _)] rfl rfl ⟨⟨rfl, rfl⟩, trivial⟩ rfl (p_loadsr rfl Try.g43 Try.c43 rfl rfl rfl) ?_
  refine d_rstep [(71, _), (74, _)] rfl rfl ⟨⟨rfl, rfl⟩, ⟨rfl, rfl⟩, trivial⟩ rfl (r_call rfl rfl Try.ent62 rfl (meet1_den (3, 5) (1, 3))) ?_
  refine d_pure [] rfl rfl trivial rfl (p_build rfl Try.z43 Try.pl43 (by simp [spC, AV.cells, AV.one, Value.oneCell', splice, AV.kill, AV.clean, cleanL, AV.only]) rfl) ?_
  refine d_pure [(75, _), (76, _)] rfl rfl ⟨⟨rfl, rfl⟩, ⟨rfl, rfl⟩, trivial⟩ rfl (p_eqagg rfl rfl Try.q43 rfl) ?_
  refine d_pure [(68, _), (77, _)] rfl rfl ⟨⟨rfl, rfl⟩, ⟨rfl, rfl⟩, trivial⟩ rfl (p_pick_t rfl rfl) ?_
  refine d_pure [(78, _)] rfl rfl ⟨⟨rfl, rfl⟩, trivial⟩ rfl (p_move rfl) ?_
  refine d_pure [(1, _)] rfl rfl ⟨⟨rfl, rfl⟩, trivial⟩ rfl (p_move rfl) ?_
  refine d_pure [(2, _)] rfl rfl ⟨⟨rfl, rfl⟩, trivial⟩ rfl (p_move rfl) ?_
  refine d_rstep [(80, _), (81, _)] rfl rfl ⟨⟨rfl, rfl⟩, ⟨rfl, rfl⟩, trivial⟩ rfl (r_call rfl rfl Try.ent26 rfl (same7_den [(3, 5), (1, 3), (4, 4)] [(1, 5)] (by decide) (by decide))) ?_
  refine d_pure [(82, _)] rfl rfl ⟨⟨rfl, rfl⟩, trivial⟩ rfl (p_not rfl) ?_
  refine d_pure [(79, _), (83, _)] rfl rfl ⟨⟨rfl, rfl⟩, ⟨rfl, rfl⟩, trivial⟩ rfl (p_pick_t rfl rfl) ?_
  refine d_pure [(84, _)] rfl rfl ⟨⟨rfl, rfl⟩, trivial⟩ rfl (p_assign rfl) ?_
  refine lex_end (sl' := [(0, _)]) rfl ⟨rfl, trivial⟩ rfl ?_
  refine hK6 _ ?_
  refine aw_ret ?_
  refine ⟨_, rfl, ?_⟩
  rfl
end Go.Proofs.Ytkjniggdldpnoaa
