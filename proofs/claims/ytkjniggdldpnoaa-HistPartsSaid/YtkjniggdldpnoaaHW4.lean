import Derived.Test.YtkjniggdldpnoaaHW3
set_option linter.unusedVariables false
set_option linter.unusedSimpArgs false
namespace Go.Proofs.Ytkjniggdldpnoaa
open Go Go.Abs

set_option maxRecDepth 20000 in
set_option maxHeartbeats 16000000 in
theorem alive8_den   : Den Try.prog 33 []  (· = .s (.bool true)) := by
 refine den_of_aw Try.func33 rfl (Nat.le_of_ble_eq_true rfl) (fun w0 A hf => ?_)
 refine aw_seq_k (fun K1 hK1 => ?_)
 refine aw_region ?_
 refine x_pure rfl (p_assign_bad) ?_
 first | refine aops_end ?_ | refine aops_nil ?_
 refine hK1 _ ?_
 refine aw_seq_k (fun K2 hK2 => ?_)
 refine aw_region ?_
 refine x_step hf rfl (r_call rfl rfl Try.ent73 rfl (oneS_den _ _ _ _)) ?_
 refine x_step hf rfl (r_call rfl rfl Try.ent40 rfl ((show Den Try.prog _ _ (· = .sl 4 (List.map stC [((2, 9), (1, 1))])) from den_is (den_nilh (addS_den [] ((2, 9), (1, 1)) (by decide))) (congrArg (fun z => AV.sl 4 (List.map stC z)) (by decide))))) ?_
 refine x_step hf rfl (r_call rfl rfl Try.ent73 rfl (oneS_den _ _ _ _)) ?_
 refine x_step hf rfl (r_call rfl rfl Try.ent40 rfl ((show Den Try.prog _ _ (· = .sl 4 (List.map stC [((1, 3), (2, 1)), ((2, 9), (1, 1))])) from den_is (addS_den [((2, 9), (1, 1))] ((1, 3), (2, 1)) (by decide)) (congrArg (fun z => AV.sl 4 (List.map stC z)) (by decide))))) ?_
 refine x_pure rfl (p_assign rfl) ?_
 first | refine aops_end ?_ | refine aops_nil ?_
 refine hK2 _ ?_
 refine aw_seq_k (fun K3 hK3 => ?_)
 refine aw_region ?_
 refine x_pure rfl (p_move rfl) ?_
 refine x_pure rfl (p_build rfl Try.z43 Try.pl43 (by simp [stC, spC, AV.cells, AV.one, Value.oneCell', splice, AV.kill, AV.clean, cleanL, AV.only]) rfl) ?_
 refine x_pure rfl (p_build rfl Try.z43 Try.pl43 (by simp [stC, spC, AV.cells, AV.one, Value.oneCell', splice, AV.kill, AV.clean, cleanL, AV.only]) rfl) ?_
 refine x_step hf rfl (r_buildSlice Try.ap33 rfl rfl rfl rfl (by simp [stC, spC, AV.cells, AV.leaf, Value.oneCell', splice, AV.kill, AV.clean, cleanL, AV.only])) ?_
 refine x_step hf rfl (r_call rfl rfl Try.ent49 rfl ((show Den Try.prog _ _ (· = .sl 4 (List.map stC [((1, 3), (2, 1)), ((2, 3), (1, 1)), ((5, 6), (1, 1))])) from den_is (cutS_den [((1, 3), (2, 1)), ((2, 9), (1, 1))] [(0, 3), (5, 6)] (by decide) (by decide) (by decide)) (congrArg (fun z => AV.sl 4 (List.map stC z)) (by decide))))) ?_
 refine x_pure rfl (p_assign rfl) ?_
 first | refine aops_end ?_ | refine aops_nil ?_
 refine hK3 _ ?_
 refine aw_seq_k (fun K4 hK4 => ?_)
 refine aw_region ?_
 refine x_pure rfl (p_move rfl) ?_
 refine x_step hf rfl (r_call rfl rfl Try.ent44 rfl ((show Den Try.prog _ _ (· = .tup [.s (.int .i64 9), .s (.bool true)]) from (lastS_den [((1, 3), (2, 1)), ((2, 9), (1, 1))] (by decide))))) ?_
 refine x_pure rfl (p_move rfl) ?_
 refine x_pure rfl (p_extract rfl rfl) ?_
 refine x_pure rfl (p_extract rfl rfl) ?_
 refine x_pure rfl (p_assign rfl) ?_
 refine x_pure rfl (p_assign rfl) ?_
 first | refine aops_end ?_ | refine aops_nil ?_
 refine hK4 _ ?_
 refine aw_seq_k (fun K5 hK5 => ?_)
 refine aw_region ?_
 refine x_step hf rfl (r_call rfl rfl Try.ent44 rfl ((show Den Try.prog _ _ (· = .tup [.s (.int .i64 0), .s (.bool false)]) from (den_nil1 (lastS_den [] (by decide)))))) ?_
 refine x_pure rfl (p_move rfl) ?_
 refine x_pure rfl (p_extract rfl rfl) ?_
 refine x_pure rfl (p_extract rfl rfl) ?_
 refine x_pure rfl (p_assign_bad) ?_
 refine x_pure rfl (p_assign rfl) ?_
 first | refine aops_end ?_ | refine aops_nil ?_
 refine hK5 _ ?_
 refine aw_seq_k (fun K6 hK6 => ?_)
 refine aw_draw hf Try.mixed (by kernel_rfl) rfl ?_
 refine d_pure [(1, _)] rfl rfl ⟨⟨rfl, rfl⟩, trivial⟩ rfl (p_move rfl) ?_
 first | refine d_pure [(25, _)] rfl rfl ⟨⟨rfl, rfl⟩, trivial⟩ rfl (p_len_sl rfl Try.e61) ?_ | refine d_pure [(25, _)] rfl rfl ⟨⟨rfl, rfl⟩, trivial⟩ rfl (p_len_own rfl Try.e61) ?_ | refine d_pure [(25, _)] rfl rfl ⟨⟨rfl, rfl⟩, trivial⟩ rfl (p_len_nil rfl Try.e61) ?_
 refine d_pure [(26, _)] rfl rfl ⟨⟨rfl, rfl⟩, trivial⟩ rfl (p_bin rfl rfl rfl) ?_
 refine d_pure [(27, _)] rfl rfl ⟨⟨rfl, rfl⟩, trivial⟩ rfl (p_move rfl) ?_
 refine d_pure [(1, _)] rfl rfl ⟨⟨rfl, rfl⟩, trivial⟩ rfl (p_move rfl) ?_
 first | refine d_pure [(29, _)] rfl rfl ⟨⟨rfl, rfl⟩, trivial⟩ rfl (p_idx_sl rfl rfl Try.e61 Try.c57 (by first | assumption | (refine ⟨by omega, ?_⟩; first | assumption | exact strs_at (by omega) | exact strs_at (by simp only [List.length_cons] at *; omega) | exact ints_at (by omega) | exact map_at (by omega) | exact list_at (by omega)) | exact ⟨by decide, rfl⟩)) ?_ | refine d_pure [(29, _)] rfl rfl ⟨⟨rfl, rfl⟩, trivial⟩ rfl (p_idx_own rfl rfl Try.e61 Try.c57 (by omega)) ?_
 first | refine d_pure [(30, _)] rfl rfl ⟨⟨rfl, rfl⟩, trivial⟩ rfl (p_loads rfl Try.g57 Try.c57 rfl rfl) ?_ | refine d_pure [(30, _)] rfl rfl ⟨⟨rfl, rfl⟩, trivial⟩ rfl (p_loadsr rfl Try.g57 Try.c57 rfl rfl rfl) ?_
 refine d_rstep [] rfl rfl trivial rfl (r_call rfl rfl Try.ent73 rfl (oneS_den _ _ _ _)) ?_
 refine d_pure [(31, _), (32, _)] rfl rfl ⟨⟨rfl, rfl⟩, ⟨rfl, rfl⟩, trivial⟩ rfl (p_eqagg rfl rfl Try.q57 rfl) ?_
 refine d_pure [(28, _), (33, _)] rfl rfl ⟨⟨rfl, rfl⟩, ⟨rfl, rfl⟩, trivial⟩ rfl (p_pick_t rfl rfl) ?_
 refine d_pure [(34, _)] rfl rfl ⟨⟨rfl, rfl⟩, trivial⟩ rfl (p_move rfl) ?_
 refine d_pure [(1, _)] rfl rfl ⟨⟨rfl, rfl⟩, trivial⟩ rfl (p_move rfl) ?_
 refine d_rstep [(36, _)] rfl rfl ⟨⟨rfl, rfl⟩, trivial⟩ rfl (r_call rfl rfl Try.ent37 rfl ((show Den Try.prog _ _ (· = .s (.bool true)) from den_is (risingS_den [((1, 3), (2, 1)), ((2, 9), (1, 1))] (by decide)) (congrArg (fun z => AV.s (.bool z)) (by decide))))) ?_
 refine d_pure [(35, _), (37, _)] rfl rfl ⟨⟨rfl, rfl⟩, ⟨rfl, rfl⟩, trivial⟩ rfl (p_pick_t rfl rfl) ?_
 refine d_pure [(38, _)] rfl rfl ⟨⟨rfl, rfl⟩, trivial⟩ rfl (p_move rfl) ?_
 refine d_pure [(2, _)] rfl rfl ⟨⟨rfl, rfl⟩, trivial⟩ rfl (p_move rfl) ?_
 first | refine d_pure [(40, _)] rfl rfl ⟨⟨rfl, rfl⟩, trivial⟩ rfl (p_len_sl rfl Try.e61) ?_ | refine d_pure [(40, _)] rfl rfl ⟨⟨rfl, rfl⟩, trivial⟩ rfl (p_len_own rfl Try.e61) ?_ | refine d_pure [(40, _)] rfl rfl ⟨⟨rfl, rfl⟩, trivial⟩ rfl (p_len_nil rfl Try.e61) ?_
 refine d_pure [(41, _)] rfl rfl ⟨⟨rfl, rfl⟩, trivial⟩ rfl (p_bin rfl rfl rfl) ?_
 refine d_pure [(39, _), (42, _)] rfl rfl ⟨⟨rfl, rfl⟩, ⟨rfl, rfl⟩, trivial⟩ rfl (p_pick_t rfl rfl) ?_
 refine d_pure [(43, _)] rfl rfl ⟨⟨rfl, rfl⟩, trivial⟩ rfl (p_move rfl) ?_
 refine d_pure [(2, _)] rfl rfl ⟨⟨rfl, rfl⟩, trivial⟩ rfl (p_move rfl) ?_
 first | refine d_pure [(45, _)] rfl rfl ⟨⟨rfl, rfl⟩, trivial⟩ rfl (p_idx_sl rfl rfl Try.e61 Try.c57 (by first | assumption | (refine ⟨by omega, ?_⟩; first | assumption | exact strs_at (by omega) | exact strs_at (by simp only [List.length_cons] at *; omega) | exact ints_at (by omega) | exact map_at (by omega) | exact list_at (by omega)) | exact ⟨by decide, rfl⟩)) ?_ | refine d_pure [(45, _)] rfl rfl ⟨⟨rfl, rfl⟩, trivial⟩ rfl (p_idx_own rfl rfl Try.e61 Try.c57 (by omega)) ?_
 first | refine d_pure [(46, _)] rfl rfl ⟨⟨rfl, rfl⟩, trivial⟩ rfl (p_loads rfl Try.g57 Try.c57 rfl rfl) ?_ | refine d_pure [(46, _)] rfl rfl ⟨⟨rfl, rfl⟩, trivial⟩ rfl (p_loadsr rfl Try.g57 Try.c57 rfl rfl rfl) ?_
 refine d_rstep [] rfl rfl trivial rfl (r_call rfl rfl Try.ent73 rfl (oneS_den _ _ _ _)) ?_
 refine d_pure [(47, _), (48, _)] rfl rfl ⟨⟨rfl, rfl⟩, ⟨rfl, rfl⟩, trivial⟩ rfl (p_eqagg rfl rfl Try.q57 rfl) ?_
 refine d_pure [(44, _), (49, _)] rfl rfl ⟨⟨rfl, rfl⟩, ⟨rfl, rfl⟩, trivial⟩ rfl (p_pick_t rfl rfl) ?_
 refine d_pure [(50, _)] rfl rfl ⟨⟨rfl, rfl⟩, trivial⟩ rfl (p_move rfl) ?_
 refine d_pure [(2, _)] rfl rfl ⟨⟨rfl, rfl⟩, trivial⟩ rfl (p_move rfl) ?_
 first | refine d_pure [(52, _)] rfl rfl ⟨⟨rfl, rfl⟩, trivial⟩ rfl (p_idx_sl rfl rfl Try.e61 Try.c57 (by first | assumption | (refine ⟨by omega, ?_⟩; first | assumption | exact strs_at (by omega) | exact strs_at (by simp only [List.length_cons] at *; omega) | exact ints_at (by omega) | exact map_at (by omega) | exact list_at (by omega)) | exact ⟨by decide, rfl⟩)) ?_ | refine d_pure [(52, _)] rfl rfl ⟨⟨rfl, rfl⟩, trivial⟩ rfl (p_idx_own rfl rfl Try.e61 Try.c57 (by omega)) ?_
 first | refine d_pure [(53, _)] rfl rfl ⟨⟨rfl, rfl⟩, trivial⟩ rfl (p_loads rfl Try.g57 Try.c57 rfl rfl) ?_ | refine d_pure [(53, _)] rfl rfl ⟨⟨rfl, rfl⟩, trivial⟩ rfl (p_loadsr rfl Try.g57 Try.c57 rfl rfl rfl) ?_
 refine d_rstep [] rfl rfl trivial rfl (r_call rfl rfl Try.ent73 rfl (oneS_den _ _ _ _)) ?_
 refine d_pure [(54, _), (55, _)] rfl rfl ⟨⟨rfl, rfl⟩, ⟨rfl, rfl⟩, trivial⟩ rfl (p_eqagg rfl rfl Try.q57 rfl) ?_
 refine d_pure [(51, _), (56, _)] rfl rfl ⟨⟨rfl, rfl⟩, ⟨rfl, rfl⟩, trivial⟩ rfl (p_pick_t rfl rfl) ?_
 refine d_pure [(57, _)] rfl rfl ⟨⟨rfl, rfl⟩, trivial⟩ rfl (p_move rfl) ?_
 refine d_pure [(3, _)] rfl rfl ⟨⟨rfl, rfl⟩, trivial⟩ rfl (p_move rfl) ?_
 refine d_pure [(59, _)] rfl rfl ⟨⟨rfl, rfl⟩, trivial⟩ rfl (p_bin rfl rfl rfl) ?_
 refine d_pure [(58, _), (60, _)] rfl rfl ⟨⟨rfl, rfl⟩, ⟨rfl, rfl⟩, trivial⟩ rfl (p_pick_t rfl rfl) ?_
 refine d_pure [(61, _)] rfl rfl ⟨⟨rfl, rfl⟩, trivial⟩ rfl (p_move rfl) ?_
 refine d_pure [(4, _)] rfl rfl ⟨⟨rfl, rfl⟩, trivial⟩ rfl (p_move rfl) ?_
 refine d_pure [(62, _), (63, _)] rfl rfl ⟨⟨rfl, rfl⟩, ⟨rfl, rfl⟩, trivial⟩ rfl (p_pick_t rfl rfl) ?_
 refine d_pure [(64, _)] rfl rfl ⟨⟨rfl, rfl⟩, trivial⟩ rfl (p_move rfl) ?_
 refine d_pure [(6, _)] rfl rfl ⟨⟨rfl, rfl⟩, trivial⟩ rfl (p_move rfl) ?_
 refine d_pure [(66, _)] rfl rfl ⟨⟨rfl, rfl⟩, trivial⟩ rfl (p_not rfl) ?_
 refine d_pure [(65, _), (67, _)] rfl rfl ⟨⟨rfl, rfl⟩, ⟨rfl, rfl⟩, trivial⟩ rfl (p_pick_t rfl rfl) ?_
 refine d_pure [(68, _)] rfl rfl ⟨⟨rfl, rfl⟩, trivial⟩ rfl (p_move rfl) ?_
 refine d_pure [(1, _)] rfl rfl ⟨⟨rfl, rfl⟩, trivial⟩ rfl (p_move rfl) ?_
 refine d_rstep [(70, _)] rfl rfl ⟨⟨rfl, rfl⟩, trivial⟩ rfl (r_call rfl rfl Try.ent46 rfl ((show Den Try.prog _ _ (· = .sl 4 (List.map stC [((2, 9), (1, 1))])) from den_is (afterS_den [((1, 3), (2, 1)), ((2, 9), (1, 1))] 3 (by decide)) (congrArg (fun z => AV.sl 4 (List.map stC z)) (by decide))))) ?_
 first | refine d_pure [(71, _)] rfl rfl ⟨⟨rfl, rfl⟩, trivial⟩ rfl (p_len_sl rfl Try.e61) ?_ | refine d_pure [(71, _)] rfl rfl ⟨⟨rfl, rfl⟩, trivial⟩ rfl (p_len_own rfl Try.e61) ?_ | refine d_pure [(71, _)] rfl rfl ⟨⟨rfl, rfl⟩, trivial⟩ rfl (p_len_nil rfl Try.e61) ?_
 refine d_pure [(72, _)] rfl rfl ⟨⟨rfl, rfl⟩, trivial⟩ rfl (p_bin rfl rfl rfl) ?_
 refine d_pure [(69, _), (73, _)] rfl rfl ⟨⟨rfl, rfl⟩, ⟨rfl, rfl⟩, trivial⟩ rfl (p_pick_t rfl rfl) ?_
 refine d_pure [(74, _)] rfl rfl ⟨⟨rfl, rfl⟩, trivial⟩ rfl (p_move rfl) ?_
 refine d_pure [(1, _)] rfl rfl ⟨⟨rfl, rfl⟩, trivial⟩ rfl (p_move rfl) ?_
 refine d_pure [(1, _)] rfl rfl ⟨⟨rfl, rfl⟩, trivial⟩ rfl (p_move rfl) ?_
 refine d_rstep [(76, _), (77, _)] rfl rfl ⟨⟨rfl, rfl⟩, ⟨rfl, rfl⟩, trivial⟩ rfl (r_call rfl rfl Try.ent48 rfl ((show Den Try.prog _ _ (· = .s (.bool true)) from den_is (same8_den [((1, 3), (2, 1)), ((2, 9), (1, 1))] [((1, 3), (2, 1)), ((2, 9), (1, 1))] (by decide) (by decide)) (congrArg (fun z => AV.s (.bool z)) (by decide))))) ?_
 refine d_pure [(75, _), (78, _)] rfl rfl ⟨⟨rfl, rfl⟩, ⟨rfl, rfl⟩, trivial⟩ rfl (p_pick_t rfl rfl) ?_
 refine d_pure [(79, _)] rfl rfl ⟨⟨rfl, rfl⟩, trivial⟩ rfl (p_move rfl) ?_
 refine d_pure [(1, _)] rfl rfl ⟨⟨rfl, rfl⟩, trivial⟩ rfl (p_move rfl) ?_
 refine d_pure [(2, _)] rfl rfl ⟨⟨rfl, rfl⟩, trivial⟩ rfl (p_move rfl) ?_
 refine d_rstep [(81, _), (82, _)] rfl rfl ⟨⟨rfl, rfl⟩, ⟨rfl, rfl⟩, trivial⟩ rfl (r_call rfl rfl Try.ent48 rfl ((show Den Try.prog _ _ (· = .s (.bool false)) from den_is (same8_den [((1, 3), (2, 1)), ((2, 9), (1, 1))] [((1, 3), (2, 1)), ((2, 3), (1, 1)), ((5, 6), (1, 1))] (by decide) (by decide)) (congrArg (fun z => AV.s (.bool z)) (by decide))))) ?_
 refine d_pure [(83, _)] rfl rfl ⟨⟨rfl, rfl⟩, trivial⟩ rfl (p_not rfl) ?_
 refine d_pure [(80, _), (84, _)] rfl rfl ⟨⟨rfl, rfl⟩, ⟨rfl, rfl⟩, trivial⟩ rfl (p_pick_t rfl rfl) ?_
 refine d_pure [(85, _)] rfl rfl ⟨⟨rfl, rfl⟩, trivial⟩ rfl (p_move rfl) ?_
 refine d_pure [(1, _)] rfl rfl ⟨⟨rfl, rfl⟩, trivial⟩ rfl (p_move rfl) ?_
 first | refine d_pure [(87, _)] rfl rfl ⟨⟨rfl, rfl⟩, trivial⟩ rfl (p_idx_sl rfl rfl Try.e61 Try.c57 (by first | assumption | (refine ⟨by omega, ?_⟩; first | assumption | exact strs_at (by omega) | exact strs_at (by simp only [List.length_cons] at *; omega) | exact ints_at (by omega) | exact map_at (by omega) | exact list_at (by omega)) | exact ⟨by decide, rfl⟩)) ?_ | refine d_pure [(87, _)] rfl rfl ⟨⟨rfl, rfl⟩, trivial⟩ rfl (p_idx_own rfl rfl Try.e61 Try.c57 (by omega)) ?_
 first | refine d_pure [(88, _)] rfl rfl ⟨⟨rfl, rfl⟩, trivial⟩ rfl (p_loads rfl Try.g57 Try.c57 rfl rfl) ?_ | refine d_pure [(88, _)] rfl rfl ⟨⟨rfl, rfl⟩, trivial⟩ rfl (p_loadsr rfl Try.g57 Try.c57 rfl rfl rfl) ?_
 refine d_pure [(1, _)] rfl rfl ⟨⟨rfl, rfl⟩, trivial⟩ rfl (p_move rfl) ?_
 first | refine d_pure [(90, _)] rfl rfl ⟨⟨rfl, rfl⟩, trivial⟩ rfl (p_idx_sl rfl rfl Try.e61 Try.c57 (by first | assumption | (refine ⟨by omega, ?_⟩; first | assumption | exact strs_at (by omega) | exact strs_at (by simp only [List.length_cons] at *; omega) | exact ints_at (by omega) | exact map_at (by omega) | exact list_at (by omega)) | exact ⟨by decide, rfl⟩)) ?_ | refine d_pure [(90, _)] rfl rfl ⟨⟨rfl, rfl⟩, trivial⟩ rfl (p_idx_own rfl rfl Try.e61 Try.c57 (by omega)) ?_
 first | refine d_pure [(91, _)] rfl rfl ⟨⟨rfl, rfl⟩, trivial⟩ rfl (p_loads rfl Try.g57 Try.c57 rfl rfl) ?_ | refine d_pure [(91, _)] rfl rfl ⟨⟨rfl, rfl⟩, trivial⟩ rfl (p_loadsr rfl Try.g57 Try.c57 rfl rfl rfl) ?_
 refine d_rstep [(89, _), (92, _)] rfl rfl ⟨⟨rfl, rfl⟩, ⟨rfl, rfl⟩, trivial⟩ rfl (r_call rfl rfl Try.ent36 rfl ((show Den Try.prog _ _ (· = .s (.int .i64 (-1))) from den_is (cmpS_den ((1, 3), (2, 1)) ((2, 9), (1, 1))) (congrArg (fun z => AV.s (.int .i64 z)) (by decide))))) ?_
 refine d_pure [(93, _)] rfl rfl ⟨⟨rfl, rfl⟩, trivial⟩ rfl (p_bin rfl rfl rfl) ?_
 refine d_pure [(86, _), (94, _)] rfl rfl ⟨⟨rfl, rfl⟩, ⟨rfl, rfl⟩, trivial⟩ rfl (p_pick_t rfl rfl) ?_
 refine d_pure [(95, _)] rfl rfl ⟨⟨rfl, rfl⟩, trivial⟩ rfl (p_assign rfl) ?_
 refine lex_end (sl' := [(0, _)]) rfl ⟨rfl, trivial⟩ rfl ?_
 refine hK6 _ ?_
 refine aw_ret ?_
 refine ⟨_, rfl, ?_⟩
 rfl

theorem refSame8T_den (a b : List Stay) (h : a = b) (ha : a.length ≤ 9223372036854775807) : Den Try.prog 41 [.sl 4 (a.map stC), .sl 4 (b.map stC)] (· = .s (.bool true)) := by
  subst h
  exact (refSame8_den a a ha ha).mono fun r h => h.trans (by simp)
theorem same8T_den (a b : List Stay) (h : a = b) (ha : a.length ≤ 9223372036854775807) : Den Try.prog 48 [.sl 4 (a.map stC), .sl 4 (b.map stC)] (· = .s (.bool true)) := by
  subst h
  exact (same8_den a a ha ha).mono fun r h => h.trans (by simp)
end Go.Proofs.Ytkjniggdldpnoaa
