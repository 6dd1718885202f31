import Derived.Test.YtcjchfocohagdaaSW3
import Derived.Test.YtcjchfocohagdaaSW4
import Derived.Test.YtcjchfocohagdaaSW5
import Derived.Test.YtcjchfocohagdaaSW6
import Derived.Test.YtcjchfocohagdaaSW7
set_option linter.unusedVariables false
set_option linter.unusedSimpArgs false
namespace Go.Proofs.Ytcjchfocohagdaa
open Go Go.Abs

set_option maxRecDepth 20000 in
set_option maxHeartbeats 16000000 in
theorem alive10_den   : Den Try.prog 10 []  (· = .s (.bool true)) := by
 refine den_of_aw Try.func10 rfl (Nat.le_of_ble_eq_true rfl) (fun w0 A hf => ?_)
 refine aw_seq_k (fun K1 hK1 => ?_)
 refine aw_region ?_
 refine x_pure rfl (p_assign_bad) ?_
 first | refine aops_end ?_ | refine aops_nil ?_
 refine hK1 _ ?_
 refine aw_seq_k (fun K2 hK2 => ?_)
 refine aw_region ?_
 refine x_pure rfl (p_build rfl Try.z31 Try.pl31 (by simp [seC, stC, spC, strs, AV.cells, AV.one, Value.oneCell', splice, AV.kill, AV.clean, cleanL, AV.only]) rfl) ?_
 refine x_step hf rfl (r_call rfl rfl Try.ent12 rfl ((show Den Try.prog _ _ (· = .tup [.sl 4 (List.map seC [((2, ⟨#[97, 110, 110]⟩), (1, 3))]), .s (.int .i64 0)]) from den_is (den_nilh (open10_den [] ((2, ⟨#[97, 110, 110]⟩), (1, 3)) (by decide))) (by rw [show opnR [] ((2, ⟨#[97, 110, 110]⟩), (1, 3)) = [((2, ⟨#[97, 110, 110]⟩), (1, 3))] from by decide, show opnS [] ((2, ⟨#[97, 110, 110]⟩), (1, 3)) = 0 from by decide])))) ?_
 refine x_pure rfl (p_move rfl) ?_
 refine x_pure rfl (p_extract rfl rfl) ?_
 refine x_pure rfl (p_extract rfl rfl) ?_
 refine x_pure rfl (p_assign rfl) ?_
 refine x_pure rfl (p_assign rfl) ?_
 first | refine aops_end ?_ | refine aops_nil ?_
 refine hK2 _ ?_
 refine aw_seq_k (fun K3 hK3 => ?_)
 refine aw_region ?_
 refine x_pure rfl (p_move rfl) ?_
 refine x_pure rfl (p_build rfl Try.z31 Try.pl31 (by simp [seC, stC, spC, strs, AV.cells, AV.one, Value.oneCell', splice, AV.kill, AV.clean, cleanL, AV.only]) rfl) ?_
 refine x_step hf rfl (r_call rfl rfl Try.ent12 rfl ((show Den Try.prog _ _ (· = .tup [.sl 4 (List.map seC []), .s (.int .i64 100)]) from den_is (open10_den [((2, ⟨#[97, 110, 110]⟩), (1, 3))] ((2, ⟨#[98, 111, 98]⟩), (0, 0)) (by decide)) (by rw [show opnR [((2, ⟨#[97, 110, 110]⟩), (1, 3))] ((2, ⟨#[98, 111, 98]⟩), (0, 0)) = [] from by decide, show opnS [((2, ⟨#[97, 110, 110]⟩), (1, 3))] ((2, ⟨#[98, 111, 98]⟩), (0, 0)) = 100 from by decide])))) ?_
 refine x_pure rfl (p_move rfl) ?_
 refine x_pure rfl (p_extract rfl rfl) ?_
 refine x_pure rfl (p_extract rfl rfl) ?_
 refine x_pure rfl (p_assign_bad) ?_
 refine x_pure rfl (p_assign rfl) ?_
 first | refine aops_end ?_ | refine aops_nil ?_
 refine hK3 _ ?_
 refine aw_seq_k (fun K4 hK4 => ?_)
 refine aw_region ?_
 refine x_pure rfl (p_move rfl) ?_
 refine x_step hf rfl (r_call rfl rfl Try.ent18 rfl ((show Den Try.prog _ _ (· = .tup [.sl 4 (List.map seC [((2, ⟨#[97, 110, 110]⟩), (4, 5))]), .agg (stC ((3, 5), (2, 1))), .s (.int .i64 0)]) from den_is (change10_den [((2, ⟨#[97, 110, 110]⟩), (1, 3))] 2 ⟨#[97, 110, 110]⟩ 4 5 (by decide)) (by rw [show chgR [((2, ⟨#[97, 110, 110]⟩), (1, 3))] 2 ⟨#[97, 110, 110]⟩ 4 5 = [((2, ⟨#[97, 110, 110]⟩), (4, 5))] from by decide, show stR [((2, ⟨#[97, 110, 110]⟩), (1, 3))] 2 ⟨#[97, 110, 110]⟩ 5 = ((3, 5), (2, 1)) from by decide, show codeS [((2, ⟨#[97, 110, 110]⟩), (1, 3))] 2 ⟨#[97, 110, 110]⟩ = 0 from by decide])))) ?_
 refine x_pure rfl (p_move rfl) ?_
 refine x_pure rfl (p_extract rfl rfl) ?_
 refine x_pure rfl (p_extract rfl rfl) ?_
 refine x_pure rfl (p_extract rfl rfl) ?_
 refine x_alloc hf rfl rfl rfl Try.z44 ?_
 refine x_pure rfl (p_assign rfl) ?_
 refine x_store hf rfl rfl Try.c44 rfl rfl (by simp [seC, stC, spC, strs, AV.cells, AV.one, Value.oneCell', splice, AV.kill, AV.clean, cleanL, AV.only]) (by simp [seC, stC, spC, strs, AV.cells, AV.leaf, Value.oneCell', splice, AV.kill, AV.clean, cleanL, AV.only]) rfl ?_
 refine aops_le (le_keep (nee 6) (sl' := [(1, _), (2, _), (4, _), (5, _), (6, _), (35, _)]) (m' := []) ⟨⟨_, rfl, rfl⟩, ⟨_, rfl, rfl⟩, ⟨_, rfl, rfl⟩, ⟨_, rfl, rfl⟩, ⟨_, rfl, rfl⟩, ⟨_, rfl, rfl⟩, trivial⟩ rfl) ?_
 refine x_pure rfl (p_assign rfl) ?_
 first | refine aops_end ?_ | refine aops_nil ?_
 refine hK4 _ ?_
 refine aw_seq_k (fun K5 hK5 => ?_)
 refine aw_region ?_
 refine x_pure rfl (p_move rfl) ?_
 refine x_step hf rfl (r_call rfl rfl Try.ent23 rfl ((show Den Try.prog _ _ (· = .tup [.sl 4 (List.map seC []), .agg (stC ((0, 0), (0, 0))), .s (.int .i64 102)]) from den_is (close10_den [((2, ⟨#[97, 110, 110]⟩), (4, 5))] 2 ⟨#[98, 111, 98]⟩ 7 (by decide)) (by rw [show clsR [((2, ⟨#[97, 110, 110]⟩), (4, 5))] 2 ⟨#[98, 111, 98]⟩ = [] from by decide, show stR [((2, ⟨#[97, 110, 110]⟩), (4, 5))] 2 ⟨#[98, 111, 98]⟩ 7 = ((0, 0), (0, 0)) from by decide, show codeS [((2, ⟨#[97, 110, 110]⟩), (4, 5))] 2 ⟨#[98, 111, 98]⟩ = 102 from by decide])))) ?_
 refine x_pure rfl (p_move rfl) ?_
 refine x_pure rfl (p_extract rfl rfl) ?_
 refine x_pure rfl (p_extract rfl rfl) ?_
 refine x_pure rfl (p_extract rfl rfl) ?_
 refine x_alloc hf rfl rfl rfl Try.z44 ?_
 refine x_pure rfl (p_assign_bad) ?_
 refine x_store hf rfl rfl Try.c44 rfl rfl (by simp [seC, stC, spC, strs, AV.cells, AV.one, Value.oneCell', splice, AV.kill, AV.clean, cleanL, AV.only]) (by simp [seC, stC, spC, strs, AV.cells, AV.leaf, Value.oneCell', splice, AV.kill, AV.clean, cleanL, AV.only]) rfl ?_
 refine aops_le (le_keep (nee 9) (sl' := [(1, _), (2, _), (4, _), (5, _), (6, _), (7, _), (41, _)]) (m' := []) ⟨⟨_, rfl, rfl⟩, ⟨_, rfl, rfl⟩, ⟨_, rfl, rfl⟩, ⟨_, rfl, rfl⟩, ⟨_, rfl, rfl⟩, ⟨_, rfl, rfl⟩, ⟨_, rfl, rfl⟩, trivial⟩ rfl) ?_
 refine x_pure rfl (p_assign rfl) ?_
 first | refine aops_end ?_ | refine aops_nil ?_
 refine hK5 _ ?_
 refine aw_seq_k (fun K6 hK6 => ?_)
 refine aw_region ?_
 refine x_pure rfl (p_move rfl) ?_
 refine x_step hf rfl (r_call rfl rfl Try.ent23 rfl ((show Den Try.prog _ _ (· = .tup [.sl 4 (List.map seC []), .agg (stC ((5, 7), (2, 4))), .s (.int .i64 0)]) from den_is (close10_den [((2, ⟨#[97, 110, 110]⟩), (4, 5))] 2 ⟨#[97, 110, 110]⟩ 7 (by decide)) (by rw [show clsR [((2, ⟨#[97, 110, 110]⟩), (4, 5))] 2 ⟨#[97, 110, 110]⟩ = [] from by decide, show stR [((2, ⟨#[97, 110, 110]⟩), (4, 5))] 2 ⟨#[97, 110, 110]⟩ 7 = ((5, 7), (2, 4)) from by decide, show codeS [((2, ⟨#[97, 110, 110]⟩), (4, 5))] 2 ⟨#[97, 110, 110]⟩ = 0 from by decide])))) ?_
 refine x_pure rfl (p_move rfl) ?_
 refine x_pure rfl (p_extract rfl rfl) ?_
 refine x_pure rfl (p_extract rfl rfl) ?_
 refine x_pure rfl (p_extract rfl rfl) ?_
 refine x_alloc hf rfl rfl rfl Try.z44 ?_
 refine x_pure rfl (p_assign rfl) ?_
 refine x_store hf rfl rfl Try.c44 rfl rfl (by simp [seC, stC, spC, strs, AV.cells, AV.one, Value.oneCell', splice, AV.kill, AV.clean, cleanL, AV.only]) (by simp [seC, stC, spC, strs, AV.cells, AV.leaf, Value.oneCell', splice, AV.kill, AV.clean, cleanL, AV.only]) rfl ?_
 refine aops_le (le_keep (nee 12) (sl' := [(1, _), (2, _), (4, _), (5, _), (6, _), (7, _), (10, _), (11, _), (12, _), (47, _)]) (m' := []) ⟨⟨_, rfl, rfl⟩, ⟨_, rfl, rfl⟩, ⟨_, rfl, rfl⟩, ⟨_, rfl, rfl⟩, ⟨_, rfl, rfl⟩, ⟨_, rfl, rfl⟩, ⟨_, rfl, rfl⟩, ⟨_, rfl, rfl⟩, ⟨_, rfl, rfl⟩, ⟨_, rfl, rfl⟩, trivial⟩ rfl) ?_
 refine x_pure rfl (p_assign rfl) ?_
 first | refine aops_end ?_ | refine aops_nil ?_
 refine hK6 _ ?_
 refine aw_seq_k (fun K7 hK7 => ?_)
 refine aw_region ?_
 refine x_pure rfl (p_move rfl) ?_
 refine x_step hf rfl (r_call rfl rfl Try.ent20 rfl ((show Den Try.prog _ _ (· = .tup [.agg (seC ((0, ⟨#[]⟩), (0, 0))), .s (.int .i64 101)]) from den_is (find10_den [] 2 ⟨#[97, 110, 110]⟩ (by decide)) (by rw [show fndR [] 2 ⟨#[97, 110, 110]⟩ = ((0, ⟨#[]⟩), (0, 0)) from by decide, show codeS [] 2 ⟨#[97, 110, 110]⟩ = 101 from by decide])))) ?_
 refine x_pure rfl (p_move rfl) ?_
 refine x_pure rfl (p_extract rfl rfl) ?_
 refine x_pure rfl (p_extract rfl rfl) ?_
 refine x_allocst hf rfl Try.z31 rfl Try.c31 rfl rfl rfl rfl (by simp [seC, stC, spC, strs, AV.cells, AV.leaf, Value.oneCell', splice, AV.kill, AV.clean, cleanL, AV.only]) ?_
 refine x_pure rfl (p_assign rfl) ?_
 first | refine aops_end ?_ | refine aops_nil ?_
 refine hK7 _ ?_
 refine aw_seq_k (fun K8 hK8 => ?_)
 refine aw_region ?_
 refine x_pure rfl (p_move rfl) ?_
 refine x_step hf rfl (r_call rfl rfl Try.ent20 rfl ((show Den Try.prog _ _ (· = .tup [.agg (seC ((2, ⟨#[97, 110, 110]⟩), (4, 5))), .s (.int .i64 0)]) from den_is (find10_den [((2, ⟨#[97, 110, 110]⟩), (4, 5))] 2 ⟨#[97, 110, 110]⟩ (by decide)) (by rw [show fndR [((2, ⟨#[97, 110, 110]⟩), (4, 5))] 2 ⟨#[97, 110, 110]⟩ = ((2, ⟨#[97, 110, 110]⟩), (4, 5)) from by decide, show codeS [((2, ⟨#[97, 110, 110]⟩), (4, 5))] 2 ⟨#[97, 110, 110]⟩ = 0 from by decide])))) ?_
 refine x_pure rfl (p_move rfl) ?_
 refine x_pure rfl (p_extract rfl rfl) ?_
 refine x_pure rfl (p_extract rfl rfl) ?_
 refine x_allocst hf rfl Try.z31 rfl Try.c31 rfl rfl rfl rfl (by simp [seC, stC, spC, strs, AV.cells, AV.leaf, Value.oneCell', splice, AV.kill, AV.clean, cleanL, AV.only]) ?_
 refine x_pure rfl (p_assign rfl) ?_
 first | refine aops_end ?_ | refine aops_nil ?_
 refine hK8 _ ?_
 refine aw_seq_k (fun K9 hK9 => ?_)
 refine aw_region ?_
 refine x_pure rfl (p_move rfl) ?_
 refine x_step hf rfl (r_call rfl rfl Try.ent30 rfl ((show Den Try.prog _ _ (· = .sl 1 (strs [⟨#[97, 110, 110]⟩])) from den_is (users10_den [((2, ⟨#[97, 110, 110]⟩), (4, 5))] (by decide)) rfl))) ?_
 refine x_pure rfl (p_assign rfl) ?_
 first | refine aops_end ?_ | refine aops_nil ?_
 refine hK9 _ ?_
 refine aw_seq_k (fun K10 hK10 => ?_)
 refine aw_region ?_
 refine x_pure rfl (p_move rfl) ?_
 refine x_pure rfl (p_bin rfl rfl rfl) ?_
 refine x_pure rfl (p_move rfl) ?_
 refine x_guard_t rfl rfl rfl ?_
 refine x_pure rfl (p_move rfl) ?_
 refine x_guard_t rfl rfl rfl ?_
 refine x_pure rfl (p_bin rfl rfl rfl) ?_
 refine x_pure rfl (p_pick_t rfl rfl) ?_
 refine x_pure rfl (p_move rfl) ?_
 refine x_guard_t rfl rfl rfl ?_
 refine x_pure rfl (p_move rfl) ?_
 refine x_guard_t rfl rfl rfl ?_
 refine x_pure rfl (p_bin rfl rfl rfl) ?_
 refine x_pure rfl (p_pick_t rfl rfl) ?_
 refine x_pure rfl (p_move rfl) ?_
 refine x_guard_t rfl rfl rfl ?_
 first | refine x_pure rfl (p_fld_adr rfl Try.fd44_0 Try.c42 rfl) ?_ | refine x_pure rfl (p_fld_ref rfl Try.fd44_0 Try.c42 rfl) ?_
 refine x_guard_t rfl rfl rfl ?_
 first | refine x_pure rfl (p_fld_adr rfl Try.fd42_0 Try.c3 rfl) ?_ | refine x_pure rfl (p_fld_ref rfl Try.fd42_0 Try.c3 rfl) ?_
 refine x_guard_t rfl rfl rfl ?_
 first | refine x_pure rfl (p_load1 rfl Try.g3 rfl) ?_ | refine x_pure rfl (p_load1r rfl Try.g3 rfl rfl) ?_ | refine x_pure rfl (p_load1r rfl Try.g3 rfl (strs_ref (by simp only [List.length_cons] at *; omega))) ?_ | refine x_pure rfl (p_load1r rfl Try.g3 rfl (strs_ref (by omega))) ?_
 refine x_guard_t rfl rfl rfl ?_
 refine x_pure rfl (p_bin rfl rfl rfl) ?_
 refine x_pure rfl (p_pick_t rfl rfl) ?_
 refine x_pure rfl (p_move rfl) ?_
 refine x_guard_t rfl rfl rfl ?_
 first | refine x_pure rfl (p_fld_adr rfl Try.fd44_0 Try.c42 rfl) ?_ | refine x_pure rfl (p_fld_ref rfl Try.fd44_0 Try.c42 rfl) ?_
 refine x_guard_t rfl rfl rfl ?_
 first | refine x_pure rfl (p_fld_adr rfl Try.fd42_1 Try.c3 rfl) ?_ | refine x_pure rfl (p_fld_ref rfl Try.fd42_1 Try.c3 rfl) ?_
 refine x_guard_t rfl rfl rfl ?_
 first | refine x_pure rfl (p_load1 rfl Try.g3 rfl) ?_ | refine x_pure rfl (p_load1r rfl Try.g3 rfl rfl) ?_ | refine x_pure rfl (p_load1r rfl Try.g3 rfl (strs_ref (by simp only [List.length_cons] at *; omega))) ?_ | refine x_pure rfl (p_load1r rfl Try.g3 rfl (strs_ref (by omega))) ?_
 refine x_guard_t rfl rfl rfl ?_
 refine x_pure rfl (p_bin rfl rfl rfl) ?_
 refine x_pure rfl (p_pick_t rfl rfl) ?_
 refine x_pure rfl (p_move rfl) ?_
 refine x_guard_t rfl rfl rfl ?_
 first | refine x_pure rfl (p_fld_adr rfl Try.fd44_2 Try.c3 rfl) ?_ | refine x_pure rfl (p_fld_ref rfl Try.fd44_2 Try.c3 rfl) ?_
 refine x_guard_t rfl rfl rfl ?_
 first | refine x_pure rfl (p_load1 rfl Try.g3 rfl) ?_ | refine x_pure rfl (p_load1r rfl Try.g3 rfl rfl) ?_ | refine x_pure rfl (p_load1r rfl Try.g3 rfl (strs_ref (by simp only [List.length_cons] at *; omega))) ?_ | refine x_pure rfl (p_load1r rfl Try.g3 rfl (strs_ref (by omega))) ?_
 refine x_guard_t rfl rfl rfl ?_
 refine x_pure rfl (p_bin rfl rfl rfl) ?_
 refine x_pure rfl (p_pick_t rfl rfl) ?_
 refine x_pure rfl (p_move rfl) ?_
 refine x_guard_t rfl rfl rfl ?_
 refine x_pure rfl (p_move rfl) ?_
 refine x_guard_t rfl rfl rfl ?_
 refine x_pure rfl (p_bin rfl rfl rfl) ?_
 refine x_pure rfl (p_pick_t rfl rfl) ?_
 refine x_pure rfl (p_move rfl) ?_
 refine x_guard_t rfl rfl rfl ?_
 refine x_pure rfl (p_move rfl) ?_
 refine x_guard_t rfl rfl rfl ?_
 refine x_pure rfl (p_bin rfl rfl rfl) ?_
 refine x_pure rfl (p_pick_t rfl rfl) ?_
 refine x_pure rfl (p_move rfl) ?_
 refine x_guard_t rfl rfl rfl ?_
 first | refine x_pure rfl (p_fld_adr rfl Try.fd44_0 Try.c42 rfl) ?_ | refine x_pure rfl (p_fld_ref rfl Try.fd44_0 Try.c42 rfl) ?_
 refine x_guard_t rfl rfl rfl ?_
 first | refine x_pure rfl (p_fld_adr rfl Try.fd42_0 Try.c3 rfl) ?_ | refine x_pure rfl (p_fld_ref rfl Try.fd42_0 Try.c3 rfl) ?_
 refine x_guard_t rfl rfl rfl ?_
 first | refine x_pure rfl (p_load1 rfl Try.g3 rfl) ?_ | refine x_pure rfl (p_load1r rfl Try.g3 rfl rfl) ?_ | refine x_pure rfl (p_load1r rfl Try.g3 rfl (strs_ref (by simp only [List.length_cons] at *; omega))) ?_ | refine x_pure rfl (p_load1r rfl Try.g3 rfl (strs_ref (by omega))) ?_
 refine x_guard_t rfl rfl rfl ?_
 refine x_pure rfl (p_bin rfl rfl rfl) ?_
 refine x_pure rfl (p_pick_t rfl rfl) ?_
 refine x_pure rfl (p_move rfl) ?_
 refine x_guard_t rfl rfl rfl ?_
 first | refine x_pure rfl (p_fld_adr rfl Try.fd44_2 Try.c3 rfl) ?_ | refine x_pure rfl (p_fld_ref rfl Try.fd44_2 Try.c3 rfl) ?_
 refine x_guard_t rfl rfl rfl ?_
 first | refine x_pure rfl (p_load1 rfl Try.g3 rfl) ?_ | refine x_pure rfl (p_load1r rfl Try.g3 rfl rfl) ?_ | refine x_pure rfl (p_load1r rfl Try.g3 rfl (strs_ref (by simp only [List.length_cons] at *; omega))) ?_ | refine x_pure rfl (p_load1r rfl Try.g3 rfl (strs_ref (by omega))) ?_
 refine x_guard_t rfl rfl rfl ?_
 refine x_pure rfl (p_bin rfl rfl rfl) ?_
 refine x_pure rfl (p_pick_t rfl rfl) ?_
 refine x_pure rfl (p_move rfl) ?_
 refine x_guard_t rfl rfl rfl ?_
 refine x_pure rfl (p_move rfl) ?_
 refine x_guard_t rfl rfl rfl ?_
 first | refine x_pure rfl (p_len_sl rfl Try.e26) ?_ | refine x_pure rfl (p_len_own rfl Try.e26) ?_ | refine x_pure rfl (p_len_nil rfl Try.e26) ?_
 refine x_guard_t rfl rfl rfl ?_
 refine x_pure rfl (p_bin rfl rfl rfl) ?_
 refine x_pure rfl (p_pick_t rfl rfl) ?_
 refine x_pure rfl (p_move rfl) ?_
 refine x_guard_t rfl rfl rfl ?_
 refine x_pure rfl (p_move rfl) ?_
 refine x_guard_t rfl rfl rfl ?_
 refine x_pure rfl (p_bin rfl rfl rfl) ?_
 refine x_pure rfl (p_pick_t rfl rfl) ?_
 refine x_pure rfl (p_move rfl) ?_
 refine x_guard_t rfl rfl rfl ?_
 refine x_pure rfl (p_move rfl) ?_
 refine x_guard_t rfl rfl rfl ?_
 refine x_pure rfl (p_bin rfl rfl rfl) ?_
 refine x_pure rfl (p_pick_t rfl rfl) ?_
 refine x_pure rfl (p_move rfl) ?_
 refine x_guard_t rfl rfl rfl ?_
 first | refine x_pure rfl (p_fld_adr rfl Try.fd31_3 Try.c3 rfl) ?_ | refine x_pure rfl (p_fld_ref rfl Try.fd31_3 Try.c3 rfl) ?_
 refine x_guard_t rfl rfl rfl ?_
 first | refine x_pure rfl (p_load1 rfl Try.g3 rfl) ?_ | refine x_pure rfl (p_load1r rfl Try.g3 rfl rfl) ?_ | refine x_pure rfl (p_load1r rfl Try.g3 rfl (strs_ref (by simp only [List.length_cons] at *; omega))) ?_ | refine x_pure rfl (p_load1r rfl Try.g3 rfl (strs_ref (by omega))) ?_
 refine x_guard_t rfl rfl rfl ?_
 refine x_pure rfl (p_bin rfl rfl rfl) ?_
 refine x_pure rfl (p_pick_t rfl rfl) ?_
 refine x_pure rfl (p_move rfl) ?_
 refine x_guard_t rfl rfl rfl ?_
 refine x_pure rfl (p_move rfl) ?_
 refine x_guard_t rfl rfl rfl ?_
 first | refine x_pure rfl (p_len_sl rfl Try.e67) ?_ | refine x_pure rfl (p_len_own rfl Try.e67) ?_ | refine x_pure rfl (p_len_nil rfl Try.e67) ?_
 refine x_guard_t rfl rfl rfl ?_
 refine x_pure rfl (p_bin rfl rfl rfl) ?_
 refine x_pure rfl (p_pick_t rfl rfl) ?_
 refine x_pure rfl (p_move rfl) ?_
 refine x_guard_t rfl rfl rfl ?_
 refine x_pure rfl (p_move rfl) ?_
 refine x_guard_t rfl rfl rfl ?_
 first | refine x_pure rfl (p_idx_sl rfl rfl Try.e67 Try.c9 (by first | assumption | (refine ⟨by omega, ?_⟩; first | assumption | exact strs_at (by omega) | exact strs_at (by simp only [List.length_cons] at *; omega) | exact ints_at (by omega) | exact map_at (by omega) | exact list_at (by omega)) | exact ⟨by decide, rfl⟩)) ?_ | refine x_pure rfl (p_idx_own rfl rfl Try.e67 Try.c9 (by omega)) ?_
 refine x_guard_t rfl rfl rfl ?_
 first | refine x_pure rfl (p_load1 rfl Try.g9 rfl) ?_ | refine x_pure rfl (p_load1r rfl Try.g9 rfl rfl) ?_ | refine x_pure rfl (p_load1r rfl Try.g9 rfl (strs_ref (by simp only [List.length_cons] at *; omega))) ?_ | refine x_pure rfl (p_load1r rfl Try.g9 rfl (strs_ref (by omega))) ?_
 refine x_guard_t rfl rfl rfl ?_
 refine x_pure rfl (p_bin rfl rfl (streq_t _)) ?_
 refine x_pure rfl (p_pick_t rfl rfl) ?_
 refine x_pure rfl (p_move rfl) ?_
 refine x_guard_t rfl rfl rfl ?_
 refine x_pure rfl (p_move rfl) ?_
 refine x_guard_t rfl rfl rfl ?_
 refine x_step hf rfl (r_call rfl rfl Try.ent17 rfl ((show Den Try.prog _ _ (· = .s (.bool true)) from den_is (rising10_den [((2, ⟨#[97, 110, 110]⟩), (4, 5))] (by decide) (by decide)) (congrArg (fun z => AV.s (.bool z)) (by decide))))) ?_
 refine x_pure rfl (p_pick_t rfl rfl) ?_
 refine x_pure rfl (p_move rfl) ?_
 refine x_guard_t rfl rfl rfl ?_
 refine x_pure rfl (p_move rfl) ?_
 refine x_guard_t rfl rfl rfl ?_
 refine x_step hf rfl (r_call rfl rfl Try.ent32 rfl ((show Den Try.prog _ _ (· = .sl 4 (List.map seC [])) from den_is (without10_den [((2, ⟨#[97, 110, 110]⟩), (4, 5))] ⟨#[97, 110, 110]⟩ (by decide)) (congrArg (fun z => AV.sl 4 (List.map seC z)) (by decide))))) ?_
 refine x_guard_t rfl rfl rfl ?_
 first | refine x_pure rfl (p_len_sl rfl Try.e26) ?_ | refine x_pure rfl (p_len_own rfl Try.e26) ?_ | refine x_pure rfl (p_len_nil rfl Try.e26) ?_
 refine x_guard_t rfl rfl rfl ?_
 refine x_pure rfl (p_bin rfl rfl rfl) ?_
 refine x_pure rfl (p_pick_t rfl rfl) ?_
 refine x_pure rfl (p_move rfl) ?_
 refine x_guard_t rfl rfl rfl ?_
 refine x_pure rfl (p_move rfl) ?_
 refine x_guard_t rfl rfl rfl ?_
 refine x_step hf rfl (r_call rfl rfl Try.ent27 rfl ((show Den Try.prog _ _ (· = .sl 4 (List.map stC [((5, 9), (2, 4))])) from den_is (stays10_den [((2, ⟨#[97, 110, 110]⟩), (4, 5))] ⟨#[97, 110, 110]⟩ 9 (by decide)) (congrArg (fun z => AV.sl 4 (List.map stC z)) (by decide))))) ?_
 refine x_guard_t rfl rfl rfl ?_
 first | refine x_pure rfl (p_len_sl rfl Try.e63) ?_ | refine x_pure rfl (p_len_own rfl Try.e63) ?_ | refine x_pure rfl (p_len_nil rfl Try.e63) ?_
 refine x_guard_t rfl rfl rfl ?_
 refine x_pure rfl (p_bin rfl rfl rfl) ?_
 refine x_pure rfl (p_pick_t rfl rfl) ?_
 refine x_pure rfl (p_move rfl) ?_
 refine x_guard_t rfl rfl rfl ?_
 refine x_pure rfl (p_move rfl) ?_
 refine x_guard_t rfl rfl rfl ?_
 refine x_pure rfl (p_move rfl) ?_
 refine x_guard_t rfl rfl rfl ?_
 refine x_step hf rfl (r_call rfl rfl Try.ent34 rfl ((show Den Try.prog _ _ (· = .s (.bool true)) from den_is (same10_den [((2, ⟨#[97, 110, 110]⟩), (4, 5))] [((2, ⟨#[97, 110, 110]⟩), (4, 5))] (by decide) (by decide)) (congrArg (fun z => AV.s (.bool z)) (by decide))))) ?_
 refine x_pure rfl (p_pick_t rfl rfl) ?_
 refine x_pure rfl (p_move rfl) ?_
 refine x_guard_t rfl rfl rfl ?_
 refine x_pure rfl (p_move rfl) ?_
 refine x_guard_t rfl rfl rfl ?_
 refine x_pure rfl (p_move rfl) ?_
 refine x_guard_t rfl rfl rfl ?_
 refine x_step hf rfl (r_call rfl rfl Try.ent34 rfl ((show Den Try.prog _ _ (· = .s (.bool false)) from den_is (same10_den [((2, ⟨#[97, 110, 110]⟩), (1, 3))] [((2, ⟨#[97, 110, 110]⟩), (4, 5))] (by decide) (by decide)) (congrArg (fun z => AV.s (.bool z)) (by decide))))) ?_
 refine x_guard_t rfl rfl rfl ?_
 refine x_pure rfl (p_not rfl) ?_
 refine x_pure rfl (p_pick_t rfl rfl) ?_
 refine x_pure rfl (p_assign rfl) ?_
 first | refine aops_end ?_ | refine aops_nil ?_
 refine hK10 _ ?_
 refine aw_ret ?_
 refine ⟨_, rfl, ?_⟩
 rfl
end Go.Proofs.Ytcjchfocohagdaa
