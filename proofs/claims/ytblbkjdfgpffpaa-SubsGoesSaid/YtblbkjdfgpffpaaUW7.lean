import Derived.Test.YtblbkjdfgpffpaaUW6
import Derived.Test.YtblbkjdfgpffpaaU3
import Derived.Test.YtblbkjdfgpffpaaUW4
set_option linter.unusedVariables false
set_option linter.unusedSimpArgs false
namespace Go.Proofs.Ytblbkjdfgpffpaa
open Go Go.Abs

set_option maxRecDepth 20000 in
set_option maxHeartbeats 8000000 in
theorem alive9_den   : Den Try.prog 10 []  (· = .s (.bool true)) := by
 refine den_of_aw Try.func10 rfl (Nat.le_of_ble_eq_true rfl) (fun w0 A hf => ?_)
 refine aw_seq_k (fun K1 hK1 => ?_)
 refine aw_region ?_
 refine x_pure rfl (p_assign_bad) ?_
 first | refine aops_end ?_ | refine aops_nil ?_
 refine hK1 _ ?_
 refine aw_seq_k (fun K2 hK2 => ?_)
 refine aw_region ?_
 refine x_pure rfl (p_build rfl Try.z31 Try.pl31 (by simp [enC, prC, spC, AV.cells, AV.one, Value.oneCell', splice, AV.kill, AV.clean, cleanL, AV.only]) rfl) ?_
 refine x_allocst hf rfl Try.z31 rfl Try.c31 rfl rfl rfl rfl (by simp [enC, prC, spC, AV.cells, AV.leaf, Value.oneCell', splice, AV.kill, AV.clean, cleanL, AV.only]) ?_
 first | refine aops_end ?_ | refine aops_nil ?_
 refine hK2 _ ?_
 refine aw_seq_k (fun K3 hK3 => ?_)
 refine aw_region ?_
 first | refine x_pure rfl (p_loads rfl Try.g31 Try.c31 rfl rfl) ?_ | refine x_pure rfl (p_loadsr rfl Try.g31 Try.c31 rfl rfl rfl) ?_
 refine x_step hf rfl (r_call rfl rfl Try.ent12 rfl ((show Den Try.prog _ _ (· = .tup [.sl 4 (List.map enC [((⟨#[97]⟩, ⟨#[98]⟩), (3, 1099511627776))]), .s (.int .i64 0)]) from den_is (den_nilh (grant_den [] (⟨#[97]⟩, ⟨#[98]⟩) 3 (by decide))) (by rw [show onB [] (⟨#[97]⟩, ⟨#[98]⟩) = false from by decide, show grantL [] (⟨#[97]⟩, ⟨#[98]⟩) 3 = [((⟨#[97]⟩, ⟨#[98]⟩), (3, 1099511627776))] from by decide]; rfl)))) ?_
 refine x_pure rfl (p_move rfl) ?_
 refine x_pure rfl (p_extract rfl rfl) ?_
 refine x_pure rfl (p_extract rfl rfl) ?_
 refine x_pure rfl (p_assign rfl) ?_
 refine x_pure rfl (p_assign rfl) ?_
 first | refine aops_end ?_ | refine aops_nil ?_
 refine hK3 _ ?_
 refine aw_seq_k (fun K4 hK4 => ?_)
 refine aw_region ?_
 refine x_pure rfl (p_move rfl) ?_
 first | refine x_pure rfl (p_loads rfl Try.g31 Try.c31 rfl rfl) ?_ | refine x_pure rfl (p_loadsr rfl Try.g31 Try.c31 rfl rfl rfl) ?_
 refine x_step hf rfl (r_call rfl rfl Try.ent12 rfl ((show Den Try.prog _ _ (· = .tup [.sl 4 (List.map enC []), .s (.int .i64 90)]) from den_is (grant_den [((⟨#[97]⟩, ⟨#[98]⟩), (3, 1099511627776))] (⟨#[97]⟩, ⟨#[98]⟩) 4 (by decide)) (by rw [show onB [((⟨#[97]⟩, ⟨#[98]⟩), (3, 1099511627776))] (⟨#[97]⟩, ⟨#[98]⟩) = true from by decide]; rfl)))) ?_
 refine x_pure rfl (p_move rfl) ?_
 refine x_pure rfl (p_extract rfl rfl) ?_
 refine x_pure rfl (p_extract rfl rfl) ?_
 refine x_pure rfl (p_assign_bad) ?_
 refine x_pure rfl (p_assign rfl) ?_
 first | refine aops_end ?_ | refine aops_nil ?_
 refine hK4 _ ?_
 refine aw_seq_k (fun K5 hK5 => ?_)
 refine aw_region ?_
 refine x_pure rfl (p_move rfl) ?_
 first | refine x_pure rfl (p_loads rfl Try.g31 Try.c31 rfl rfl) ?_ | refine x_pure rfl (p_loadsr rfl Try.g31 Try.c31 rfl rfl rfl) ?_
 refine x_step hf rfl (r_call rfl rfl Try.ent14 rfl ((show Den Try.prog _ _ (· = .tup [.sl 4 (List.map enC [((⟨#[97]⟩, ⟨#[98]⟩), (3, 5))]), .s (.int .i64 0)]) from den_is (revokeKeep_den [((⟨#[97]⟩, ⟨#[98]⟩), (3, 1099511627776))] (⟨#[97]⟩, ⟨#[98]⟩) 5 (by decide) (by decide)) (by rw [show onB [((⟨#[97]⟩, ⟨#[98]⟩), (3, 1099511627776))] (⟨#[97]⟩, ⟨#[98]⟩) = true from by decide, show revL [((⟨#[97]⟩, ⟨#[98]⟩), (3, 1099511627776))] (⟨#[97]⟩, ⟨#[98]⟩) 5 = [((⟨#[97]⟩, ⟨#[98]⟩), (3, 5))] from by decide]; rfl)))) ?_
 refine x_pure rfl (p_move rfl) ?_
 refine x_pure rfl (p_extract rfl rfl) ?_
 refine x_pure rfl (p_extract rfl rfl) ?_
 refine x_pure rfl (p_assign rfl) ?_
 refine x_pure rfl (p_assign rfl) ?_
 first | refine aops_end ?_ | refine aops_nil ?_
 refine hK5 _ ?_
 refine aw_seq_k (fun K6 hK6 => ?_)
 refine aw_region ?_
 refine x_pure rfl (p_move rfl) ?_
 first | refine x_pure rfl (p_loads rfl Try.g31 Try.c31 rfl rfl) ?_ | refine x_pure rfl (p_loadsr rfl Try.g31 Try.c31 rfl rfl rfl) ?_
 refine x_step hf rfl (r_call rfl rfl Try.ent14 rfl ((show Den Try.prog _ _ (· = .tup [.sl 4 (List.map enC []), .s (.int .i64 91)]) from den_is (revokeKeep_den [((⟨#[97]⟩, ⟨#[98]⟩), (3, 5))] (⟨#[97]⟩, ⟨#[98]⟩) 6 (by decide) (by decide)) (by rw [show onB [((⟨#[97]⟩, ⟨#[98]⟩), (3, 5))] (⟨#[97]⟩, ⟨#[98]⟩) = false from by decide]; rfl)))) ?_
 refine x_pure rfl (p_move rfl) ?_
 refine x_pure rfl (p_extract rfl rfl) ?_
 refine x_pure rfl (p_extract rfl rfl) ?_
 refine x_pure rfl (p_assign_bad) ?_
 refine x_pure rfl (p_assign rfl) ?_
 first | refine aops_end ?_ | refine aops_nil ?_
 refine hK6 _ ?_
 refine aw_seq_k (fun K7 hK7 => ?_)
 refine aw_region ?_
 refine x_pure rfl (p_move rfl) ?_
 first | refine x_pure rfl (p_loads rfl Try.g31 Try.c31 rfl rfl) ?_ | refine x_pure rfl (p_loadsr rfl Try.g31 Try.c31 rfl rfl rfl) ?_
 refine x_step hf rfl (r_call rfl rfl Try.ent12 rfl ((show Den Try.prog _ _ (· = .tup [.sl 4 (List.map enC [((⟨#[97]⟩, ⟨#[98]⟩), (3, 5)), ((⟨#[97]⟩, ⟨#[98]⟩), (9, 1099511627776))]), .s (.int .i64 0)]) from den_is ((grant_den [((⟨#[97]⟩, ⟨#[98]⟩), (3, 5))] (⟨#[97]⟩, ⟨#[98]⟩) 9 (by decide))) (by rw [show onB [((⟨#[97]⟩, ⟨#[98]⟩), (3, 5))] (⟨#[97]⟩, ⟨#[98]⟩) = false from by decide, show grantL [((⟨#[97]⟩, ⟨#[98]⟩), (3, 5))] (⟨#[97]⟩, ⟨#[98]⟩) 9 = [((⟨#[97]⟩, ⟨#[98]⟩), (3, 5)), ((⟨#[97]⟩, ⟨#[98]⟩), (9, 1099511627776))] from by decide]; rfl)))) ?_
 refine x_pure rfl (p_move rfl) ?_
 refine x_pure rfl (p_extract rfl rfl) ?_
 refine x_pure rfl (p_extract rfl rfl) ?_
 refine x_pure rfl (p_assign rfl) ?_
 refine x_pure rfl (p_assign rfl) ?_
 first | refine aops_end ?_ | refine aops_nil ?_
 refine hK7 _ ?_
 refine aw_seq_k (fun K8 hK8 => ?_)
 refine aw_region ?_
 refine x_pure rfl (p_move rfl) ?_
 first | refine x_pure rfl (p_loads rfl Try.g31 Try.c31 rfl rfl) ?_ | refine x_pure rfl (p_loadsr rfl Try.g31 Try.c31 rfl rfl rfl) ?_
 refine x_step hf rfl (r_call rfl rfl Try.ent22 rfl ((show Den Try.prog _ _ (· = .sl 2 (List.map spC [(3, 5), (9, 1099511627776)])) from den_is (periods_den [((⟨#[97]⟩, ⟨#[98]⟩), (3, 5)), ((⟨#[97]⟩, ⟨#[98]⟩), (9, 1099511627776))] (⟨#[97]⟩, ⟨#[98]⟩) (by decide)) (congrArg (fun z => AV.sl 2 (List.map spC z)) (by decide))))) ?_
 refine x_pure rfl (p_assign rfl) ?_
 first | refine aops_end ?_ | refine aops_nil ?_
 refine hK8 _ ?_
 refine aw_seq_k (fun K9 hK9 => ?_)
 refine aw_region ?_
 refine x_pure rfl (p_move rfl) ?_
 refine x_pure rfl (p_bin rfl rfl rfl) ?_
 refine x_pure rfl (p_move rfl) ?_
 refine x_guard_t rfl rfl rfl ?_
 refine x_pure rfl (p_move rfl) ?_
 refine x_guard_t rfl rfl rfl ?_
 refine x_pure rfl (p_bin rfl rfl rfl) ?_
 refine x_pure rfl (p_pick_t rfl rfl) ?_
 refine x_pure rfl (p_move rfl) ?_
 refine x_guard_t rfl rfl rfl ?_
 refine x_pure rfl (p_move rfl) ?_
 refine x_guard_t rfl rfl rfl ?_
 refine x_pure rfl (p_bin rfl rfl rfl) ?_
 refine x_pure rfl (p_pick_t rfl rfl) ?_
 refine x_pure rfl (p_move rfl) ?_
 refine x_guard_t rfl rfl rfl ?_
 refine x_pure rfl (p_move rfl) ?_
 refine x_guard_t rfl rfl rfl ?_
 refine x_pure rfl (p_bin rfl rfl rfl) ?_
 refine x_pure rfl (p_pick_t rfl rfl) ?_
 refine x_pure rfl (p_move rfl) ?_
 refine x_guard_t rfl rfl rfl ?_
 refine x_pure rfl (p_move rfl) ?_
 refine x_guard_t rfl rfl rfl ?_
 refine x_pure rfl (p_bin rfl rfl rfl) ?_
 refine x_pure rfl (p_pick_t rfl rfl) ?_
 refine x_pure rfl (p_move rfl) ?_
 refine x_guard_t rfl rfl rfl ?_
 refine x_pure rfl (p_move rfl) ?_
 refine x_guard_t rfl rfl rfl ?_
 first | refine x_pure rfl (p_len_sl rfl Try.e42) ?_ | refine x_pure rfl (p_len_own rfl Try.e42) ?_ | refine x_pure rfl (p_len_nil rfl Try.e42) ?_
 refine x_guard_t rfl rfl rfl ?_
 refine x_pure rfl (p_bin rfl rfl rfl) ?_
 refine x_pure rfl (p_pick_t rfl rfl) ?_
 refine x_pure rfl (p_move rfl) ?_
 refine x_guard_t rfl rfl rfl ?_
 refine x_pure rfl (p_move rfl) ?_
 refine x_guard_t rfl rfl rfl ?_
 first | refine x_pure rfl (p_idx_sl rfl rfl Try.e42 Try.c60 (by first | assumption | (refine ⟨by omega, ?_⟩; first | assumption | exact strs_at (by omega) | exact strs_at (by simp only [List.length_cons] at *; omega) | exact ints_at (by omega) | exact map_at (by omega) | exact list_at (by omega)) | exact ⟨by decide, rfl⟩)) ?_ | refine x_pure rfl (p_idx_own rfl rfl Try.e42 Try.c60 (by omega)) ?_
 refine x_guard_t rfl rfl rfl ?_
 first | refine x_pure rfl (p_loads rfl Try.g60 Try.c60 rfl rfl) ?_ | refine x_pure rfl (p_loadsr rfl Try.g60 Try.c60 rfl rfl rfl) ?_
 refine x_guard_t rfl rfl rfl ?_
 refine x_pure rfl (p_build rfl Try.z60 Try.pl60 (by simp [enC, prC, spC, AV.cells, AV.one, Value.oneCell', splice, AV.kill, AV.clean, cleanL, AV.only]) rfl) ?_
 refine x_guard_t rfl rfl rfl ?_
 refine x_pure rfl (p_eqagg rfl rfl Try.q60 rfl) ?_
 refine x_pure rfl (p_pick_t rfl rfl) ?_
 refine x_pure rfl (p_move rfl) ?_
 refine x_guard_t rfl rfl rfl ?_
 refine x_pure rfl (p_move rfl) ?_
 refine x_guard_t rfl rfl rfl ?_
 first | refine x_pure rfl (p_loads rfl Try.g31 Try.c31 rfl rfl) ?_ | refine x_pure rfl (p_loadsr rfl Try.g31 Try.c31 rfl rfl rfl) ?_
 refine x_guard_t rfl rfl rfl ?_
 refine x_step hf rfl (r_call rfl rfl Try.ent18 rfl ((show Den Try.prog _ _ (· = .s (.bool true)) from den_is (inForce_den [((⟨#[97]⟩, ⟨#[98]⟩), (3, 5)), ((⟨#[97]⟩, ⟨#[98]⟩), (9, 1099511627776))] (⟨#[97]⟩, ⟨#[98]⟩) (by decide)) (congrArg (fun z => AV.s (.bool z)) (by decide))))) ?_
 refine x_pure rfl (p_pick_t rfl rfl) ?_
 refine x_pure rfl (p_move rfl) ?_
 refine x_guard_t rfl rfl rfl ?_
 refine x_pure rfl (p_move rfl) ?_
 refine x_guard_t rfl rfl rfl ?_
 first | refine x_pure rfl (p_loads rfl Try.g31 Try.c31 rfl rfl) ?_ | refine x_pure rfl (p_loadsr rfl Try.g31 Try.c31 rfl rfl rfl) ?_
 refine x_guard_t rfl rfl rfl ?_
 refine x_step hf rfl (r_call rfl rfl Try.ent18 rfl ((show Den Try.prog _ _ (· = .s (.bool false)) from den_is (inForce_den [((⟨#[97]⟩, ⟨#[98]⟩), (3, 5))] (⟨#[97]⟩, ⟨#[98]⟩) (by decide)) (congrArg (fun z => AV.s (.bool z)) (by decide))))) ?_
 refine x_guard_t rfl rfl rfl ?_
 refine x_pure rfl (p_not rfl) ?_
 refine x_pure rfl (p_pick_t rfl rfl) ?_
 refine x_pure rfl (p_move rfl) ?_
 refine x_guard_t rfl rfl rfl ?_
 refine x_pure rfl (p_move rfl) ?_
 refine x_guard_t rfl rfl rfl ?_
 refine x_step hf rfl (r_call rfl rfl Try.ent28 rfl ((show Den Try.prog _ _ (· = .s (.bool true)) from den_is (rising_den [((⟨#[97]⟩, ⟨#[98]⟩), (3, 5)), ((⟨#[97]⟩, ⟨#[98]⟩), (9, 1099511627776))] (by decide) (by decide)) (congrArg (fun z => AV.s (.bool z)) (by decide))))) ?_
 refine x_pure rfl (p_pick_t rfl rfl) ?_
 refine x_pure rfl (p_move rfl) ?_
 refine x_guard_t rfl rfl rfl ?_
 refine x_pure rfl (p_move rfl) ?_
 refine x_guard_t rfl rfl rfl ?_
 refine x_step hf rfl (r_call rfl rfl Try.ent24 rfl ((show Den Try.prog _ _ (· = .sl 4 (List.map enC [])) from den_is (without_den [((⟨#[97]⟩, ⟨#[98]⟩), (3, 5)), ((⟨#[97]⟩, ⟨#[98]⟩), (9, 1099511627776))] ⟨#[97]⟩ (by decide)) (congrArg (fun z => AV.sl 4 (List.map enC z)) (by decide))))) ?_
 refine x_guard_t rfl rfl rfl ?_
 first | refine x_pure rfl (p_len_sl rfl Try.e26) ?_ | refine x_pure rfl (p_len_own rfl Try.e26) ?_ | refine x_pure rfl (p_len_nil rfl Try.e26) ?_
 refine x_guard_t rfl rfl rfl ?_
 refine x_pure rfl (p_bin rfl rfl rfl) ?_
 refine x_pure rfl (p_pick_t rfl rfl) ?_
 refine x_pure rfl (p_move rfl) ?_
 refine x_guard_t rfl rfl rfl ?_
 refine x_pure rfl (p_move rfl) ?_
 refine x_guard_t rfl rfl rfl ?_
 refine x_step hf rfl (r_call rfl rfl Try.ent26 rfl ((show Den Try.prog _ _ (· = .sl 4 (List.map enC [((⟨#[97]⟩, ⟨#[98]⟩), (9, 1099511627776))])) from den_is (after_den [((⟨#[97]⟩, ⟨#[98]⟩), (3, 5)), ((⟨#[97]⟩, ⟨#[98]⟩), (9, 1099511627776))] 5 (by decide)) (congrArg (fun z => AV.sl 4 (List.map enC z)) (by decide))))) ?_
 refine x_guard_t rfl rfl rfl ?_
 first | refine x_pure rfl (p_len_sl rfl Try.e26) ?_ | refine x_pure rfl (p_len_own rfl Try.e26) ?_ | refine x_pure rfl (p_len_nil rfl Try.e26) ?_
 refine x_guard_t rfl rfl rfl ?_
 refine x_pure rfl (p_bin rfl rfl rfl) ?_
 refine x_pure rfl (p_pick_t rfl rfl) ?_
 refine x_pure rfl (p_move rfl) ?_
 refine x_guard_t rfl rfl rfl ?_
 refine x_pure rfl (p_move rfl) ?_
 refine x_guard_t rfl rfl rfl ?_
 refine x_step hf rfl (r_call rfl rfl Try.ent35 rfl (one_den _ _ _ _)) ?_
 refine x_guard_t rfl rfl rfl ?_
 refine x_step hf rfl (r_buildSlice Try.ap26 rfl rfl rfl rfl (by simp [enC, prC, spC, AV.cells, AV.leaf, Value.oneCell', splice, AV.kill, AV.clean, cleanL, AV.only])) ?_
 refine x_guard_t rfl rfl rfl ?_
 refine x_step hf rfl (r_call rfl rfl Try.ent30 rfl ((show Den Try.prog _ _ (· = .s (.bool true)) from den_is (same9_den [((⟨#[97]⟩, ⟨#[98]⟩), (3, 5))] [((⟨#[97]⟩, ⟨#[98]⟩), (3, 5))] (by decide) (by decide)) (congrArg (fun z => AV.s (.bool z)) (by decide))))) ?_
 refine x_pure rfl (p_pick_t rfl rfl) ?_
 refine x_pure rfl (p_assign rfl) ?_
 first | refine aops_end ?_ | refine aops_nil ?_
 refine hK9 _ ?_
 refine aw_ret ?_
 refine ⟨_, rfl, ?_⟩
 rfl

theorem refSame9T_den (a b : List En) (h : a = b) (ha : a.length ≤ 9223372036854775807) : Den Try.prog 16 [.sl 4 (a.map enC), .sl 4 (b.map enC)] (· = .s (.bool true)) := by
  subst h
  exact (refSame9_den a a ha ha).mono fun r h => h.trans (by simp)
end Go.Proofs.Ytblbkjdfgpffpaa
