import Derived.Test.YtkjniggdldpnoaaHW4
import Derived.Test.YtkjniggdldpnoaaW6
set_option linter.unusedVariables false
set_option linter.unusedSimpArgs false
namespace Go.Proofs.Ytkjniggdldpnoaa
open Go Go.Abs

set_option maxRecDepth 20000 in
set_option maxHeartbeats 4000000 in
theorem refSortedS_den (l : List Stay) (hl : l.length * 32 ≤ 140737488351232)  : Den Try.prog 81 [.sl 4 (l.map stC)]  (· = .sl 4 ((sortS l).map stC)) := by
 refine den_of_aw Try.func81 rfl (Nat.le_of_ble_eq_true rfl) (fun w0 A hf => ?_)
 refine aw_seq_k (fun K1 hK1 => ?_)
 refine aw_region ?_
 refine x_pure rfl (p_assign_bad) ?_
 first | refine aops_end ?_ | refine aops_nil ?_
 refine hK1 _ ?_
 refine aw_seq_k (fun K2 hK2 => ?_)
 refine aw_region ?_
 refine x_pure rfl (p_nil (k := 4)) ?_
 first | refine aops_end ?_ | refine aops_nil ?_
 refine hK2 _ ?_
 refine aw_seq_k (fun K3 hK3 => ?_)
 refine aw_seq_k (fun K4 hK4 => ?_)
 refine aw_region ?_
 refine x_pure rfl (p_assign rfl) ?_
 first | refine aops_end ?_ | refine aops_nil ?_
 refine hK4 _ ?_
 refine aw_block ?_
 refine aw_loop (ι := Nat × List Stay) (fun (⟨k, out⟩ : Nat × List Stay) => ⟨49, [(0, .sl 4 (l.map stC)), (3, .sl 4 (out.map stC)), (4, .s (.int .i64 (k : Nat)))], []⟩) (fun (⟨k, out⟩ : Nat × List Stay) => k ≤ l.length ∧ out = (l.take k).foldl insA [] ∧ out.length = k) (fun (⟨k, out⟩ : Nat × List Stay) => l.length - k) (0, []) ?_ ?_ ?_
 · exact ⟨Nat.zero_le _, rfl, rfl⟩
 · exact le_of ⟨rfl, rfl, rfl, trivial⟩
 ·
  rintro ⟨k, out⟩ hC
  obtain ⟨h1, h2, h3⟩ := hC
  refine aw_seq_k (fun K5 hK5 => ?_)
  refine aw_seq_k (fun K6 hK6 => ?_)
  refine aw_region ?_
  refine x_pure rfl (p_move rfl) ?_
  refine x_pure rfl (p_move rfl) ?_
  first | refine x_pure rfl (p_len_sl rfl Try.e54) ?_ | refine x_pure rfl (p_len_own rfl Try.e54) ?_ | refine x_pure rfl (p_len_nil rfl Try.e54) ?_
  refine x_pure rfl (p_bin rfl rfl rfl) ?_
  first | refine aops_end ?_ | refine aops_nil ?_
  refine hK6 _ ?_
  refine aw_cond_s rfl (fun hc1 => ?_) (fun hc1 => ?_)
  ·
   try simp only [bs] at hc1
   refine aw_skip ?_
   refine hK5 _ ?_
   refine aw_seq_k (fun K7 hK7 => ?_)
   refine aw_block ?_
   refine aw_seq_k (fun K8 hK8 => ?_)
   refine aw_region ?_
   refine x_pure rfl (p_assign rfl) ?_
   first | refine aops_end ?_ | refine aops_nil ?_
   refine hK8 _ ?_
   refine aw_seq_k (fun K9 hK9 => ?_)
   refine aw_block ?_
   refine aw_loop (ι := Nat) (fun a => ⟨49, [(0, .sl 4 (l.map stC)), (3, .sl 4 (out.map stC)), (4, .s (.int .i64 (k : Nat))), (5, .s (.int .i64 (a : Nat)))], []⟩) (fun a => a ≤ out.length ∧ ∀ (j : Nat) (hj : j < out.length), j < a → ¬ cmpS l[k] out[j] < 0) (fun a => out.length - a) 0 ?_ ?_ ?_
   · exact ⟨Nat.zero_le _, by omega⟩
   · exact le_of ⟨rfl, rfl, rfl, rfl, trivial⟩
   ·
    rintro a hC
    obtain ⟨h4, h5⟩ := hC
    refine aw_seq_k (fun K10 hK10 => ?_)
    refine aw_seq_k (fun K11 hK11 => ?_)
    refine aw_draw hf Try.mixed (by kernel_rfl) rfl ?_
    refine d_pure [(5, _)] rfl rfl ⟨⟨rfl, rfl⟩, trivial⟩ rfl (p_move rfl) ?_
    refine d_pure [(3, _)] rfl rfl ⟨⟨rfl, rfl⟩, trivial⟩ rfl (p_move rfl) ?_
    first | refine d_pure [(14, _)] rfl rfl ⟨⟨rfl, rfl⟩, trivial⟩ rfl (p_len_sl rfl Try.e54) ?_ | refine d_pure [(14, _)] rfl rfl ⟨⟨rfl, rfl⟩, trivial⟩ rfl (p_len_own rfl Try.e54) ?_ | refine d_pure [(14, _)] rfl rfl ⟨⟨rfl, rfl⟩, trivial⟩ rfl (p_len_nil rfl Try.e54) ?_
    refine d_pure [(13, _), (15, _)] rfl rfl ⟨⟨rfl, rfl⟩, ⟨rfl, rfl⟩, trivial⟩ rfl (p_bin rfl rfl rfl) ?_
    refine d_pure [(16, _)] rfl rfl ⟨⟨rfl, rfl⟩, trivial⟩ rfl (p_move rfl) ?_
    refine d_split 17 true rfl (fun hg2 => ?_) (fun hg2 => ?_)
    ·
     try simp only [bs] at hg2
     refine d_pure [(0, _)] rfl rfl ⟨⟨rfl, rfl⟩, trivial⟩ rfl (p_move rfl) ?_
     refine d_pure [(4, _)] rfl rfl ⟨⟨rfl, rfl⟩, trivial⟩ rfl (p_move rfl) ?_
     first | refine d_pure [(18, _), (19, _)] rfl rfl ⟨⟨rfl, rfl⟩, ⟨rfl, rfl⟩, trivial⟩ rfl (p_idx_sl rfl rfl Try.e54 Try.c52 (by first | assumption | (refine ⟨by omega, ?_⟩; first | assumption | exact strs_at (by omega) | exact strs_at (by simp only [List.length_cons] at *; omega) | exact ints_at (by omega) | exact map_at (by omega) | exact list_at (by omega)) | exact ⟨by decide, rfl⟩)) ?_ | refine d_pure [(18, _), (19, _)] rfl rfl ⟨⟨rfl, rfl⟩, ⟨rfl, rfl⟩, trivial⟩ rfl (p_idx_own rfl rfl Try.e54 Try.c52 (by omega)) ?_
     first | refine d_pure [(20, _)] rfl rfl ⟨⟨rfl, rfl⟩, trivial⟩ rfl (p_loads rfl Try.g52 Try.c52 rfl rfl) ?_ | refine d_pure [(20, _)] rfl rfl ⟨⟨rfl, rfl⟩, trivial⟩ rfl (p_loadsr rfl Try.g52 Try.c52 rfl rfl rfl) ?_
     refine d_pure [(3, _)] rfl rfl ⟨⟨rfl, rfl⟩, trivial⟩ rfl (p_move rfl) ?_
     refine d_pure [(5, _)] rfl rfl ⟨⟨rfl, rfl⟩, trivial⟩ rfl (p_move rfl) ?_
     first | refine d_pure [(22, _), (23, _)] rfl rfl ⟨⟨rfl, rfl⟩, ⟨rfl, rfl⟩, trivial⟩ rfl (p_idx_sl rfl rfl Try.e54 Try.c52 (by first | assumption | (refine ⟨by omega, ?_⟩; first | assumption | exact strs_at (by omega) | exact strs_at (by simp only [List.length_cons] at *; omega) | exact ints_at (by omega) | exact map_at (by omega) | exact list_at (by omega)) | exact ⟨by decide, rfl⟩)) ?_ | refine d_pure [(22, _), (23, _)] rfl rfl ⟨⟨rfl, rfl⟩, ⟨rfl, rfl⟩, trivial⟩ rfl (p_idx_own rfl rfl Try.e54 Try.c52 (by omega)) ?_
     first | refine d_pure [(24, _)] rfl rfl ⟨⟨rfl, rfl⟩, trivial⟩ rfl (p_loads rfl Try.g52 Try.c52 rfl rfl) ?_ | refine d_pure [(24, _)] rfl rfl ⟨⟨rfl, rfl⟩, trivial⟩ rfl (p_loadsr rfl Try.g52 Try.c52 rfl rfl rfl) ?_
     refine d_rstep [(21, _), (25, _)] rfl rfl ⟨⟨rfl, rfl⟩, ⟨rfl, rfl⟩, trivial⟩ rfl (r_call rfl rfl Try.ent34 rfl (aheadS_den l[k] out[a])) ?_
     refine d_pure [(26, _)] rfl rfl ⟨⟨rfl, rfl⟩, trivial⟩ rfl (p_not rfl) ?_
     refine d_pure [(17, _), (27, _)] rfl rfl ⟨⟨rfl, rfl⟩, ⟨rfl, rfl⟩, trivial⟩ rfl (p_pick_t rfl rfl) ?_
     refine lex_end (sl' := [(0, _), (3, _), (4, _), (5, _), (28, _)]) rfl ⟨rfl, rfl, rfl, rfl, rfl, trivial⟩ rfl ?_
     refine hK11 _ ?_
     refine aw_cond_s rfl (fun hc3 => ?_) (fun hc3 => ?_)
     ·
      try simp only [bs] at hc3
      refine aw_skip ?_
      refine hK10 _ ?_
      refine aw_block ?_
      refine aw_region ?_
      refine x_pure rfl (p_move rfl) ?_
      first | refine x_pure rfl (p_add rfl rfl (by omega) (by omega)) ?_ | refine x_pure rfl (p_bin rfl rfl rfl) ?_
      refine x_pure rfl (p_assign rfl) ?_
      first | refine aops_end ?_ | refine aops_nil ?_
      exact ⟨a+1, ⟨by omega, fun j hj hja => by
       by_cases e : j = a
       · subst e; omega
       · exact h5 j hj (by omega)⟩, by omega, le_of ⟨rfl, rfl, rfl, rfl, trivial⟩⟩
     ·
      try simp only [bs] at hc3
      refine aw_exit ?_
      refine hK9 _ ?_
      refine aw_seq_k (fun K12 hK12 => ?_)
      refine aw_region ?_
      have hins := insA_at l[k] out a (by omega) h5 (fun h => by omega)
      refine y_buildSlice hf rfl rfl rfl Try.ap54 rfl rfl rfl rfl (by simp [stC, AV.cells, AV.leaf, Value.oneCell', splice, AV.kill, AV.clean, cleanL, AV.only]) ?_
      refine x_pure rfl (p_move rfl) ?_
      refine x_pure rfl (p_move rfl) ?_
      refine x_pure rfl (p_slice_sl rfl Try.e54 Try.c52 rfl (bnd_z rfl (by omega)) (by omega) (by simp only [List.length_map, Int.toNat_natCast] <;> omega) (slice_to (k := a) (by omega))) ?_
      refine x_append hf rfl Try.ap54 rfl rfl rfl (.inl rfl) (by first | rfl | (simp only [List.length_append, List.length_map, List.length_cons, List.length_nil, List.length_take] <;> omega)) rfl (by first | rfl | simp [asrc, look]) (by first | (simp only [maxLen, List.length_map, List.length_append, List.length_cons, List.length_nil]; omega) | (simp [maxLen] <;> omega)) (by first | (simp only [List.length_map, List.length_append, List.length_cons, List.length_nil]; omega) | (simp <;> omega)) ?_
      refine aops_le (le_of (sl' := [(0, _), (3, _), (4, _), (5, _), (35, _)]) ⟨rfl, rfl, rfl, rfl, rfl, trivial⟩) ?_
      refine x_pure rfl (p_assign rfl) ?_
      first | refine aops_end ?_ | refine aops_nil ?_
      refine hK12 _ ?_
      refine aw_seq_k (fun K13 hK13 => ?_)
      refine aw_region ?_
      refine x_pure rfl (p_move rfl) ?_
      refine x_pure rfl (p_move rfl) ?_
      refine x_pure rfl (p_move rfl) ?_
      first | refine x_pure rfl (p_idx_sl rfl rfl Try.e54 Try.c52 (by first | assumption | (refine ⟨by omega, ?_⟩; first | assumption | exact strs_at (by omega) | exact strs_at (by simp only [List.length_cons] at *; omega) | exact ints_at (by omega) | exact map_at (by omega) | exact list_at (by omega)) | exact ⟨by decide, rfl⟩)) ?_ | refine x_pure rfl (p_idx_own rfl rfl Try.e54 Try.c52 (by omega)) ?_
      first | refine x_pure rfl (p_loads rfl Try.g52 Try.c52 rfl rfl) ?_ | refine x_pure rfl (p_loadsr rfl Try.g52 Try.c52 rfl rfl rfl) ?_
      refine x_step hf rfl (r_buildSlice Try.ap54 rfl rfl rfl rfl (by simp [stC, AV.cells, AV.leaf, Value.oneCell', splice, AV.kill, AV.clean, cleanL, AV.only])) ?_
      refine x_append hf rfl Try.ap54 rfl rfl rfl (.inl rfl) (by first | rfl | (simp only [List.length_append, List.length_map, List.length_cons, List.length_nil, List.length_take] <;> omega)) rfl (by first | rfl | simp [asrc, look]) (by first | (simp only [maxLen, List.length_map, List.length_append, List.length_cons, List.length_nil]; omega) | (simp [maxLen] <;> omega)) (by first | (simp only [List.length_map, List.length_append, List.length_cons, List.length_nil]; omega) | (simp <;> omega)) ?_
      refine aops_le (le_of (sl' := [(0, _), (3, _), (4, _), (5, _), (42, _)]) ⟨rfl, rfl, rfl, rfl, rfl, trivial⟩) ?_
      refine x_pure rfl (p_assign rfl) ?_
      first | refine aops_end ?_ | refine aops_nil ?_
      refine hK13 _ ?_
      refine aw_region ?_
      refine x_pure rfl (p_move rfl) ?_
      refine x_pure rfl (p_move rfl) ?_
      refine x_pure rfl (p_move rfl) ?_
      refine x_pure rfl (p_slice_sl rfl Try.e54 Try.c52 (bnd_z rfl (by omega)) rfl (by simp only [List.length_map, Int.toNat_natCast] <;> omega) (by omega) (slice_from (k := a) (by omega))) ?_
      refine x_append hf rfl Try.ap54 rfl rfl rfl (.inl rfl) (by first | rfl | (simp only [List.length_append, List.length_map, List.length_cons, List.length_nil, List.length_take] <;> omega)) rfl (by first | rfl | simp [asrc, look]) (by first | (simp only [maxLen, List.length_map, List.length_append, List.length_cons, List.length_nil]; omega) | (simp [maxLen] <;> omega)) (by first | (simp only [List.length_map, List.length_append, List.length_cons, List.length_nil]; omega) | (simp <;> omega)) ?_
      refine aops_le (le_of (sl' := [(0, _), (4, _), (47, _)]) ⟨rfl, rfl, rfl, trivial⟩) ?_
      refine x_pure rfl (p_assign rfl) ?_
      first | refine aops_end ?_ | refine aops_nil ?_
      refine hK7 _ ?_
      refine aw_region ?_
      refine aops_le (le_freeze (sl' := [(0, .sl 4 (l.map stC)), (3, .sl 4 ((insA out l[k]).map stC)), (4, .s (.int .i64 (k : Nat)))]) ⟨⟨_, rfl, rfl⟩, ⟨_, rfl, (only_whole (g := 31) rfl (by simp only [List.length_append, List.length_map, List.length_cons, List.length_nil, List.length_take])).trans (by rw [hins]; first | (simp; done) | (simp; rfl))⟩, ⟨_, rfl, rfl⟩, trivial⟩) ?_
      refine x_pure rfl (p_move rfl) ?_
      first | refine x_pure rfl (p_add rfl rfl (by omega) (by omega)) ?_ | refine x_pure rfl (p_bin rfl rfl rfl) ?_
      refine x_pure rfl (p_assign rfl) ?_
      first | refine aops_end ?_ | refine aops_nil ?_
      exact ⟨(k + 1, insA out l[k]), ⟨by omega, by rw [take_foldl l insA [] k (by omega), ← h2], by rw [(insA_perm _ _).length_eq, List.length_cons, h3]⟩, by simp only; omega, le_of ⟨rfl, rfl, rfl, trivial⟩⟩
    ·
     try simp only [bs] at hg2
     refine d_skip rfl rfl ?_
     refine d_skip rfl rfl ?_
     refine d_skip rfl rfl ?_
     refine d_skip rfl rfl ?_
     refine d_skip rfl rfl ?_
     refine d_skip rfl rfl ?_
     refine d_skip rfl rfl ?_
     refine d_skip rfl rfl ?_
     refine d_skip rfl rfl ?_
     refine d_skip rfl rfl ?_
     refine d_pure [(17, _), (27, _)] rfl rfl ⟨⟨rfl, rfl⟩, ⟨rfl, rfl⟩, trivial⟩ rfl (p_pick_f rfl rfl) ?_
     refine lex_end (sl' := [(0, _), (3, _), (4, _), (5, _), (28, _)]) rfl ⟨rfl, rfl, rfl, rfl, rfl, trivial⟩ rfl ?_
     refine hK11 _ ?_
     refine aw_cond_f rfl ?_
     refine aw_exit ?_
     refine hK9 _ ?_
     refine aw_seq_k (fun K14 hK14 => ?_)
     refine aw_region ?_
     have hins := insA_at l[k] out a (by omega) h5 (fun h => by omega)
     refine y_buildSlice hf rfl rfl rfl Try.ap54 rfl rfl rfl rfl (by simp [stC, AV.cells, AV.leaf, Value.oneCell', splice, AV.kill, AV.clean, cleanL, AV.only]) ?_
     refine x_pure rfl (p_move rfl) ?_
     refine x_pure rfl (p_move rfl) ?_
     refine x_pure rfl (p_slice_sl rfl Try.e54 Try.c52 rfl (bnd_z rfl (by omega)) (by omega) (by simp only [List.length_map, Int.toNat_natCast] <;> omega) (slice_to (k := a) (by omega))) ?_
     refine x_append hf rfl Try.ap54 rfl rfl rfl (.inl rfl) (by first | rfl | (simp only [List.length_append, List.length_map, List.length_cons, List.length_nil, List.length_take] <;> omega)) rfl (by first | rfl | simp [asrc, look]) (by first | (simp only [maxLen, List.length_map, List.length_append, List.length_cons, List.length_nil]; omega) | (simp [maxLen] <;> omega)) (by first | (simp only [List.length_map, List.length_append, List.length_cons, List.length_nil]; omega) | (simp <;> omega)) ?_
     refine aops_le (le_of (sl' := [(0, _), (3, _), (4, _), (5, _), (35, _)]) ⟨rfl, rfl, rfl, rfl, rfl, trivial⟩) ?_
     refine x_pure rfl (p_assign rfl) ?_
     first | refine aops_end ?_ | refine aops_nil ?_
     refine hK14 _ ?_
     refine aw_seq_k (fun K15 hK15 => ?_)
     refine aw_region ?_
     refine x_pure rfl (p_move rfl) ?_
     refine x_pure rfl (p_move rfl) ?_
     refine x_pure rfl (p_move rfl) ?_
     first | refine x_pure rfl (p_idx_sl rfl rfl Try.e54 Try.c52 (by first | assumption | (refine ⟨by omega, ?_⟩; first | assumption | exact strs_at (by omega) | exact strs_at (by simp only [List.length_cons] at *; omega) | exact ints_at (by omega) | exact map_at (by omega) | exact list_at (by omega)) | exact ⟨by decide, rfl⟩)) ?_ | refine x_pure rfl (p_idx_own rfl rfl Try.e54 Try.c52 (by omega)) ?_
     first | refine x_pure rfl (p_loads rfl Try.g52 Try.c52 rfl rfl) ?_ | refine x_pure rfl (p_loadsr rfl Try.g52 Try.c52 rfl rfl rfl) ?_
     refine x_step hf rfl (r_buildSlice Try.ap54 rfl rfl rfl rfl (by simp [stC, AV.cells, AV.leaf, Value.oneCell', splice, AV.kill, AV.clean, cleanL, AV.only])) ?_
     refine x_append hf rfl Try.ap54 rfl rfl rfl (.inl rfl) (by first | rfl | (simp only [List.length_append, List.length_map, List.length_cons, List.length_nil, List.length_take] <;> omega)) rfl (by first | rfl | simp [asrc, look]) (by first | (simp only [maxLen, List.length_map, List.length_append, List.length_cons, List.length_nil]; omega) | (simp [maxLen] <;> omega)) (by first | (simp only [List.length_map, List.length_append, List.length_cons, List.length_nil]; omega) | (simp <;> omega)) ?_
     refine aops_le (le_of (sl' := [(0, _), (3, _), (4, _), (5, _), (42, _)]) ⟨rfl, rfl, rfl, rfl, rfl, trivial⟩) ?_
     refine x_pure rfl (p_assign rfl) ?_
     first | refine aops_end ?_ | refine aops_nil ?_
     refine hK15 _ ?_
     refine aw_region ?_
     refine x_pure rfl (p_move rfl) ?_
     refine x_pure rfl (p_move rfl) ?_
     refine x_pure rfl (p_move rfl) ?_
     refine x_pure rfl (p_slice_sl rfl Try.e54 Try.c52 (bnd_z rfl (by omega)) rfl (by simp only [List.length_map, Int.toNat_natCast] <;> omega) (by omega) (slice_from (k := a) (by omega))) ?_
     refine x_append hf rfl Try.ap54 rfl rfl rfl (.inl rfl) (by first | rfl | (simp only [List.length_append, List.length_map, List.length_cons, List.length_nil, List.length_take] <;> omega)) rfl (by first | rfl | simp [asrc, look]) (by first | (simp only [maxLen, List.length_map, List.length_append, List.length_cons, List.length_nil]; omega) | (simp [maxLen] <;> omega)) (by first | (simp only [List.length_map, List.length_append, List.length_cons, List.length_nil]; omega) | (simp <;> omega)) ?_
     refine aops_le (le_of (sl' := [(0, _), (4, _), (47, _)]) ⟨rfl, rfl, rfl, trivial⟩) ?_
     refine x_pure rfl (p_assign rfl) ?_
     first | refine aops_end ?_ | refine aops_nil ?_
     refine hK7 _ ?_
     refine aw_region ?_
     refine aops_le (le_freeze (sl' := [(0, .sl 4 (l.map stC)), (3, .sl 4 ((insA out l[k]).map stC)), (4, .s (.int .i64 (k : Nat)))]) ⟨⟨_, rfl, rfl⟩, ⟨_, rfl, (only_whole (g := 31) rfl (by simp only [List.length_append, List.length_map, List.length_cons, List.length_nil, List.length_take])).trans (by rw [hins]; first | (simp; done) | (simp; rfl))⟩, ⟨_, rfl, rfl⟩, trivial⟩) ?_
     refine x_pure rfl (p_move rfl) ?_
     first | refine x_pure rfl (p_add rfl rfl (by omega) (by omega)) ?_ | refine x_pure rfl (p_bin rfl rfl rfl) ?_
     refine x_pure rfl (p_assign rfl) ?_
     first | refine aops_end ?_ | refine aops_nil ?_
     exact ⟨(k + 1, insA out l[k]), ⟨by omega, by rw [take_foldl l insA [] k (by omega), ← h2], by rw [(insA_perm _ _).length_eq, List.length_cons, h3]⟩, by simp only; omega, le_of ⟨rfl, rfl, rfl, trivial⟩⟩
  ·
   try simp only [bs] at hc1
   refine aw_exit ?_
   refine hK3 _ ?_
   refine aw_seq_k (fun K16 hK16 => ?_)
   refine aw_region ?_
   refine x_pure rfl (p_move rfl) ?_
   refine x_pure rfl (p_assign rfl) ?_
   first | refine aops_end ?_ | refine aops_nil ?_
   refine hK16 _ ?_
   refine aw_ret ?_
   refine ⟨_, rfl, ?_⟩
   show AV.sl 4 (out.map stC) = _
   rw [h2, List.take_of_length_le (by omega)]; rfl

set_option maxRecDepth 20000 in
set_option maxHeartbeats 4000000 in
theorem refCutS_den (l : List Stay) (b : List Sp) (hl : l.length * 32 ≤ 140737488351232) (hb0 : b.length ≤ 1000000000) (hlb : l.length * (normL b).length * 32 ≤ 140737488351232)  : Den Try.prog 50 [.sl 4 (l.map stC), .sl 2 (b.map spC)]  (· = .sl 4 ((cutS l b).map stC)) := by
 have hnb := norm_len b
 refine den_of_aw Try.func50 rfl (Nat.le_of_ble_eq_true rfl) (fun w0 A hf => ?_)
 refine aw_seq_k (fun K1 hK1 => ?_)
 refine aw_region ?_
 refine x_pure rfl (p_assign_bad) ?_
 first | refine aops_end ?_ | refine aops_nil ?_
 refine hK1 _ ?_
 refine aw_seq_k (fun K2 hK2 => ?_)
 refine aw_region ?_
 refine x_nil hf 4 rfl rfl rfl ?_
 first | refine aops_end ?_ | refine aops_nil ?_
 refine hK2 _ ?_
 refine aw_seq_k (fun K3 hK3 => ?_)
 refine aw_region ?_
 refine x_pure rfl (p_move rfl) ?_
 refine x_step hf rfl (r_call rfl rfl Try.ent25 rfl (refNorm_den b (by omega))) ?_
 refine x_pure rfl (p_assign rfl) ?_
 first | refine aops_end ?_ | refine aops_nil ?_
 refine hK3 _ ?_
 refine aw_seq_k (fun K4 hK4 => ?_)
 refine aw_seq_k (fun K5 hK5 => ?_)
 refine aw_region ?_
 refine x_pure rfl (p_assign rfl) ?_
 first | refine aops_end ?_ | refine aops_nil ?_
 refine hK5 _ ?_
 refine aw_block ?_
 refine aw_loop (ι := Nat × List Stay) (fun (⟨k, out⟩ : Nat × List Stay) => ⟨68, [(0, .sl 4 (l.map stC)), (5, .own 5 4 0 out.length), (6, .sl 2 ((normL b).map spC)), (7, .s (.int .i64 (k : Nat)))], [(5, .buf 4 (out.map stC))]⟩) (fun (⟨k, out⟩ : Nat × List Stay) => k ≤ l.length ∧ out = cutRaw (l.take k) (normL b) ∧ out.length ≤ k * (normL b).length) (fun (⟨k, out⟩ : Nat × List Stay) => l.length - k) (0, []) ?_ ?_ ?_
 · exact ⟨Nat.zero_le _, rfl, Nat.zero_le _⟩
 · exact le_of ⟨rfl, rfl, rfl, rfl, trivial⟩
 ·
  rintro ⟨k, out⟩ hC
  obtain ⟨h1, h2, h3⟩ := hC
  refine aw_seq_k (fun K6 hK6 => ?_)
  refine aw_seq_k (fun K7 hK7 => ?_)
  refine aw_region ?_
  refine x_pure rfl (p_move rfl) ?_
  refine x_pure rfl (p_move rfl) ?_
  first | refine x_pure rfl (p_len_sl rfl Try.e54) ?_ | refine x_pure rfl (p_len_own rfl Try.e54) ?_ | refine x_pure rfl (p_len_nil rfl Try.e54) ?_
  refine x_pure rfl (p_bin rfl rfl rfl) ?_
  first | refine aops_end ?_ | refine aops_nil ?_
  refine hK7 _ ?_
  refine aw_cond_s rfl (fun hc1 => ?_) (fun hc1 => ?_)
  ·
   try simp only [bs] at hc1
   refine aw_skip ?_
   refine hK6 _ ?_
   refine aw_seq_k (fun K8 hK8 => ?_)
   refine aw_block ?_
   refine aw_seq_k (fun K9 hK9 => ?_)
   refine aw_region ?_
   refine x_pure rfl (p_assign rfl) ?_
   first | refine aops_end ?_ | refine aops_nil ?_
   refine hK9 _ ?_
   refine aw_block ?_
   refine aw_loop (ι := Nat × List Stay) (fun (⟨j, o⟩ : Nat × List Stay) => ⟨68, [(0, .sl 4 (l.map stC)), (5, .own 5 4 0 o.length), (6, .sl 2 ((normL b).map spC)), (7, .s (.int .i64 (k : Nat))), (8, .s (.int .i64 (j : Nat)))], [(5, .buf 4 (o.map stC))]⟩) (fun (⟨j, o⟩ : Nat × List Stay) => j ≤ (normL b).length ∧ o = out ++ ((normL b).take j).flatMap (meetS l[k]) ∧ o.length ≤ k * (normL b).length + j) (fun (⟨j, o⟩ : Nat × List Stay) => (normL b).length - j) (0, out) ?_ ?_ ?_
   · exact ⟨Nat.zero_le _, by simp, by omega⟩
   · exact le_of ⟨rfl, rfl, rfl, rfl, rfl, trivial⟩
   ·
    rintro ⟨j, o⟩ hC
    obtain ⟨h4, h5, h6⟩ := hC
    refine aw_seq_k (fun K10 hK10 => ?_)
    refine aw_seq_k (fun K11 hK11 => ?_)
    refine aw_region ?_
    refine x_pure rfl (p_move rfl) ?_
    refine x_pure rfl (p_move rfl) ?_
    first | refine x_pure rfl (p_len_sl rfl Try.e31) ?_ | refine x_pure rfl (p_len_own rfl Try.e31) ?_ | refine x_pure rfl (p_len_nil rfl Try.e31) ?_
    refine x_pure rfl (p_bin rfl rfl rfl) ?_
    first | refine aops_end ?_ | refine aops_nil ?_
    refine hK11 _ ?_
    refine aw_cond_s rfl (fun hc2 => ?_) (fun hc2 => ?_)
    ·
     try simp only [bs] at hc2
     refine aw_skip ?_
     refine hK10 _ ?_
     refine aw_seq_k (fun K12 hK12 => ?_)
     refine aw_block ?_
     refine aw_seq_k (fun K13 hK13 => ?_)
     refine aw_draw hf Try.mixed (by kernel_rfl) rfl ?_
     have hm := Nat.mul_le_mul_right (normL b).length (show k + 1 ≤ l.length by omega)
     rw [Nat.add_mul, Nat.one_mul] at hm
     have hj : j < (normL b).length := by omega
     have hk : k < l.length := by omega
     refine d_pure [(0, _)] rfl rfl ⟨⟨rfl, rfl⟩, trivial⟩ rfl (p_move rfl) ?_
     refine d_pure [(7, _)] rfl rfl ⟨⟨rfl, rfl⟩, trivial⟩ rfl (p_move rfl) ?_
     first | refine d_pure [(25, _), (26, _)] rfl rfl ⟨⟨rfl, rfl⟩, ⟨rfl, rfl⟩, trivial⟩ rfl (p_idx_sl rfl rfl Try.e54 Try.c52 (by first | assumption | (refine ⟨by omega, ?_⟩; first | assumption | exact strs_at (by omega) | exact strs_at (by simp only [List.length_cons] at *; omega) | exact ints_at (by omega) | exact map_at (by omega) | exact list_at (by omega)) | exact ⟨by decide, rfl⟩)) ?_ | refine d_pure [(25, _), (26, _)] rfl rfl ⟨⟨rfl, rfl⟩, ⟨rfl, rfl⟩, trivial⟩ rfl (p_idx_own rfl rfl Try.e54 Try.c52 (by omega)) ?_
     first | refine d_pure [(27, _)] rfl rfl ⟨⟨rfl, rfl⟩, trivial⟩ rfl (p_fld_adr rfl Try.fd52_0 Try.c3 rfl) ?_ | refine d_pure [(27, _)] rfl rfl ⟨⟨rfl, rfl⟩, trivial⟩ rfl (p_fld_ref rfl Try.fd52_0 Try.c3 rfl) ?_
     first | refine d_pure [(28, _)] rfl rfl ⟨⟨rfl, rfl⟩, trivial⟩ rfl (p_load1 rfl Try.g3 rfl) ?_ | refine d_pure [(28, _)] rfl rfl ⟨⟨rfl, rfl⟩, trivial⟩ rfl (p_load1r rfl Try.g3 rfl rfl) ?_ | refine d_pure [(28, _)] rfl rfl ⟨⟨rfl, rfl⟩, trivial⟩ rfl (p_load1r rfl Try.g3 rfl (strs_ref (by simp only [List.length_cons] at *; omega))) ?_ | refine d_pure [(28, _)] rfl rfl ⟨⟨rfl, rfl⟩, trivial⟩ rfl (p_load1r rfl Try.g3 rfl (strs_ref (by omega))) ?_
     refine d_pure [(6, _)] rfl rfl ⟨⟨rfl, rfl⟩, trivial⟩ rfl (p_move rfl) ?_
     refine d_pure [(8, _)] rfl rfl ⟨⟨rfl, rfl⟩, trivial⟩ rfl (p_move rfl) ?_
     first | refine d_pure [(30, _), (31, _)] rfl rfl ⟨⟨rfl, rfl⟩, ⟨rfl, rfl⟩, trivial⟩ rfl (p_idx_sl rfl rfl Try.e31 Try.c42 (by first | assumption | (refine ⟨by omega, ?_⟩; first | assumption | exact strs_at (by omega) | exact strs_at (by simp only [List.length_cons] at *; omega) | exact ints_at (by omega) | exact map_at (by omega) | exact list_at (by omega)) | exact ⟨by decide, rfl⟩)) ?_ | refine d_pure [(30, _), (31, _)] rfl rfl ⟨⟨rfl, rfl⟩, ⟨rfl, rfl⟩, trivial⟩ rfl (p_idx_own rfl rfl Try.e31 Try.c42 (by omega)) ?_
     first | refine d_pure [(32, _)] rfl rfl ⟨⟨rfl, rfl⟩, trivial⟩ rfl (p_fld_adr rfl Try.fd42_0 Try.c3 rfl) ?_ | refine d_pure [(32, _)] rfl rfl ⟨⟨rfl, rfl⟩, trivial⟩ rfl (p_fld_ref rfl Try.fd42_0 Try.c3 rfl) ?_
     first | refine d_pure [(33, _)] rfl rfl ⟨⟨rfl, rfl⟩, trivial⟩ rfl (p_load1 rfl Try.g3 rfl) ?_ | refine d_pure [(33, _)] rfl rfl ⟨⟨rfl, rfl⟩, trivial⟩ rfl (p_load1r rfl Try.g3 rfl rfl) ?_ | refine d_pure [(33, _)] rfl rfl ⟨⟨rfl, rfl⟩, trivial⟩ rfl (p_load1r rfl Try.g3 rfl (strs_ref (by simp only [List.length_cons] at *; omega))) ?_ | refine d_pure [(33, _)] rfl rfl ⟨⟨rfl, rfl⟩, trivial⟩ rfl (p_load1r rfl Try.g3 rfl (strs_ref (by omega))) ?_
     refine d_pure [(29, _), (34, _)] rfl rfl ⟨⟨rfl, rfl⟩, ⟨rfl, rfl⟩, trivial⟩ rfl (p_max rfl rfl) ?_
     refine d_pure [(35, _)] rfl rfl ⟨⟨rfl, rfl⟩, trivial⟩ rfl (p_assign rfl) ?_
     refine lex_end (sl' := [(0, _), (5, _), (6, _), (7, _), (8, _), (9, _)]) rfl ⟨rfl, rfl, rfl, rfl, rfl, rfl, trivial⟩ rfl ?_
     refine hK13 _ ?_
     refine aw_seq_k (fun K14 hK14 => ?_)
     refine aw_draw hf Try.mixed (by kernel_rfl) rfl ?_
     refine d_pure [(0, _)] rfl rfl ⟨⟨rfl, rfl⟩, trivial⟩ rfl (p_move rfl) ?_
     refine d_pure [(7, _)] rfl rfl ⟨⟨rfl, rfl⟩, trivial⟩ rfl (p_move rfl) ?_
     first | refine d_pure [(36, _), (37, _)] rfl rfl ⟨⟨rfl, rfl⟩, ⟨rfl, rfl⟩, trivial⟩ rfl (p_idx_sl rfl rfl Try.e54 Try.c52 (by first | assumption | (refine ⟨by omega, ?_⟩; first | assumption | exact strs_at (by omega) | exact strs_at (by simp only [List.length_cons] at *; omega) | exact ints_at (by omega) | exact map_at (by omega) | exact list_at (by omega)) | exact ⟨by decide, rfl⟩)) ?_ | refine d_pure [(36, _), (37, _)] rfl rfl ⟨⟨rfl, rfl⟩, ⟨rfl, rfl⟩, trivial⟩ rfl (p_idx_own rfl rfl Try.e54 Try.c52 (by omega)) ?_
     first | refine d_pure [(38, _)] rfl rfl ⟨⟨rfl, rfl⟩, trivial⟩ rfl (p_fld_adr rfl Try.fd52_1 Try.c3 rfl) ?_ | refine d_pure [(38, _)] rfl rfl ⟨⟨rfl, rfl⟩, trivial⟩ rfl (p_fld_ref rfl Try.fd52_1 Try.c3 rfl) ?_
     first | refine d_pure [(39, _)] rfl rfl ⟨⟨rfl, rfl⟩, trivial⟩ rfl (p_load1 rfl Try.g3 rfl) ?_ | refine d_pure [(39, _)] rfl rfl ⟨⟨rfl, rfl⟩, trivial⟩ rfl (p_load1r rfl Try.g3 rfl rfl) ?_ | refine d_pure [(39, _)] rfl rfl ⟨⟨rfl, rfl⟩, trivial⟩ rfl (p_load1r rfl Try.g3 rfl (strs_ref (by simp only [List.length_cons] at *; omega))) ?_ | refine d_pure [(39, _)] rfl rfl ⟨⟨rfl, rfl⟩, trivial⟩ rfl (p_load1r rfl Try.g3 rfl (strs_ref (by omega))) ?_
     refine d_pure [(6, _)] rfl rfl ⟨⟨rfl, rfl⟩, trivial⟩ rfl (p_move rfl) ?_
     refine d_pure [(8, _)] rfl rfl ⟨⟨rfl, rfl⟩, trivial⟩ rfl (p_move rfl) ?_
     first | refine d_pure [(41, _), (42, _)] rfl rfl ⟨⟨rfl, rfl⟩, ⟨rfl, rfl⟩, trivial⟩ rfl (p_idx_sl rfl rfl Try.e31 Try.c42 (by first | assumption | (refine ⟨by omega, ?_⟩; first | assumption | exact strs_at (by omega) | exact strs_at (by simp only [List.length_cons] at *; omega) | exact ints_at (by omega) | exact map_at (by omega) | exact list_at (by omega)) | exact ⟨by decide, rfl⟩)) ?_ | refine d_pure [(41, _), (42, _)] rfl rfl ⟨⟨rfl, rfl⟩, ⟨rfl, rfl⟩, trivial⟩ rfl (p_idx_own rfl rfl Try.e31 Try.c42 (by omega)) ?_
     first | refine d_pure [(43, _)] rfl rfl ⟨⟨rfl, rfl⟩, trivial⟩ rfl (p_fld_adr rfl Try.fd42_1 Try.c3 rfl) ?_ | refine d_pure [(43, _)] rfl rfl ⟨⟨rfl, rfl⟩, trivial⟩ rfl (p_fld_ref rfl Try.fd42_1 Try.c3 rfl) ?_
     first | refine d_pure [(44, _)] rfl rfl ⟨⟨rfl, rfl⟩, trivial⟩ rfl (p_load1 rfl Try.g3 rfl) ?_ | refine d_pure [(44, _)] rfl rfl ⟨⟨rfl, rfl⟩, trivial⟩ rfl (p_load1r rfl Try.g3 rfl rfl) ?_ | refine d_pure [(44, _)] rfl rfl ⟨⟨rfl, rfl⟩, trivial⟩ rfl (p_load1r rfl Try.g3 rfl (strs_ref (by simp only [List.length_cons] at *; omega))) ?_ | refine d_pure [(44, _)] rfl rfl ⟨⟨rfl, rfl⟩, trivial⟩ rfl (p_load1r rfl Try.g3 rfl (strs_ref (by omega))) ?_
     refine d_pure [(40, _), (45, _)] rfl rfl ⟨⟨rfl, rfl⟩, ⟨rfl, rfl⟩, trivial⟩ rfl (p_min rfl rfl) ?_
     refine d_pure [(46, _)] rfl rfl ⟨⟨rfl, rfl⟩, trivial⟩ rfl (p_assign rfl) ?_
     refine lex_end (sl' := [(0, _), (5, _), (6, _), (7, _), (8, _), (9, _), (10, _)]) rfl ⟨rfl, rfl, rfl, rfl, rfl, rfl, rfl, trivial⟩ rfl ?_
     refine hK14 _ ?_
     refine aw_seq_k (fun K15 hK15 => ?_)
     refine aw_region ?_
     refine x_pure rfl (p_move rfl) ?_
     refine x_pure rfl (p_move rfl) ?_
     refine x_pure rfl (p_bin rfl rfl rfl) ?_
     first | refine aops_end ?_ | refine aops_nil ?_
     refine hK15 _ ?_
     refine aw_cond_s rfl (fun hc3 => ?_) (fun hc3 => ?_)
     ·
      try simp only [bs] at hc3
      refine aw_draw_tail hf (L := #[true, true, true, true, true, true, true, true, true, true, true, true, true, true, true, false, false]) 15 2 Try.mixed (by kernel_rfl) rfl (by kernel_rfl) rfl ?_
      refine d_pure [(5, _)] rfl rfl ⟨⟨rfl, rfl⟩, trivial⟩ rfl (p_move rfl) ?_
      refine d_pure [(9, _)] rfl rfl ⟨⟨rfl, rfl⟩, trivial⟩ rfl (p_move rfl) ?_
      refine d_pure [(10, _)] rfl rfl ⟨⟨rfl, rfl⟩, trivial⟩ rfl (p_move rfl) ?_
      refine d_pure [(0, _)] rfl rfl ⟨⟨rfl, rfl⟩, trivial⟩ rfl (p_move rfl) ?_
      refine d_pure [(7, _)] rfl rfl ⟨⟨rfl, rfl⟩, trivial⟩ rfl (p_move rfl) ?_
      first | refine d_pure [(53, _), (54, _)] rfl rfl ⟨⟨rfl, rfl⟩, ⟨rfl, rfl⟩, trivial⟩ rfl (p_idx_sl rfl rfl Try.e54 Try.c52 (by first | assumption | (refine ⟨by omega, ?_⟩; first | assumption | exact strs_at (by omega) | exact strs_at (by simp only [List.length_cons] at *; omega) | exact ints_at (by omega) | exact map_at (by omega) | exact list_at (by omega)) | exact ⟨by decide, rfl⟩)) ?_ | refine d_pure [(53, _), (54, _)] rfl rfl ⟨⟨rfl, rfl⟩, ⟨rfl, rfl⟩, trivial⟩ rfl (p_idx_own rfl rfl Try.e54 Try.c52 (by omega)) ?_
      first | refine d_pure [(55, _)] rfl rfl ⟨⟨rfl, rfl⟩, trivial⟩ rfl (p_fld_adr rfl Try.fd52_2 Try.c3 rfl) ?_ | refine d_pure [(55, _)] rfl rfl ⟨⟨rfl, rfl⟩, trivial⟩ rfl (p_fld_ref rfl Try.fd52_2 Try.c3 rfl) ?_
      first | refine d_pure [(56, _)] rfl rfl ⟨⟨rfl, rfl⟩, trivial⟩ rfl (p_load1 rfl Try.g3 rfl) ?_ | refine d_pure [(56, _)] rfl rfl ⟨⟨rfl, rfl⟩, trivial⟩ rfl (p_load1r rfl Try.g3 rfl rfl) ?_ | refine d_pure [(56, _)] rfl rfl ⟨⟨rfl, rfl⟩, trivial⟩ rfl (p_load1r rfl Try.g3 rfl (strs_ref (by simp only [List.length_cons] at *; omega))) ?_ | refine d_pure [(56, _)] rfl rfl ⟨⟨rfl, rfl⟩, trivial⟩ rfl (p_load1r rfl Try.g3 rfl (strs_ref (by omega))) ?_
      refine d_pure [(0, _)] rfl rfl ⟨⟨rfl, rfl⟩, trivial⟩ rfl (p_move rfl) ?_
      refine d_pure [(7, _)] rfl rfl ⟨⟨rfl, rfl⟩, trivial⟩ rfl (p_move rfl) ?_
      first | refine d_pure [(58, _), (59, _)] rfl rfl ⟨⟨rfl, rfl⟩, ⟨rfl, rfl⟩, trivial⟩ rfl (p_idx_sl rfl rfl Try.e54 Try.c52 (by first | assumption | (refine ⟨by omega, ?_⟩; first | assumption | exact strs_at (by omega) | exact strs_at (by simp only [List.length_cons] at *; omega) | exact ints_at (by omega) | exact map_at (by omega) | exact list_at (by omega)) | exact ⟨by decide, rfl⟩)) ?_ | refine d_pure [(58, _), (59, _)] rfl rfl ⟨⟨rfl, rfl⟩, ⟨rfl, rfl⟩, trivial⟩ rfl (p_idx_own rfl rfl Try.e54 Try.c52 (by omega)) ?_
      first | refine d_pure [(60, _)] rfl rfl ⟨⟨rfl, rfl⟩, trivial⟩ rfl (p_fld_adr rfl Try.fd52_3 Try.c3 rfl) ?_ | refine d_pure [(60, _)] rfl rfl ⟨⟨rfl, rfl⟩, trivial⟩ rfl (p_fld_ref rfl Try.fd52_3 Try.c3 rfl) ?_
      first | refine d_pure [(61, _)] rfl rfl ⟨⟨rfl, rfl⟩, trivial⟩ rfl (p_load1 rfl Try.g3 rfl) ?_ | refine d_pure [(61, _)] rfl rfl ⟨⟨rfl, rfl⟩, trivial⟩ rfl (p_load1r rfl Try.g3 rfl rfl) ?_ | refine d_pure [(61, _)] rfl rfl ⟨⟨rfl, rfl⟩, trivial⟩ rfl (p_load1r rfl Try.g3 rfl (strs_ref (by simp only [List.length_cons] at *; omega))) ?_ | refine d_pure [(61, _)] rfl rfl ⟨⟨rfl, rfl⟩, trivial⟩ rfl (p_load1r rfl Try.g3 rfl (strs_ref (by omega))) ?_
      refine d_pure [(51, _), (52, _), (57, _), (62, _)] rfl rfl ⟨⟨rfl, rfl⟩, ⟨rfl, rfl⟩, ⟨rfl, rfl⟩, ⟨rfl, rfl⟩, trivial⟩ rfl (p_build rfl Try.z52 Try.pl52 (by simp [stC, spC, AV.cells, AV.one, Value.oneCell', splice, AV.kill, AV.clean, cleanL, AV.only]) rfl) ?_
      refine d_rstep [(63, _)] rfl rfl ⟨⟨rfl, rfl⟩, trivial⟩ rfl (r_buildSlice Try.ap54 rfl rfl rfl rfl (by simp [stC, spC, AV.cells, AV.leaf, Value.oneCell', splice, AV.kill, AV.clean, cleanL, AV.only])) ?_
      refine lex_tail (sl' := [(0, _), (5, _), (6, _), (7, _), (8, _), (50, _), (64, _)]) rfl ⟨rfl, rfl, rfl, rfl, rfl, rfl, rfl, trivial⟩ rfl ?_
      refine aany_step 15 [] (by kernel_rfl) ⟨?_, trivial⟩
      ·
       refine ⟨_, rfl, rfl, ?_⟩
       refine aop_of_aops (ops := #[]) rfl ?_
       refine x_append hf rfl Try.ap54 rfl rfl rfl (.inl rfl) (by rw [List.length_map]) rfl (by first | rfl | simp [asrc, look]) (by first | (simp only [maxLen, List.length_map, List.length_append, List.length_cons, List.length_nil]; omega) | (simp [maxLen] <;> omega)) (by first | (simp only [List.length_map, List.length_append, List.length_cons, List.length_nil]; omega) | (simp <;> omega)) ?_
       refine aops_le (le_of (sl' := [(0, _), (5, _), (6, _), (7, _), (8, _), (65, _)]) ⟨rfl, rfl, rfl, rfl, rfl, rfl, trivial⟩) ?_
       refine aops_any ?_
       refine aany_step 16 [] (by kernel_rfl) ⟨?_, trivial⟩
       ·
        refine ⟨_, rfl, rfl, ?_⟩
        refine aop_of_aops (ops := #[]) rfl ?_
        refine x_pure rfl (p_assign rfl) ?_
        refine aops_any ?_
        refine aany_end (by kernel_rfl) ?_
        refine hK12 _ ?_
        refine aw_region ?_
        refine x_pure rfl (p_move rfl) ?_
        first | refine x_pure rfl (p_add rfl rfl (by omega) (by omega)) ?_ | refine x_pure rfl (p_bin rfl rfl rfl) ?_
        refine x_pure rfl (p_assign rfl) ?_
        first | refine aops_end ?_ | refine aops_nil ?_
        first
        | exact ⟨(j + 1, o ++ [(meet1 l[k].1 (normL b)[j], l[k].2)]), ⟨by omega, by rw [h5, take_flatM _ _ j (by omega), meetS_f (by simp only [meet1]; omega), List.append_assoc], by rw [List.length_append]; simp only [List.length_cons, List.length_nil]; omega⟩, by simp only; omega, le_to ⟨rfl, (by rw [List.length_append]; rfl), rfl, rfl, rfl, trivial⟩ (by rw [List.map_append]; rfl)⟩
        | exact ⟨(j + 1, o), ⟨by omega, by rw [h5, take_flatM _ _ j (by omega), meetS_t (by simp only [meet1]; omega), List.append_nil], by omega⟩, by simp only; omega, le_to ⟨rfl, rfl, rfl, rfl, rfl, trivial⟩ rfl⟩
     ·
      try simp only [bs] at hc3
      refine aw_skip ?_
      refine hK12 _ ?_
      refine aw_region ?_
      refine x_pure rfl (p_move rfl) ?_
      first | refine x_pure rfl (p_add rfl rfl (by omega) (by omega)) ?_ | refine x_pure rfl (p_bin rfl rfl rfl) ?_
      refine x_pure rfl (p_assign rfl) ?_
      first | refine aops_end ?_ | refine aops_nil ?_
      first
      | exact ⟨(j + 1, o ++ [(meet1 l[k].1 (normL b)[j], l[k].2)]), ⟨by omega, by rw [h5, take_flatM _ _ j (by omega), meetS_f (by simp only [meet1]; omega), List.append_assoc], by rw [List.length_append]; simp only [List.length_cons, List.length_nil]; omega⟩, by simp only; omega, le_to ⟨rfl, (by rw [List.length_append]; rfl), rfl, rfl, rfl, trivial⟩ (by rw [List.map_append]; rfl)⟩
      | exact ⟨(j + 1, o), ⟨by omega, by rw [h5, take_flatM _ _ j (by omega), meetS_t (by simp only [meet1]; omega), List.append_nil], by omega⟩, by simp only; omega, le_to ⟨rfl, rfl, rfl, rfl, rfl, trivial⟩ rfl⟩
    ·
     try simp only [bs] at hc2
     refine aw_exit ?_
     refine hK8 _ ?_
     refine aw_region ?_
     refine x_pure rfl (p_move rfl) ?_
     first | refine x_pure rfl (p_add rfl rfl (by omega) (by omega)) ?_ | refine x_pure rfl (p_bin rfl rfl rfl) ?_
     refine x_pure rfl (p_assign rfl) ?_
     first | refine aops_end ?_ | refine aops_nil ?_
     exact ⟨(k + 1, o), ⟨by omega, by rw [h5, cut_next (by omega), h2, List.take_of_length_le (show (normL b).length ≤ j by omega)], by rw [Nat.add_mul, Nat.one_mul]; omega⟩, by simp only; omega, le_to ⟨rfl, rfl, rfl, rfl, trivial⟩ rfl⟩
  ·
   try simp only [bs] at hc1
   refine aw_exit ?_
   refine hK4 _ ?_
   refine aw_seq_k (fun K16 hK16 => ?_)
   refine aw_region ?_
   have hk : k = l.length := by omega
   have hm := Nat.mul_le_mul_right (normL b).length (show k ≤ l.length by omega)
   refine aops_le (le_freeze (sl' := [(5, .sl 4 (out.map stC))]) ⟨⟨_, rfl, only_whole (g := 5) rfl (by rw [List.length_map])⟩, trivial⟩) ?_
   refine x_pure rfl (p_move rfl) ?_
   refine x_step hf rfl (r_call rfl rfl Try.ent81 rfl (refSortedS_den out (by omega))) ?_
   refine x_pure rfl (p_assign rfl) ?_
   first | refine aops_end ?_ | refine aops_nil ?_
   refine hK16 _ ?_
   refine aw_ret ?_
   refine ⟨_, rfl, ?_⟩
   show AV.sl 4 ((sortS out).map stC) = _
   rw [h2, List.take_of_length_le (by omega)]; rfl
end Go.Proofs.Ytkjniggdldpnoaa
