import Derived.Test.YtcjchfocohagdaaW2
import Derived.Test.YtcjchfocohagdaaL
set_option linter.unusedVariables false
set_option linter.unusedSimpArgs false
namespace Go.Proofs.Ytcjchfocohagdaa
open Go Go.Abs

theorem sort_den_K : SortsK Try.prog 61 2 := fun m enc cf g cb blk off cap d w hk h1 hO eg hc hH hb hs => Go.Proofs.AnyQ.slices_SortFunc Try.sortL 2 Try.isAgg42 Try.sizeOf42 enc hk h1 cf hO g cb blk off cap d w eg hc hH hb hs
theorem sort_den_0 : Sorts0 Try.prog 61 := fun p cap fv w => Go.Proofs.AnyF.slices_SortFunc_none Try.sortL p cap fv w
theorem sort_den (l : List Sp) (n : Nat) (hn : n = l.length) (hl : l.length < 4611686018427387904) : DenM Try.prog 61 [.own E0 2 0 n, .fn 62 []] 2 (l.map spC)
    (fun r ys => ∃ ms : List Sp, ms.Perm l ∧ ms.Pairwise (fun x y => ¬ cmpI y.1 x.1 < 0) ∧ ys = (ms.map spC)) := by
  subst hn
  exact sort_denMK (by decide) sort_den_K sort_den_0 Try.ent62 l spC (fun _ => rfl) (fun a _ => spC_leaf a) (fun x y => cmpI x.1 y.1) cmpI_swo (fun x _ y _ => normCmp_den x y) hl

set_option maxRecDepth 20000 in
set_option maxHeartbeats 2000000 in
theorem norm_den (l : List Sp) (hl : l.length * 16 ≤ 140737488355328)  : Den Try.prog 38 [.sl 2 (l.map spC)]  (· = .sl 2 (normL l |>.map spC)) := by
 refine den_of_aw Try.func38 rfl (Nat.le_of_ble_eq_true rfl) (fun w0 A hf => ?_)
 refine aw_seq_k (fun K1 hK1 => ?_)
 refine aw_region ?_
 refine x_pure rfl (p_assign_bad) ?_
 first | refine aops_end ?_ | refine aops_nil ?_
 refine hK1 _ ?_
 refine aw_seq_k (fun K2 hK2 => ?_)
 refine aw_region ?_
 refine x_pure rfl (p_move rfl) ?_
 refine y_callO hf rfl rfl rfl rfl rfl Try.ent60 rfl (clone_den _ (by first | assumption | omega)) ?_
 rintro _ rfl
 refine y_callM hf 8 rfl rfl rfl rfl rfl Try.ent59 (deleteFunc_den Try.ent35 rfl (fun _ => rfl) noTime l _ (by rw [List.length_map]) (by omega) (fun x _ => none_den x)) ?_
 rintro r zs ⟨rfl, rfl⟩
 refine x_pure rfl (p_assign rfl) ?_
 first | refine aops_end ?_ | refine aops_nil ?_
 refine hK2 _ ?_
 refine aw_seq_k (fun K3 hK3 => ?_)
 refine aw_region ?_
 refine x_pure rfl (p_move rfl) ?_
 have hfl : (l.filter fun x => !noTime x).length ≤ l.length := List.length_filter_le _ _
 refine y_callM hf 8 rfl rfl rfl rfl rfl Try.ent61 (sort_den (l.filter fun x => !noTime x) _ rfl (by omega)) ?_
 rintro r zs ⟨ms, hp, hs, rfl⟩
 have hml := hp.length_eq
 first | refine aops_end ?_ | refine aops_nil ?_
 refine hK3 _ ?_
 refine aw_seq_k (fun K4 hK4 => ?_)
 refine aw_region ?_
 refine x_nil hf 2 rfl rfl rfl ?_
 first | refine aops_end ?_ | refine aops_nil ?_
 refine hK4 _ ?_
 refine aw_seq_k (fun K5 hK5 => ?_)
 refine aw_seq_k (fun K6 hK6 => ?_)
 refine aw_region ?_
 refine x_pure rfl (p_move rfl) ?_
 first | refine x_pure rfl (p_len_sl rfl Try.e76) ?_ | refine x_pure rfl (p_len_own rfl Try.e76) ?_ | refine x_pure rfl (p_len_nil rfl Try.e76) ?_
 refine x_pure rfl (p_move rfl) ?_
 first | refine aops_end ?_ | refine aops_nil ?_
 refine hK6 _ ?_
 refine aw_block ?_
 refine aw_loop (ι := Nat × List Sp) (fun (⟨k, out⟩ : Nat × List Sp) => ⟨53, [(3, .own 3 2 0 out.length), (12, .own 8 2 0 (l.filter fun x => !noTime x).length), (13, .s (.int .i64 ((l.filter fun x => !noTime x).length : Nat))), (14, .s (.int .i64 (k : Nat)))], [(3, .buf 2 (out.map spC)), (8, .buf 2 (ms.map spC))]⟩) (fun (⟨k, out⟩ : Nat × List Sp) => k ≤ ms.length ∧ out = (ms.take k).foldl mergeStep [] ∧ out.length ≤ k) (fun (⟨k, out⟩ : Nat × List Sp) => ms.length - k) (0, []) ?_ ?_ ?_
 · exact ⟨Nat.zero_le _, rfl, Nat.le_refl _⟩
 · exact le_of ⟨rfl, rfl, rfl, rfl, trivial⟩
 ·
  rintro ⟨k, out⟩ hC
  obtain ⟨h1, h2, h3⟩ := hC
  refine aw_seq_k (fun K7 hK7 => ?_)
  refine aw_region ?_
  refine x_pure rfl (p_bin rfl rfl rfl) ?_
  first | refine aops_end ?_ | refine aops_nil ?_
  refine hK7 _ ?_
  refine aw_seq_k (fun K8 hK8 => ?_)
  refine aw_cond_s rfl (fun hc1 => ?_) (fun hc1 => ?_)
  ·
   try simp only [bs] at hc1
   refine aw_skip ?_
   refine hK8 _ ?_
   refine aw_seq_k (fun K9 hK9 => ?_)
   refine aw_block ?_
   refine aw_seq_k (fun K10 hK10 => ?_)
   refine aw_region ?_
   first | refine x_pure rfl (p_idx_sl rfl rfl Try.e76 Try.c42 (by first | assumption | (refine ⟨by omega, ?_⟩; first | assumption | exact strs_at (by omega) | exact strs_at (by simp only [List.length_cons] at *; omega) | exact ints_at (by omega) | exact map_at (by omega) | exact list_at (by omega)) | exact ⟨by decide, rfl⟩)) ?_ | refine x_pure rfl (p_idx_own rfl rfl Try.e76 Try.c42 (by omega)) ?_
   refine x_pure rfl (p_loadsr rfl Try.g42 Try.c42 rfl (own_ble (c := 2) (k := k) (enc := spC) (by omega) (by omega) rfl) (cs' := spC ms[k]) (own_take (c := 2) (k := k) (enc := spC) (by omega) (by omega) rfl)) ?_
   refine x_allocst hf rfl Try.z42 rfl Try.c42 rfl rfl rfl rfl (by simp [spC, AV.cells, AV.leaf, Value.oneCell', splice, AV.kill, AV.clean, cleanL, AV.only]) ?_
   first | refine aops_end ?_ | refine aops_nil ?_
   refine hK10 _ ?_
   refine aw_seq_k (fun K11 hK11 => ?_)
   refine aw_region ?_
   refine x_pure rfl (p_move rfl) ?_
   first | refine x_pure rfl (p_len_sl rfl Try.e76) ?_ | refine x_pure rfl (p_len_own rfl Try.e76) ?_ | refine x_pure rfl (p_len_nil rfl Try.e76) ?_
   refine x_pure rfl (p_assign rfl) ?_
   first | refine aops_end ?_ | refine aops_nil ?_
   refine hK11 _ ?_
   refine aw_seq_k (fun K12 hK12 => ?_)
   refine aw_draw hf Try.mixed (by kernel_rfl) rfl ?_
   refine d_pure [(6, _)] rfl rfl ⟨⟨rfl, rfl⟩, trivial⟩ rfl (p_move rfl) ?_
   refine d_pure [(20, _)] rfl rfl ⟨⟨rfl, rfl⟩, trivial⟩ rfl (p_bin rfl rfl rfl) ?_
   refine d_pure [(21, _)] rfl rfl ⟨⟨rfl, rfl⟩, trivial⟩ rfl (p_move rfl) ?_
   refine d_split 22 true rfl (fun hg2 => ?_) (fun hg2 => ?_)
   ·
    try simp only [bs] at hg2
    first | refine d_pure [(5, _)] rfl rfl ⟨⟨rfl, rfl⟩, trivial⟩ rfl (p_fld_adr rfl Try.fd42_0 Try.c3 rfl) ?_ | refine d_pure [(5, _)] rfl rfl ⟨⟨rfl, rfl⟩, trivial⟩ rfl (p_fld_ref rfl Try.fd42_0 Try.c3 rfl) ?_
    first | refine d_pure [(23, _)] rfl rfl ⟨⟨rfl, rfl⟩, trivial⟩ rfl (p_load1 rfl Try.g3 rfl) ?_ | refine d_pure [(23, _)] rfl rfl ⟨⟨rfl, rfl⟩, trivial⟩ rfl (p_load1r rfl Try.g3 rfl rfl) ?_ | refine d_pure [(23, _)] rfl rfl ⟨⟨rfl, rfl⟩, trivial⟩ rfl (p_load1r rfl Try.g3 rfl (strs_ref (by simp only [List.length_cons] at *; omega))) ?_ | refine d_pure [(23, _)] rfl rfl ⟨⟨rfl, rfl⟩, trivial⟩ rfl (p_load1r rfl Try.g3 rfl (strs_ref (by omega))) ?_
    refine d_pure [(3, _)] rfl rfl ⟨⟨rfl, rfl⟩, trivial⟩ rfl (p_move rfl) ?_
    refine d_pure [(6, _)] rfl rfl ⟨⟨rfl, rfl⟩, trivial⟩ rfl (p_move rfl) ?_
    first | refine d_pure [(26, _)] rfl rfl ⟨⟨rfl, rfl⟩, trivial⟩ rfl (p_sub rfl rfl (by omega) (by omega)) ?_ | refine d_pure [(26, _)] rfl rfl ⟨⟨rfl, rfl⟩, trivial⟩ rfl (p_bin rfl rfl rfl) ?_
    first | refine d_pure [(25, _), (27, _)] rfl rfl ⟨⟨rfl, rfl⟩, ⟨rfl, rfl⟩, trivial⟩ rfl (p_idx_sl rfl rfl Try.e76 Try.c42 (by first | assumption | (refine ⟨by omega, ?_⟩; first | assumption | exact strs_at (by omega) | exact strs_at (by simp only [List.length_cons] at *; omega) | exact ints_at (by omega) | exact map_at (by omega) | exact list_at (by omega)) | exact ⟨by decide, rfl⟩)) ?_ | refine d_pure [(25, _), (27, _)] rfl rfl ⟨⟨rfl, rfl⟩, ⟨rfl, rfl⟩, trivial⟩ rfl (p_idx_own rfl rfl Try.e76 Try.c42 (by omega)) ?_
    first | refine d_pure [(28, _)] rfl rfl ⟨⟨rfl, rfl⟩, trivial⟩ rfl (p_fld_adr rfl Try.fd42_1 Try.c3 rfl) ?_ | refine d_pure [(28, _)] rfl rfl ⟨⟨rfl, rfl⟩, trivial⟩ rfl (p_fld_ref rfl Try.fd42_1 Try.c3 rfl) ?_
    refine d_pure [(29, _)] rfl rfl ⟨⟨rfl, rfl⟩, trivial⟩ rfl (p_load1r rfl Try.g3 rfl (c := .s (.int .i64 (out[out.length - 1]'(by omega)).2)) (own_cell (c := 2) (k := out.length - 1) (enc := spC) (by omega) (by omega) 1)) ?_
    refine d_pure [(24, _), (30, _)] rfl rfl ⟨⟨rfl, rfl⟩, ⟨rfl, rfl⟩, trivial⟩ rfl (p_bin rfl rfl rfl) ?_
    refine d_pure [(22, _), (31, _)] rfl rfl ⟨⟨rfl, rfl⟩, ⟨rfl, rfl⟩, trivial⟩ rfl (p_pick_t rfl rfl) ?_
    refine lex_end (sl' := [(3, _), (5, _), (6, _), (12, _), (13, _), (14, _), (32, _)]) rfl ⟨rfl, rfl, rfl, rfl, rfl, rfl, rfl, trivial⟩ rfl ?_
    refine hK12 _ ?_
    refine aw_cond_s rfl (fun hc3 => ?_) (fun hc3 => ?_)
    ·
     try simp only [bs] at hc3
     refine aw_draw_tail hf (L := #[true, true, true, true, true, true, true, true, true, true, true, true, true, true, false]) 14 1 Try.mixed (by kernel_rfl) rfl (by kernel_rfl) rfl ?_
     refine d_pure [(3, _)] rfl rfl ⟨⟨rfl, rfl⟩, trivial⟩ rfl (p_move rfl) ?_
     refine d_pure [(6, _)] rfl rfl ⟨⟨rfl, rfl⟩, trivial⟩ rfl (p_move rfl) ?_
     first | refine d_pure [(34, _)] rfl rfl ⟨⟨rfl, rfl⟩, trivial⟩ rfl (p_sub rfl rfl (by omega) (by omega)) ?_ | refine d_pure [(34, _)] rfl rfl ⟨⟨rfl, rfl⟩, trivial⟩ rfl (p_bin rfl rfl rfl) ?_
     refine d_pure [(3, _)] rfl rfl ⟨⟨rfl, rfl⟩, trivial⟩ rfl (p_move rfl) ?_
     refine d_pure [(6, _)] rfl rfl ⟨⟨rfl, rfl⟩, trivial⟩ rfl (p_move rfl) ?_
     first | refine d_pure [(37, _)] rfl rfl ⟨⟨rfl, rfl⟩, trivial⟩ rfl (p_sub rfl rfl (by omega) (by omega)) ?_ | refine d_pure [(37, _)] rfl rfl ⟨⟨rfl, rfl⟩, trivial⟩ rfl (p_bin rfl rfl rfl) ?_
     first | refine d_pure [(36, _), (38, _)] rfl rfl ⟨⟨rfl, rfl⟩, ⟨rfl, rfl⟩, trivial⟩ rfl (p_idx_sl rfl rfl Try.e76 Try.c42 (by first | assumption | (refine ⟨by omega, ?_⟩; first | assumption | exact strs_at (by omega) | exact strs_at (by simp only [List.length_cons] at *; omega) | exact ints_at (by omega) | exact map_at (by omega) | exact list_at (by omega)) | exact ⟨by decide, rfl⟩)) ?_ | refine d_pure [(36, _), (38, _)] rfl rfl ⟨⟨rfl, rfl⟩, ⟨rfl, rfl⟩, trivial⟩ rfl (p_idx_own rfl rfl Try.e76 Try.c42 (by omega)) ?_
     first | refine d_pure [(39, _)] rfl rfl ⟨⟨rfl, rfl⟩, trivial⟩ rfl (p_fld_adr rfl Try.fd42_1 Try.c3 rfl) ?_ | refine d_pure [(39, _)] rfl rfl ⟨⟨rfl, rfl⟩, trivial⟩ rfl (p_fld_ref rfl Try.fd42_1 Try.c3 rfl) ?_
     refine d_pure [(40, _)] rfl rfl ⟨⟨rfl, rfl⟩, trivial⟩ rfl (p_load1r rfl Try.g3 rfl (c := .s (.int .i64 (out[out.length - 1]'(by omega)).2)) (own_cell (c := 2) (k := out.length - 1) (enc := spC) (by omega) (by omega) 1)) ?_
     first | refine d_pure [(5, _)] rfl rfl ⟨⟨rfl, rfl⟩, trivial⟩ rfl (p_fld_adr rfl Try.fd42_1 Try.c3 rfl) ?_ | refine d_pure [(5, _)] rfl rfl ⟨⟨rfl, rfl⟩, trivial⟩ rfl (p_fld_ref rfl Try.fd42_1 Try.c3 rfl) ?_
     first | refine d_pure [(42, _)] rfl rfl ⟨⟨rfl, rfl⟩, trivial⟩ rfl (p_load1 rfl Try.g3 rfl) ?_ | refine d_pure [(42, _)] rfl rfl ⟨⟨rfl, rfl⟩, trivial⟩ rfl (p_load1r rfl Try.g3 rfl rfl) ?_ | refine d_pure [(42, _)] rfl rfl ⟨⟨rfl, rfl⟩, trivial⟩ rfl (p_load1r rfl Try.g3 rfl (strs_ref (by simp only [List.length_cons] at *; omega))) ?_ | refine d_pure [(42, _)] rfl rfl ⟨⟨rfl, rfl⟩, trivial⟩ rfl (p_load1r rfl Try.g3 rfl (strs_ref (by omega))) ?_
     refine d_pure [(41, _), (43, _)] rfl rfl ⟨⟨rfl, rfl⟩, ⟨rfl, rfl⟩, trivial⟩ rfl (p_max rfl rfl) ?_
     first | refine d_pure [(33, _), (35, _)] rfl rfl ⟨⟨rfl, rfl⟩, ⟨rfl, rfl⟩, trivial⟩ rfl (p_idx_sl rfl rfl Try.e76 Try.c42 (by first | assumption | (refine ⟨by omega, ?_⟩; first | assumption | exact strs_at (by omega) | exact strs_at (by simp only [List.length_cons] at *; omega) | exact ints_at (by omega) | exact map_at (by omega) | exact list_at (by omega)) | exact ⟨by decide, rfl⟩)) ?_ | refine d_pure [(33, _), (35, _)] rfl rfl ⟨⟨rfl, rfl⟩, ⟨rfl, rfl⟩, trivial⟩ rfl (p_idx_own rfl rfl Try.e76 Try.c42 (by omega)) ?_
     first | refine d_pure [(45, _)] rfl rfl ⟨⟨rfl, rfl⟩, trivial⟩ rfl (p_fld_adr rfl Try.fd42_1 Try.c3 rfl) ?_ | refine d_pure [(45, _)] rfl rfl ⟨⟨rfl, rfl⟩, trivial⟩ rfl (p_fld_ref rfl Try.fd42_1 Try.c3 rfl) ?_
     refine lex_tail (sl' := [(3, _), (12, _), (13, _), (14, _), (44, _), (46, _)]) rfl ⟨rfl, rfl, rfl, rfl, rfl, rfl, trivial⟩ rfl ?_
     refine aany_step 14 [] (by kernel_rfl) ⟨?_, trivial⟩
     ·
      refine ⟨_, rfl, rfl, ?_⟩
      refine aop_of_aops (ops := #[]) rfl ?_
      refine x_store hf rfl rfl Try.c3 rfl rfl (by simp [AV.cells, AV.one, Value.oneCell']) (by simp [AV.cells, AV.leaf, Value.oneCell']) (own_store (c := 2) (k := out.length - 1) (f := 1) (enc := spC) (v := ((out[out.length - 1]'(by omega)).1, max (out[out.length - 1]'(by omega)).2 ms[k].2)) (by omega) (by omega) rfl (Nat.le_refl _)) ?_
      refine aops_any ?_
      refine aany_end (by kernel_rfl) ?_
      refine hK9 _ ?_
      refine aw_region ?_
      first | refine x_pure rfl (p_add rfl rfl (by omega) (by omega)) ?_ | refine x_pure rfl (p_bin rfl rfl rfl) ?_
      refine x_pure rfl (p_move rfl) ?_
      first | refine aops_end ?_ | refine aops_nil ?_
      refine ⟨(k + 1, mergeStep out ms[k]), ⟨by omega, by rw [take_foldl ms mergeStep [] k (by omega), ← h2], by have := mergeStep_len out ms[k]; omega⟩, by simp only; omega, ?_⟩
      first
      | (rw [mergeStep_set (by omega) (by assumption)]; exact le_to ⟨by rw [List.length_set]; rfl, rfl, rfl, rfl, trivial⟩ rfl)
      | (rw [mergeStep_app (by omega) (by omega)]; exact le_to ⟨by rw [List.length_append]; rfl, rfl, rfl, rfl, trivial⟩ (by rw [List.map_append]; rfl))
      | (obtain rfl : out = [] := List.eq_nil_of_length_eq_zero (by omega); exact le_to ⟨rfl, rfl, rfl, rfl, trivial⟩ rfl)
    ·
     try simp only [bs] at hc3
     refine aw_region ?_
     refine x_pure rfl (p_move rfl) ?_
     first | refine x_pure rfl (p_loads rfl Try.g42 Try.c42 rfl rfl) ?_ | refine x_pure rfl (p_loadsr rfl Try.g42 Try.c42 rfl rfl rfl) ?_
     refine x_step hf rfl (r_buildSlice Try.ap76 rfl rfl rfl rfl (by simp [spC, AV.cells, AV.leaf, Value.oneCell', splice, AV.kill, AV.clean, cleanL, AV.only])) ?_
     refine x_append hf rfl Try.ap76 rfl rfl rfl (by first | exact Or.inl rfl | exact Or.inr rfl) (by first | rfl | simp) rfl (by first | rfl | simp [asrc, look]) (by first | (simp only [maxLen, List.length_map, List.length_append, List.length_cons, List.length_nil]; omega) | (simp [maxLen] <;> omega)) (by first | (simp only [List.length_map, List.length_append, List.length_cons, List.length_nil]; omega) | (simp <;> omega)) ?_
     refine aops_le (le_of (sl' := [(12, _), (13, _), (14, _), (50, _)]) ⟨rfl, rfl, rfl, rfl, trivial⟩) ?_
     refine x_pure rfl (p_assign rfl) ?_
     first | refine aops_end ?_ | refine aops_nil ?_
     refine hK9 _ ?_
     refine aw_region ?_
     first | refine x_pure rfl (p_add rfl rfl (by omega) (by omega)) ?_ | refine x_pure rfl (p_bin rfl rfl rfl) ?_
     refine x_pure rfl (p_move rfl) ?_
     first | refine aops_end ?_ | refine aops_nil ?_
     refine ⟨(k + 1, mergeStep out ms[k]), ⟨by omega, by rw [take_foldl ms mergeStep [] k (by omega), ← h2], by have := mergeStep_len out ms[k]; omega⟩, by simp only; omega, ?_⟩
     first
     | (rw [mergeStep_set (by omega) (by assumption)]; exact le_to ⟨by rw [List.length_set]; rfl, rfl, rfl, rfl, trivial⟩ rfl)
     | (rw [mergeStep_app (by omega) (by omega)]; exact le_to ⟨by rw [List.length_append]; rfl, rfl, rfl, rfl, trivial⟩ (by rw [List.map_append]; rfl))
     | (obtain rfl : out = [] := List.eq_nil_of_length_eq_zero (by omega); exact le_to ⟨rfl, rfl, rfl, rfl, trivial⟩ rfl)
   ·
    try simp only [bs] at hg2
    refine d_skip rfl rfl ?_
    refine d_skip rfl rfl ?_
    refine d_skip rfl rfl ?_
    refine d_skip rfl rfl ?_
    refine d_skip rfl rfl ?_
    refine d_skip rfl rfl ?_
    refine d_skip rfl rfl ?_
    refine d_skip rfl rfl ?_
    refine d_skip rfl rfl ?_
    refine d_pure [(22, _), (31, _)] rfl rfl ⟨⟨rfl, rfl⟩, ⟨rfl, rfl⟩, trivial⟩ rfl (p_pick_f rfl rfl) ?_
    refine lex_end (sl' := [(3, _), (5, _), (6, _), (12, _), (13, _), (14, _), (32, _)]) rfl ⟨rfl, rfl, rfl, rfl, rfl, rfl, rfl, trivial⟩ rfl ?_
    refine hK12 _ ?_
    refine aw_cond_f rfl ?_
    refine aw_region ?_
    refine x_pure rfl (p_move rfl) ?_
    first | refine x_pure rfl (p_loads rfl Try.g42 Try.c42 rfl rfl) ?_ | refine x_pure rfl (p_loadsr rfl Try.g42 Try.c42 rfl rfl rfl) ?_
    refine x_step hf rfl (r_buildSlice Try.ap76 rfl rfl rfl rfl (by simp [spC, AV.cells, AV.leaf, Value.oneCell', splice, AV.kill, AV.clean, cleanL, AV.only])) ?_
    refine x_append hf rfl Try.ap76 rfl rfl rfl (by first | exact Or.inl rfl | exact Or.inr rfl) (by first | rfl | simp) rfl (by first | rfl | simp [asrc, look]) (by first | (simp only [maxLen, List.length_map, List.length_append, List.length_cons, List.length_nil]; omega) | (simp [maxLen] <;> omega)) (by first | (simp only [List.length_map, List.length_append, List.length_cons, List.length_nil]; omega) | (simp <;> omega)) ?_
    refine aops_le (le_of (sl' := [(12, _), (13, _), (14, _), (50, _)]) ⟨rfl, rfl, rfl, rfl, trivial⟩) ?_
    refine x_pure rfl (p_assign rfl) ?_
    first | refine aops_end ?_ | refine aops_nil ?_
    refine hK9 _ ?_
    refine aw_region ?_
    first | refine x_pure rfl (p_add rfl rfl (by omega) (by omega)) ?_ | refine x_pure rfl (p_bin rfl rfl rfl) ?_
    refine x_pure rfl (p_move rfl) ?_
    first | refine aops_end ?_ | refine aops_nil ?_
    refine ⟨(k + 1, mergeStep out ms[k]), ⟨by omega, by rw [take_foldl ms mergeStep [] k (by omega), ← h2], by have := mergeStep_len out ms[k]; omega⟩, by simp only; omega, ?_⟩
    first
    | (rw [mergeStep_set (by omega) (by assumption)]; exact le_to ⟨by rw [List.length_set]; rfl, rfl, rfl, rfl, trivial⟩ rfl)
    | (rw [mergeStep_app (by omega) (by omega)]; exact le_to ⟨by rw [List.length_append]; rfl, rfl, rfl, rfl, trivial⟩ (by rw [List.map_append]; rfl))
    | (obtain rfl : out = [] := List.eq_nil_of_length_eq_zero (by omega); exact le_to ⟨rfl, rfl, rfl, rfl, trivial⟩ rfl)
  ·
   try simp only [bs] at hc1
   refine aw_exit ?_
   refine hK5 _ ?_
   refine aw_seq_k (fun K13 hK13 => ?_)
   refine aw_region ?_
   refine x_pure rfl (p_move rfl) ?_
   refine x_pure rfl (p_assign rfl) ?_
   first | refine aops_end ?_ | refine aops_nil ?_
   refine hK13 _ ?_
   refine aw_ret ?_
   refine ⟨_, rfl, ?_⟩
   refine (conv_whole (g := 3) rfl (by rw [List.length_map])).trans ?_
   rw [h2, take_all_foldl ms mergeStep [] k (by omega), merge_all hp hs]
end Go.Proofs.Ytcjchfocohagdaa
