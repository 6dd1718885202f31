import Derived.Test.YtcjchfocohagdaaSW1
set_option linter.unusedVariables false
set_option linter.unusedSimpArgs false
namespace Go.Proofs.Ytcjchfocohagdaa
open Go Go.Abs

set_option maxRecDepth 20000 in
set_option maxHeartbeats 4000000 in
theorem rising10_den (l : List Se) (hl : l.length ≤ 9223372036854775807) (ht : ∀ e ∈ l, TS e.1.2)  : Den Try.prog 17 [.sl 4 (l.map seC)]  (· = .s (.bool (risX l))) := by
 refine den_of_aw Try.func17 rfl (Nat.le_of_ble_eq_true rfl) (fun w0 A hf => ?_)
 refine aw_seq_k (fun K1 hK1 => ?_)
 refine aw_region ?_
 refine x_pure rfl (p_assign_bad) ?_
 first | refine aops_end ?_ | refine aops_nil ?_
 refine hK1 _ ?_
 refine aw_seq_k (fun K2 hK2 => ?_)
 refine aw_seq_k (fun K3 hK3 => ?_)
 refine aw_region ?_
 refine x_pure rfl (p_move rfl) ?_
 first | refine x_pure rfl (p_len_sl rfl Try.e26) ?_ | refine x_pure rfl (p_len_own rfl Try.e26) ?_ | refine x_pure rfl (p_len_nil rfl Try.e26) ?_
 refine x_pure rfl (p_move rfl) ?_
 first | refine aops_end ?_ | refine aops_nil ?_
 refine hK3 _ ?_
 refine aw_block ?_
 refine aw_loop (ι := Nat) (fun k => ⟨52, [(0, .sl 4 (l.map seC)), (6, .sl 4 (l.map seC)), (7, .s (.int .i64 ((l.map seC).length : Nat))), (8, .s (.int .i64 (k : Nat)))], []⟩) (fun k => k ≤ l.length ∧ risP okE10 nextN none l = risP okE10 nextN (prevAt l k) (l.drop k)) (fun k => l.length - k) 0 ?_ ?_ ?_
 · exact ⟨Nat.zero_le _, rfl⟩
 · exact le_of ⟨rfl, rfl, rfl, rfl, trivial⟩
 ·
  rintro k hC
  obtain ⟨h1, h2⟩ := hC
  refine aw_seq_k (fun K4 hK4 => ?_)
  refine aw_region ?_
  refine x_pure rfl (p_bin rfl rfl rfl) ?_
  first | refine aops_end ?_ | refine aops_nil ?_
  refine hK4 _ ?_
  refine aw_seq_k (fun K5 hK5 => ?_)
  refine aw_cond_s rfl (fun hc1 => ?_) (fun hc1 => ?_)
  ·
   try simp only [bs] at hc1
   refine aw_skip ?_
   refine hK5 _ ?_
   refine aw_seq_k (fun K6 hK6 => ?_)
   refine aw_block ?_
   refine aw_seq_k (fun K7 hK7 => ?_)
   refine aw_region ?_
   refine x_pure rfl (p_move rfl) ?_
   first | refine x_pure rfl (p_idx_sl rfl rfl Try.e26 Try.c31 (by first | assumption | (refine ⟨by omega, ?_⟩; first | assumption | exact strs_at (by omega) | exact strs_at (by simp only [List.length_cons] at *; omega) | exact ints_at (by omega) | exact map_at (by omega) | exact list_at (by omega)) | exact ⟨by decide, rfl⟩)) ?_ | refine x_pure rfl (p_idx_own rfl rfl Try.e26 Try.c31 (by omega)) ?_
   first | refine x_pure rfl (p_loads rfl Try.g31 Try.c31 rfl rfl) ?_ | refine x_pure rfl (p_loadsr rfl Try.g31 Try.c31 rfl rfl rfl) ?_
   refine x_alloc hf rfl rfl rfl Try.z31 ?_
   refine x_pure rfl (p_assign rfl) ?_
   refine x_store hf rfl rfl Try.c31 rfl rfl (by simp [seC, AV.cells, AV.one, Value.oneCell', splice, AV.kill, AV.clean, cleanL, AV.only]) (by simp [seC, AV.cells, AV.leaf, Value.oneCell', splice, AV.kill, AV.clean, cleanL, AV.only]) rfl ?_
   refine aops_le (le_keep (nee 4) (sl' := [(0, _), (3, _), (4, _), (6, _), (7, _), (8, _)]) (m' := []) ⟨⟨_, rfl, rfl⟩, ⟨_, rfl, rfl⟩, ⟨_, rfl, rfl⟩, ⟨_, rfl, rfl⟩, ⟨_, rfl, rfl⟩, ⟨_, rfl, rfl⟩, trivial⟩ rfl) ?_
   first | refine aops_end ?_ | refine aops_nil ?_
   refine hK7 _ ?_
   refine aw_seq_k (fun K8 hK8 => ?_)
   refine aw_region ?_
   first | refine x_pure rfl (p_fld_adr rfl Try.fd31_1 Try.c9 rfl) ?_ | refine x_pure rfl (p_fld_ref rfl Try.fd31_1 Try.c9 rfl) ?_
   first | refine x_pure rfl (p_load1 rfl Try.g9 rfl) ?_ | refine x_pure rfl (p_load1r rfl Try.g9 rfl rfl) ?_ | refine x_pure rfl (p_load1r rfl Try.g9 rfl (strs_ref (by simp only [List.length_cons] at *; omega))) ?_ | refine x_pure rfl (p_load1r rfl Try.g9 rfl (strs_ref (by omega))) ?_
   refine x_step hf rfl (r_call rfl rfl Try.ent45 rfl (Nm.right_den _ (ht _ (List.getElem_mem _)))) ?_
   refine x_pure rfl (p_move rfl) ?_
   refine y_guard_s rfl rfl rfl (fun hg2 => ?_) (fun hg2 => ?_)
   ·
    try simp only [bs] at hg2
    first | refine x_pure rfl (p_fld_adr rfl Try.fd31_0 Try.c3 rfl) ?_ | refine x_pure rfl (p_fld_ref rfl Try.fd31_0 Try.c3 rfl) ?_
    refine x_guard_t rfl rfl rfl ?_
    first | refine x_pure rfl (p_load1 rfl Try.g3 rfl) ?_ | refine x_pure rfl (p_load1r rfl Try.g3 rfl rfl) ?_ | refine x_pure rfl (p_load1r rfl Try.g3 rfl (strs_ref (by simp only [List.length_cons] at *; omega))) ?_ | refine x_pure rfl (p_load1r rfl Try.g3 rfl (strs_ref (by omega))) ?_
    refine x_guard_t rfl rfl rfl ?_
    refine x_step hf rfl (r_call rfl rfl Try.ent46 rfl (within_den _ _ _)) ?_
    refine x_pure rfl (p_pick_t rfl rfl) ?_
    refine x_pure rfl (p_move rfl) ?_
    refine y_guard_s rfl rfl rfl (fun hg3 => ?_) (fun hg3 => ?_)
    ·
     try simp only [bs] at hg3
     first | refine x_pure rfl (p_fld_adr rfl Try.fd31_2 Try.c3 rfl) ?_ | refine x_pure rfl (p_fld_ref rfl Try.fd31_2 Try.c3 rfl) ?_
     refine x_guard_t rfl rfl rfl ?_
     first | refine x_pure rfl (p_load1 rfl Try.g3 rfl) ?_ | refine x_pure rfl (p_load1r rfl Try.g3 rfl rfl) ?_ | refine x_pure rfl (p_load1r rfl Try.g3 rfl (strs_ref (by simp only [List.length_cons] at *; omega))) ?_ | refine x_pure rfl (p_load1r rfl Try.g3 rfl (strs_ref (by omega))) ?_
     refine x_guard_t rfl rfl rfl ?_
     refine x_step hf rfl (r_call rfl rfl Try.ent46 rfl (within_den _ _ _)) ?_
     refine x_pure rfl (p_pick_t rfl rfl) ?_
     refine x_pure rfl (p_move rfl) ?_
     refine y_guard_s rfl rfl rfl (fun hg4 => ?_) (fun hg4 => ?_)
     ·
      try simp only [bs] at hg4
      first | refine x_pure rfl (p_fld_adr rfl Try.fd31_3 Try.c3 rfl) ?_ | refine x_pure rfl (p_fld_ref rfl Try.fd31_3 Try.c3 rfl) ?_
      refine x_guard_t rfl rfl rfl ?_
      first | refine x_pure rfl (p_load1 rfl Try.g3 rfl) ?_ | refine x_pure rfl (p_load1r rfl Try.g3 rfl rfl) ?_ | refine x_pure rfl (p_load1r rfl Try.g3 rfl (strs_ref (by simp only [List.length_cons] at *; omega))) ?_ | refine x_pure rfl (p_load1r rfl Try.g3 rfl (strs_ref (by omega))) ?_
      refine x_guard_t rfl rfl rfl ?_
      refine x_step hf rfl (r_call rfl rfl Try.ent46 rfl (within_den _ _ _)) ?_
      refine x_pure rfl (p_pick_t rfl rfl) ?_
      refine x_pure rfl (p_assign rfl) ?_
      first | refine aops_end ?_ | refine aops_nil ?_
      refine hK8 _ ?_
      refine aw_seq_k (fun K9 hK9 => ?_)
      refine aw_draw hf Try.mixed (by kernel_rfl) rfl ?_
      refine d_pure [(5, _)] rfl rfl ⟨⟨rfl, rfl⟩, trivial⟩ rfl (p_move rfl) ?_
      refine d_pure [(31, _)] rfl rfl ⟨⟨rfl, rfl⟩, trivial⟩ rfl (p_not rfl) ?_
      refine d_pure [(32, _)] rfl rfl ⟨⟨rfl, rfl⟩, trivial⟩ rfl (p_move rfl) ?_
      refine d_split 33 false rfl (fun hg5 => ?_) (fun hg5 => ?_)
      ·
       try simp only [bs] at hg5
       refine d_pure [(3, _)] rfl rfl ⟨⟨rfl, rfl⟩, trivial⟩ rfl (p_move rfl) ?_
       refine d_pure [(34, _)] rfl rfl ⟨⟨rfl, rfl⟩, trivial⟩ rfl (p_bin rfl rfl rfl) ?_
       refine d_pure [(35, _)] rfl rfl ⟨⟨rfl, rfl⟩, trivial⟩ rfl (p_move rfl) ?_
       refine d_split 36 true rfl (fun hg6 => ?_) (fun hg6 => ?_)
       ·
        try simp only [bs] at hg6
        refine d_pure [(0, _)] rfl rfl ⟨⟨rfl, rfl⟩, trivial⟩ rfl (p_move rfl) ?_
        refine d_pure [(3, _)] rfl rfl ⟨⟨rfl, rfl⟩, trivial⟩ rfl (p_move rfl) ?_
        first | refine d_pure [(38, _)] rfl rfl ⟨⟨rfl, rfl⟩, trivial⟩ rfl (p_sub rfl rfl (by omega) (by omega)) ?_ | refine d_pure [(38, _)] rfl rfl ⟨⟨rfl, rfl⟩, trivial⟩ rfl (p_bin rfl rfl rfl) ?_
        refine d_pure [(37, _), (39, _)] rfl rfl ⟨⟨rfl, rfl⟩, ⟨rfl, rfl⟩, trivial⟩ rfl (p_idx_sl rfl rfl Try.e26 Try.c31 (map_atZ (k := k - 1) (by omega) (by omega))) ?_
        first | refine d_pure [(40, _)] rfl rfl ⟨⟨rfl, rfl⟩, trivial⟩ rfl (p_fld_adr rfl Try.fd31_0 Try.c3 rfl) ?_ | refine d_pure [(40, _)] rfl rfl ⟨⟨rfl, rfl⟩, trivial⟩ rfl (p_fld_ref rfl Try.fd31_0 Try.c3 rfl) ?_
        first | refine d_pure [(41, _)] rfl rfl ⟨⟨rfl, rfl⟩, trivial⟩ rfl (p_load1 rfl Try.g3 rfl) ?_ | refine d_pure [(41, _)] rfl rfl ⟨⟨rfl, rfl⟩, trivial⟩ rfl (p_load1r rfl Try.g3 rfl rfl) ?_ | refine d_pure [(41, _)] rfl rfl ⟨⟨rfl, rfl⟩, trivial⟩ rfl (p_load1r rfl Try.g3 rfl (strs_ref (by simp only [List.length_cons] at *; omega))) ?_ | refine d_pure [(41, _)] rfl rfl ⟨⟨rfl, rfl⟩, trivial⟩ rfl (p_load1r rfl Try.g3 rfl (strs_ref (by omega))) ?_
        first | refine d_pure [(4, _)] rfl rfl ⟨⟨rfl, rfl⟩, trivial⟩ rfl (p_fld_adr rfl Try.fd31_0 Try.c3 rfl) ?_ | refine d_pure [(4, _)] rfl rfl ⟨⟨rfl, rfl⟩, trivial⟩ rfl (p_fld_ref rfl Try.fd31_0 Try.c3 rfl) ?_
        first | refine d_pure [(43, _)] rfl rfl ⟨⟨rfl, rfl⟩, trivial⟩ rfl (p_load1 rfl Try.g3 rfl) ?_ | refine d_pure [(43, _)] rfl rfl ⟨⟨rfl, rfl⟩, trivial⟩ rfl (p_load1r rfl Try.g3 rfl rfl) ?_ | refine d_pure [(43, _)] rfl rfl ⟨⟨rfl, rfl⟩, trivial⟩ rfl (p_load1r rfl Try.g3 rfl (strs_ref (by simp only [List.length_cons] at *; omega))) ?_ | refine d_pure [(43, _)] rfl rfl ⟨⟨rfl, rfl⟩, trivial⟩ rfl (p_load1r rfl Try.g3 rfl (strs_ref (by omega))) ?_
        refine d_pure [(42, _), (44, _)] rfl rfl ⟨⟨rfl, rfl⟩, ⟨rfl, rfl⟩, trivial⟩ rfl (p_bin rfl rfl rfl) ?_
        refine d_pure [(36, _), (45, _)] rfl rfl ⟨⟨rfl, rfl⟩, ⟨rfl, rfl⟩, trivial⟩ rfl (p_pick_t rfl rfl) ?_
        refine d_pure [(33, _), (46, _)] rfl rfl ⟨⟨rfl, rfl⟩, ⟨rfl, rfl⟩, trivial⟩ rfl (p_pick_f rfl rfl) ?_
        refine lex_end (sl' := [(0, _), (6, _), (7, _), (8, _), (47, _)]) rfl ⟨rfl, rfl, rfl, rfl, rfl, trivial⟩ rfl ?_
        refine hK9 _ ?_
        refine aw_cond_s rfl (fun hc7 => ?_) (fun hc7 => ?_)
        ·
         try simp only [bs] at hc7
         refine aw_seq_k (fun K10 hK10 => ?_)
         refine aw_region ?_
         refine x_pure rfl (p_assign rfl) ?_
         first | refine aops_end ?_ | refine aops_nil ?_
         refine hK10 _ ?_
         refine aw_ret ?_
         refine ⟨_, rfl, ?_⟩
         refine ret_bool ?_
         first | (rw [risX, ris_bad1 h2 (by omega) (show okE10 l[k] = false from by
          unfold okE10
          rw [Bool.eq_false_iff]
          simp only [ne_eq, Bool.and_eq_true, decide_eq_true_eq]
          rintro ⟨q1, ⟨⟨q2, q3⟩, ⟨q4, q5⟩⟩, q6, q7⟩
          first | omega | (simp_all; done) | (simp_all; omega))]; rfl) | (rw [risX, ris_bad2 h2 (by omega) (by omega) (show nextN _ _ = false from by simp only [nextN, decide_eq_false_iff_not]; omega)]; rfl)
        ·
         try simp only [bs] at hc7
         refine aw_skip ?_
         refine hK6 _ ?_
         refine aw_region ?_
         first | refine x_pure rfl (p_add rfl rfl (by omega) (by omega)) ?_ | refine x_pure rfl (p_bin rfl rfl rfl) ?_
         refine x_pure rfl (p_move rfl) ?_
         first | refine aops_end ?_ | refine aops_nil ?_
         exact ⟨k+1, ⟨by omega, ris_next h2 (by omega) (show okE10 l[k] = true from by
          unfold okE10
          simp only [Bool.and_eq_true, decide_eq_true_eq]
          exact ⟨by first | assumption | (simp_all; done), ⟨⟨by omega, by omega⟩, by omega, by omega⟩, by omega, by omega⟩) (fun h0 => by simp only [nextN, decide_eq_true_eq]; omega)⟩, by omega, le_of ⟨rfl, rfl, rfl, rfl, trivial⟩⟩
       ·
        try simp only [bs] at hg6
        refine d_skip rfl rfl ?_
        refine d_skip rfl rfl ?_
        refine d_skip rfl rfl ?_
        refine d_skip rfl rfl ?_
        refine d_skip rfl rfl ?_
        refine d_skip rfl rfl ?_
        refine d_skip rfl rfl ?_
        refine d_skip rfl rfl ?_
        refine d_skip rfl rfl ?_
        refine d_pure [(36, _), (45, _)] rfl rfl ⟨⟨rfl, rfl⟩, ⟨rfl, rfl⟩, trivial⟩ rfl (p_pick_f rfl rfl) ?_
        refine d_pure [(33, _), (46, _)] rfl rfl ⟨⟨rfl, rfl⟩, ⟨rfl, rfl⟩, trivial⟩ rfl (p_pick_f rfl rfl) ?_
        refine lex_end (sl' := [(0, _), (6, _), (7, _), (8, _), (47, _)]) rfl ⟨rfl, rfl, rfl, rfl, rfl, trivial⟩ rfl ?_
        refine hK9 _ ?_
        refine aw_cond_f rfl ?_
        refine aw_skip ?_
        refine hK6 _ ?_
        refine aw_region ?_
        first | refine x_pure rfl (p_add rfl rfl (by omega) (by omega)) ?_ | refine x_pure rfl (p_bin rfl rfl rfl) ?_
        refine x_pure rfl (p_move rfl) ?_
        first | refine aops_end ?_ | refine aops_nil ?_
        exact ⟨k+1, ⟨by omega, ris_next h2 (by omega) (show okE10 l[k] = true from by
         unfold okE10
         simp only [Bool.and_eq_true, decide_eq_true_eq]
         exact ⟨by first | assumption | (simp_all; done), ⟨⟨by omega, by omega⟩, by omega, by omega⟩, by omega, by omega⟩) (fun h0 => by simp only [nextN, decide_eq_true_eq]; omega)⟩, by omega, le_of ⟨rfl, rfl, rfl, rfl, trivial⟩⟩
      ·
       try simp only [bs] at hg5
       refine d_skip rfl rfl ?_
       refine d_skip rfl rfl ?_
       refine d_skip rfl rfl ?_
       refine d_skip rfl rfl ?_
       refine d_skip rfl rfl ?_
       refine d_skip rfl rfl ?_
       refine d_skip rfl rfl ?_
       refine d_skip rfl rfl ?_
       refine d_skip rfl rfl ?_
       refine d_skip rfl rfl ?_
       refine d_skip rfl rfl ?_
       refine d_skip rfl rfl ?_
       refine d_skip rfl rfl ?_
       refine d_pure [(33, _), (46, _)] rfl rfl ⟨⟨rfl, rfl⟩, ⟨rfl, rfl⟩, trivial⟩ rfl (p_pick_t rfl rfl) ?_
       refine lex_end (sl' := [(0, _), (6, _), (7, _), (8, _), (47, _)]) rfl ⟨rfl, rfl, rfl, rfl, rfl, trivial⟩ rfl ?_
       refine hK9 _ ?_
       refine aw_cond_t rfl ?_
       refine aw_seq_k (fun K11 hK11 => ?_)
       refine aw_region ?_
       refine x_pure rfl (p_assign rfl) ?_
       first | refine aops_end ?_ | refine aops_nil ?_
       refine hK11 _ ?_
       refine aw_ret ?_
       refine ⟨_, rfl, ?_⟩
       refine ret_bool ?_
       first | (rw [risX, ris_bad1 h2 (by omega) (show okE10 l[k] = false from by
        unfold okE10
        rw [Bool.eq_false_iff]
        simp only [ne_eq, Bool.and_eq_true, decide_eq_true_eq]
        rintro ⟨q1, ⟨⟨q2, q3⟩, ⟨q4, q5⟩⟩, q6, q7⟩
        first | omega | (simp_all; done) | (simp_all; omega))]; rfl) | (rw [risX, ris_bad2 h2 (by omega) (by omega) (show nextN _ _ = false from by simp only [nextN, decide_eq_false_iff_not]; omega)]; rfl)
     ·
      try simp only [bs] at hg4
      refine x_guard_f rfl rfl rfl ?_
      refine x_guard_f rfl rfl rfl ?_
      refine x_pure rfl (p_pick_f rfl rfl) ?_
      refine x_pure rfl (p_assign rfl) ?_
      first | refine aops_end ?_ | refine aops_nil ?_
      refine hK8 _ ?_
      refine aw_seq_k (fun K12 hK12 => ?_)
      refine aw_draw hf Try.mixed (by kernel_rfl) rfl ?_
      refine d_pure [(5, _)] rfl rfl ⟨⟨rfl, rfl⟩, trivial⟩ rfl (p_move rfl) ?_
      refine d_pure [(31, _)] rfl rfl ⟨⟨rfl, rfl⟩, trivial⟩ rfl (p_not rfl) ?_
      refine d_pure [(32, _)] rfl rfl ⟨⟨rfl, rfl⟩, trivial⟩ rfl (p_move rfl) ?_
      refine d_skip rfl rfl ?_
      refine d_skip rfl rfl ?_
      refine d_skip rfl rfl ?_
      refine d_skip rfl rfl ?_
      refine d_skip rfl rfl ?_
      refine d_skip rfl rfl ?_
      refine d_skip rfl rfl ?_
      refine d_skip rfl rfl ?_
      refine d_skip rfl rfl ?_
      refine d_skip rfl rfl ?_
      refine d_skip rfl rfl ?_
      refine d_skip rfl rfl ?_
      refine d_skip rfl rfl ?_
      refine d_pure [(33, _), (46, _)] rfl rfl ⟨⟨rfl, rfl⟩, ⟨rfl, rfl⟩, trivial⟩ rfl (p_pick_t rfl rfl) ?_
      refine lex_end (sl' := [(0, _), (6, _), (7, _), (8, _), (47, _)]) rfl ⟨rfl, rfl, rfl, rfl, rfl, trivial⟩ rfl ?_
      refine hK12 _ ?_
      refine aw_cond_t rfl ?_
      refine aw_seq_k (fun K13 hK13 => ?_)
      refine aw_region ?_
      refine x_pure rfl (p_assign rfl) ?_
      first | refine aops_end ?_ | refine aops_nil ?_
      refine hK13 _ ?_
      refine aw_ret ?_
      refine ⟨_, rfl, ?_⟩
      refine ret_bool ?_
      first | (rw [risX, ris_bad1 h2 (by omega) (show okE10 l[k] = false from by
       unfold okE10
       rw [Bool.eq_false_iff]
       simp only [ne_eq, Bool.and_eq_true, decide_eq_true_eq]
       rintro ⟨q1, ⟨⟨q2, q3⟩, ⟨q4, q5⟩⟩, q6, q7⟩
       first | omega | (simp_all; done) | (simp_all; omega))]; rfl) | (rw [risX, ris_bad2 h2 (by omega) (by omega) (show nextN _ _ = false from by simp only [nextN, decide_eq_false_iff_not]; omega)]; rfl)
    ·
     try simp only [bs] at hg3
     refine x_guard_f rfl rfl rfl ?_
     refine x_guard_f rfl rfl rfl ?_
     refine x_pure rfl (p_pick_f rfl rfl) ?_
     refine x_pure rfl (p_move rfl) ?_
     refine x_guard_f rfl rfl rfl ?_
     refine x_guard_f rfl rfl rfl ?_
     refine x_guard_f rfl rfl rfl ?_
     refine x_pure rfl (p_pick_f rfl rfl) ?_
     refine x_pure rfl (p_assign rfl) ?_
     first | refine aops_end ?_ | refine aops_nil ?_
     refine hK8 _ ?_
     refine aw_seq_k (fun K14 hK14 => ?_)
     refine aw_draw hf Try.mixed (by kernel_rfl) rfl ?_
     refine d_pure [(5, _)] rfl rfl ⟨⟨rfl, rfl⟩, trivial⟩ rfl (p_move rfl) ?_
     refine d_pure [(31, _)] rfl rfl ⟨⟨rfl, rfl⟩, trivial⟩ rfl (p_not rfl) ?_
     refine d_pure [(32, _)] rfl rfl ⟨⟨rfl, rfl⟩, trivial⟩ rfl (p_move rfl) ?_
     refine d_skip rfl rfl ?_
     refine d_skip rfl rfl ?_
     refine d_skip rfl rfl ?_
     refine d_skip rfl rfl ?_
     refine d_skip rfl rfl ?_
     refine d_skip rfl rfl ?_
     refine d_skip rfl rfl ?_
     refine d_skip rfl rfl ?_
     refine d_skip rfl rfl ?_
     refine d_skip rfl rfl ?_
     refine d_skip rfl rfl ?_
     refine d_skip rfl rfl ?_
     refine d_skip rfl rfl ?_
     refine d_pure [(33, _), (46, _)] rfl rfl ⟨⟨rfl, rfl⟩, ⟨rfl, rfl⟩, trivial⟩ rfl (p_pick_t rfl rfl) ?_
     refine lex_end (sl' := [(0, _), (6, _), (7, _), (8, _), (47, _)]) rfl ⟨rfl, rfl, rfl, rfl, rfl, trivial⟩ rfl ?_
     refine hK14 _ ?_
     refine aw_cond_t rfl ?_
     refine aw_seq_k (fun K15 hK15 => ?_)
     refine aw_region ?_
     refine x_pure rfl (p_assign rfl) ?_
     first | refine aops_end ?_ | refine aops_nil ?_
     refine hK15 _ ?_
     refine aw_ret ?_
     refine ⟨_, rfl, ?_⟩
     refine ret_bool ?_
     first | (rw [risX, ris_bad1 h2 (by omega) (show okE10 l[k] = false from by
      unfold okE10
      rw [Bool.eq_false_iff]
      simp only [ne_eq, Bool.and_eq_true, decide_eq_true_eq]
      rintro ⟨q1, ⟨⟨q2, q3⟩, ⟨q4, q5⟩⟩, q6, q7⟩
      first | omega | (simp_all; done) | (simp_all; omega))]; rfl) | (rw [risX, ris_bad2 h2 (by omega) (by omega) (show nextN _ _ = false from by simp only [nextN, decide_eq_false_iff_not]; omega)]; rfl)
   ·
    try simp only [bs] at hg2
    refine x_guard_f rfl rfl rfl ?_
    refine x_guard_f rfl rfl rfl ?_
    refine x_pure rfl (p_pick_f rfl rfl) ?_
    refine x_pure rfl (p_move rfl) ?_
    refine x_guard_f rfl rfl rfl ?_
    refine x_guard_f rfl rfl rfl ?_
    refine x_guard_f rfl rfl rfl ?_
    refine x_pure rfl (p_pick_f rfl rfl) ?_
    refine x_pure rfl (p_move rfl) ?_
    refine x_guard_f rfl rfl rfl ?_
    refine x_guard_f rfl rfl rfl ?_
    refine x_guard_f rfl rfl rfl ?_
    refine x_pure rfl (p_pick_f rfl rfl) ?_
    refine x_pure rfl (p_assign rfl) ?_
    first | refine aops_end ?_ | refine aops_nil ?_
    refine hK8 _ ?_
    refine aw_seq_k (fun K16 hK16 => ?_)
    refine aw_draw hf Try.mixed (by kernel_rfl) rfl ?_
    refine d_pure [(5, _)] rfl rfl ⟨⟨rfl, rfl⟩, trivial⟩ rfl (p_move rfl) ?_
    refine d_pure [(31, _)] rfl rfl ⟨⟨rfl, rfl⟩, trivial⟩ rfl (p_not rfl) ?_
    refine d_pure [(32, _)] rfl rfl ⟨⟨rfl, rfl⟩, trivial⟩ rfl (p_move rfl) ?_
    refine d_skip rfl rfl ?_
    refine d_skip rfl rfl ?_
    refine d_skip rfl rfl ?_
    refine d_skip rfl rfl ?_
    refine d_skip rfl rfl ?_
    refine d_skip rfl rfl ?_
    refine d_skip rfl rfl ?_
    refine d_skip rfl rfl ?_
    refine d_skip rfl rfl ?_
    refine d_skip rfl rfl ?_
    refine d_skip rfl rfl ?_
    refine d_skip rfl rfl ?_
    refine d_skip rfl rfl ?_
    refine d_pure [(33, _), (46, _)] rfl rfl ⟨⟨rfl, rfl⟩, ⟨rfl, rfl⟩, trivial⟩ rfl (p_pick_t rfl rfl) ?_
    refine lex_end (sl' := [(0, _), (6, _), (7, _), (8, _), (47, _)]) rfl ⟨rfl, rfl, rfl, rfl, rfl, trivial⟩ rfl ?_
    refine hK16 _ ?_
    refine aw_cond_t rfl ?_
    refine aw_seq_k (fun K17 hK17 => ?_)
    refine aw_region ?_
    refine x_pure rfl (p_assign rfl) ?_
    first | refine aops_end ?_ | refine aops_nil ?_
    refine hK17 _ ?_
    refine aw_ret ?_
    refine ⟨_, rfl, ?_⟩
    refine ret_bool ?_
    first | (rw [risX, ris_bad1 h2 (by omega) (show okE10 l[k] = false from by
     unfold okE10
     rw [Bool.eq_false_iff]
     simp only [ne_eq, Bool.and_eq_true, decide_eq_true_eq]
     rintro ⟨q1, ⟨⟨q2, q3⟩, ⟨q4, q5⟩⟩, q6, q7⟩
     first | omega | (simp_all; done) | (simp_all; omega))]; rfl) | (rw [risX, ris_bad2 h2 (by omega) (by omega) (show nextN _ _ = false from by simp only [nextN, decide_eq_false_iff_not]; omega)]; rfl)
  ·
   try simp only [bs] at hc1
   refine aw_exit ?_
   refine hK2 _ ?_
   refine aw_seq_k (fun K18 hK18 => ?_)
   refine aw_region ?_
   refine x_pure rfl (p_move rfl) ?_
   first | refine x_pure rfl (p_len_sl rfl Try.e26) ?_ | refine x_pure rfl (p_len_own rfl Try.e26) ?_ | refine x_pure rfl (p_len_nil rfl Try.e26) ?_
   refine x_pure rfl (p_bin rfl rfl rfl) ?_
   refine x_pure rfl (p_assign rfl) ?_
   first | refine aops_end ?_ | refine aops_nil ?_
   refine hK18 _ ?_
   refine aw_ret ?_
   refine ⟨_, rfl, ?_⟩
   refine ret_bool ?_
   rw [risX, ris_last h2 (by omega), Bool.true_and, Bool.eq_iff_iff]
   simp only [decide_eq_true_eq, List.length_map]
   first | rfl | omega

set_option maxRecDepth 20000 in
set_option maxHeartbeats 4000000 in
theorem refRising10_den (l : List Se) (hl : l.length ≤ 9223372036854775807) (ht : ∀ e ∈ l, TS e.1.2)  : Den Try.prog 16 [.sl 4 (l.map seC)]  (· = .s (.bool (risX l))) := by
 refine den_of_aw Try.func16 rfl (Nat.le_of_ble_eq_true rfl) (fun w0 A hf => ?_)
 refine aw_seq_k (fun K1 hK1 => ?_)
 refine aw_region ?_
 refine x_pure rfl (p_assign_bad) ?_
 first | refine aops_end ?_ | refine aops_nil ?_
 refine hK1 _ ?_
 refine aw_seq_k (fun K2 hK2 => ?_)
 refine aw_seq_k (fun K3 hK3 => ?_)
 refine aw_region ?_
 refine x_pure rfl (p_move rfl) ?_
 first | refine x_pure rfl (p_len_sl rfl Try.e22) ?_ | refine x_pure rfl (p_len_own rfl Try.e22) ?_ | refine x_pure rfl (p_len_nil rfl Try.e22) ?_
 refine x_pure rfl (p_bin rfl rfl rfl) ?_
 first | refine aops_end ?_ | refine aops_nil ?_
 refine hK3 _ ?_
 refine aw_cond_s rfl (fun hc1 => ?_) (fun hc1 => ?_)
 ·
  try simp only [bs] at hc1
  refine aw_seq_k (fun K4 hK4 => ?_)
  refine aw_region ?_
  refine x_pure rfl (p_assign rfl) ?_
  first | refine aops_end ?_ | refine aops_nil ?_
  refine hK4 _ ?_
  refine aw_ret ?_
  refine ⟨_, rfl, ?_⟩
  refine ret_bool ?_
  rw [risX, show decide (l.length ≤ 16) = false from by simp only [decide_eq_false_iff_not]; omega, Bool.and_false]
 ·
  try simp only [bs] at hc1
  refine aw_skip ?_
  refine hK2 _ ?_
  refine aw_seq_k (fun K5 hK5 => ?_)
  refine aw_seq_k (fun K6 hK6 => ?_)
  refine aw_region ?_
  refine x_pure rfl (p_assign rfl) ?_
  first | refine aops_end ?_ | refine aops_nil ?_
  refine hK6 _ ?_
  refine aw_block ?_
  refine aw_loop (ι := Nat) (fun k => ⟨65, [(0, .sl 4 (l.map seC)), (3, .s (.int .i64 (k : Nat)))], []⟩) (fun k => k ≤ l.length ∧ risP okE10 nextN none l = risP okE10 nextN (prevAt l k) (l.drop k)) (fun k => l.length - k) 0 ?_ ?_ ?_
  · exact ⟨Nat.zero_le _, rfl⟩
  · exact le_of ⟨rfl, rfl, trivial⟩
  ·
   rintro k hC
   obtain ⟨h1, h2⟩ := hC
   refine aw_seq_k (fun K7 hK7 => ?_)
   refine aw_seq_k (fun K8 hK8 => ?_)
   refine aw_region ?_
   refine x_pure rfl (p_move rfl) ?_
   refine x_pure rfl (p_move rfl) ?_
   first | refine x_pure rfl (p_len_sl rfl Try.e22) ?_ | refine x_pure rfl (p_len_own rfl Try.e22) ?_ | refine x_pure rfl (p_len_nil rfl Try.e22) ?_
   refine x_pure rfl (p_bin rfl rfl rfl) ?_
   first | refine aops_end ?_ | refine aops_nil ?_
   refine hK8 _ ?_
   refine aw_cond_s rfl (fun hc2 => ?_) (fun hc2 => ?_)
   ·
    try simp only [bs] at hc2
    refine aw_skip ?_
    refine hK7 _ ?_
    refine aw_seq_k (fun K9 hK9 => ?_)
    refine aw_block ?_
    refine aw_seq_k (fun K10 hK10 => ?_)
    refine aw_region ?_
    refine x_pure rfl (p_move rfl) ?_
    refine x_pure rfl (p_move rfl) ?_
    first | refine x_pure rfl (p_idx_sl rfl rfl Try.e22 Try.c24 (by first | assumption | (refine ⟨by omega, ?_⟩; first | assumption | exact strs_at (by omega) | exact strs_at (by simp only [List.length_cons] at *; omega) | exact ints_at (by omega) | exact map_at (by omega) | exact list_at (by omega)) | exact ⟨by decide, rfl⟩)) ?_ | refine x_pure rfl (p_idx_own rfl rfl Try.e22 Try.c24 (by omega)) ?_
    first | refine x_pure rfl (p_loads rfl Try.g24 Try.c24 rfl rfl) ?_ | refine x_pure rfl (p_loadsr rfl Try.g24 Try.c24 rfl rfl rfl) ?_
    refine x_allocst hf rfl Try.z24 rfl Try.c24 rfl rfl rfl rfl (by simp [seC, AV.cells, AV.leaf, Value.oneCell', splice, AV.kill, AV.clean, cleanL, AV.only]) ?_
    first | refine aops_end ?_ | refine aops_nil ?_
    refine hK10 _ ?_
    refine aw_seq_k (fun K11 hK11 => ?_)
    refine aw_seq_k (fun K12 hK12 => ?_)
    refine aw_region ?_
    first | refine x_pure rfl (p_fld_adr rfl Try.fd24_1 Try.c9 rfl) ?_ | refine x_pure rfl (p_fld_ref rfl Try.fd24_1 Try.c9 rfl) ?_
    first | refine x_pure rfl (p_load1 rfl Try.g9 rfl) ?_ | refine x_pure rfl (p_load1r rfl Try.g9 rfl rfl) ?_ | refine x_pure rfl (p_load1r rfl Try.g9 rfl (strs_ref (by simp only [List.length_cons] at *; omega))) ?_ | refine x_pure rfl (p_load1r rfl Try.g9 rfl (strs_ref (by omega))) ?_
    refine x_step hf rfl (r_call rfl rfl Try.ent44 rfl (Nm.refRight_den _ (ht _ (List.getElem_mem _)))) ?_
    refine x_pure rfl (p_not rfl) ?_
    refine x_pure rfl (p_move rfl) ?_
    refine y_guard_s rfl rfl rfl (fun hg3 => ?_) (fun hg3 => ?_)
    ·
     try simp only [bs] at hg3
     first | refine x_pure rfl (p_fld_adr rfl Try.fd24_0 Try.c3 rfl) ?_ | refine x_pure rfl (p_fld_ref rfl Try.fd24_0 Try.c3 rfl) ?_
     refine x_guard_t rfl rfl rfl ?_
     first | refine x_pure rfl (p_load1 rfl Try.g3 rfl) ?_ | refine x_pure rfl (p_load1r rfl Try.g3 rfl rfl) ?_ | refine x_pure rfl (p_load1r rfl Try.g3 rfl (strs_ref (by simp only [List.length_cons] at *; omega))) ?_ | refine x_pure rfl (p_load1r rfl Try.g3 rfl (strs_ref (by omega))) ?_
     refine x_guard_t rfl rfl rfl ?_
     refine x_pure rfl (p_bin rfl rfl rfl) ?_
     refine x_pure rfl (p_pick_f rfl rfl) ?_
     refine x_pure rfl (p_move rfl) ?_
     refine y_guard_s rfl rfl rfl (fun hg4 => ?_) (fun hg4 => ?_)
     ·
      try simp only [bs] at hg4
      first | refine x_pure rfl (p_fld_adr rfl Try.fd24_0 Try.c3 rfl) ?_ | refine x_pure rfl (p_fld_ref rfl Try.fd24_0 Try.c3 rfl) ?_
      refine x_guard_t rfl rfl rfl ?_
      first | refine x_pure rfl (p_load1 rfl Try.g3 rfl) ?_ | refine x_pure rfl (p_load1r rfl Try.g3 rfl rfl) ?_ | refine x_pure rfl (p_load1r rfl Try.g3 rfl (strs_ref (by simp only [List.length_cons] at *; omega))) ?_ | refine x_pure rfl (p_load1r rfl Try.g3 rfl (strs_ref (by omega))) ?_
      refine x_guard_t rfl rfl rfl ?_
      refine x_pure rfl (p_bin rfl rfl rfl) ?_
      refine x_pure rfl (p_pick_f rfl rfl) ?_
      refine x_pure rfl (p_move rfl) ?_
      refine y_guard_s rfl rfl rfl (fun hg5 => ?_) (fun hg5 => ?_)
      ·
       try simp only [bs] at hg5
       first | refine x_pure rfl (p_fld_adr rfl Try.fd24_2 Try.c3 rfl) ?_ | refine x_pure rfl (p_fld_ref rfl Try.fd24_2 Try.c3 rfl) ?_
       refine x_guard_t rfl rfl rfl ?_
       first | refine x_pure rfl (p_load1 rfl Try.g3 rfl) ?_ | refine x_pure rfl (p_load1r rfl Try.g3 rfl rfl) ?_ | refine x_pure rfl (p_load1r rfl Try.g3 rfl (strs_ref (by simp only [List.length_cons] at *; omega))) ?_ | refine x_pure rfl (p_load1r rfl Try.g3 rfl (strs_ref (by omega))) ?_
       refine x_guard_t rfl rfl rfl ?_
       refine x_pure rfl (p_bin rfl rfl rfl) ?_
       refine x_pure rfl (p_pick_f rfl rfl) ?_
       refine x_pure rfl (p_move rfl) ?_
       refine y_guard_s rfl rfl rfl (fun hg6 => ?_) (fun hg6 => ?_)
       ·
        try simp only [bs] at hg6
        first | refine x_pure rfl (p_fld_adr rfl Try.fd24_2 Try.c3 rfl) ?_ | refine x_pure rfl (p_fld_ref rfl Try.fd24_2 Try.c3 rfl) ?_
        refine x_guard_t rfl rfl rfl ?_
        first | refine x_pure rfl (p_load1 rfl Try.g3 rfl) ?_ | refine x_pure rfl (p_load1r rfl Try.g3 rfl rfl) ?_ | refine x_pure rfl (p_load1r rfl Try.g3 rfl (strs_ref (by simp only [List.length_cons] at *; omega))) ?_ | refine x_pure rfl (p_load1r rfl Try.g3 rfl (strs_ref (by omega))) ?_
        refine x_guard_t rfl rfl rfl ?_
        refine x_pure rfl (p_bin rfl rfl rfl) ?_
        refine x_pure rfl (p_pick_f rfl rfl) ?_
        refine x_pure rfl (p_move rfl) ?_
        refine y_guard_s rfl rfl rfl (fun hg7 => ?_) (fun hg7 => ?_)
        ·
         try simp only [bs] at hg7
         first | refine x_pure rfl (p_fld_adr rfl Try.fd24_3 Try.c3 rfl) ?_ | refine x_pure rfl (p_fld_ref rfl Try.fd24_3 Try.c3 rfl) ?_
         refine x_guard_t rfl rfl rfl ?_
         first | refine x_pure rfl (p_load1 rfl Try.g3 rfl) ?_ | refine x_pure rfl (p_load1r rfl Try.g3 rfl rfl) ?_ | refine x_pure rfl (p_load1r rfl Try.g3 rfl (strs_ref (by simp only [List.length_cons] at *; omega))) ?_ | refine x_pure rfl (p_load1r rfl Try.g3 rfl (strs_ref (by omega))) ?_
         refine x_guard_t rfl rfl rfl ?_
         refine x_pure rfl (p_bin rfl rfl rfl) ?_
         refine x_pure rfl (p_pick_f rfl rfl) ?_
         refine x_pure rfl (p_move rfl) ?_
         refine y_guard_s rfl rfl rfl (fun hg8 => ?_) (fun hg8 => ?_)
         ·
          try simp only [bs] at hg8
          first | refine x_pure rfl (p_fld_adr rfl Try.fd24_3 Try.c3 rfl) ?_ | refine x_pure rfl (p_fld_ref rfl Try.fd24_3 Try.c3 rfl) ?_
          refine x_guard_t rfl rfl rfl ?_
          first | refine x_pure rfl (p_load1 rfl Try.g3 rfl) ?_ | refine x_pure rfl (p_load1r rfl Try.g3 rfl rfl) ?_ | refine x_pure rfl (p_load1r rfl Try.g3 rfl (strs_ref (by simp only [List.length_cons] at *; omega))) ?_ | refine x_pure rfl (p_load1r rfl Try.g3 rfl (strs_ref (by omega))) ?_
          refine x_guard_t rfl rfl rfl ?_
          refine x_pure rfl (p_bin rfl rfl rfl) ?_
          refine x_pure rfl (p_pick_f rfl rfl) ?_
          first | refine aops_end ?_ | refine aops_nil ?_
          refine hK12 _ ?_
          refine aw_cond_s rfl (fun hc9 => ?_) (fun hc9 => ?_)
          ·
           try simp only [bs] at hc9
           refine aw_seq_k (fun K13 hK13 => ?_)
           refine aw_region ?_
           refine x_pure rfl (p_assign rfl) ?_
           first | refine aops_end ?_ | refine aops_nil ?_
           refine hK13 _ ?_
           refine aw_ret ?_
           refine ⟨_, rfl, ?_⟩
           refine ret_bool ?_
           first | (rw [risX, ris_bad1 h2 (by omega) (show okE10 l[k] = false from by
            unfold okE10
            rw [Bool.eq_false_iff]
            simp only [ne_eq, Bool.and_eq_true, decide_eq_true_eq]
            rintro ⟨q1, ⟨⟨q2, q3⟩, ⟨q4, q5⟩⟩, q6, q7⟩
            first | omega | (simp_all; done) | (simp_all; omega))]; rfl) | (rw [risX, ris_bad2 h2 (by omega) (by omega) (show nextN _ _ = false from by simp only [nextN, decide_eq_false_iff_not]; omega)]; rfl)
          ·
           try simp only [bs] at hc9
           refine aw_skip ?_
           refine hK11 _ ?_
           refine aw_seq_k (fun K14 hK14 => ?_)
           refine aw_draw hf Try.mixed (by kernel_rfl) rfl ?_
           refine d_pure [(3, _)] rfl rfl ⟨⟨rfl, rfl⟩, trivial⟩ rfl (p_move rfl) ?_
           refine d_pure [(52, _)] rfl rfl ⟨⟨rfl, rfl⟩, trivial⟩ rfl (p_bin rfl rfl rfl) ?_
           refine d_pure [(53, _)] rfl rfl ⟨⟨rfl, rfl⟩, trivial⟩ rfl (p_move rfl) ?_
           refine d_split 54 true rfl (fun hg10 => ?_) (fun hg10 => ?_)
           ·
            try simp only [bs] at hg10
            refine d_pure [(0, _)] rfl rfl ⟨⟨rfl, rfl⟩, trivial⟩ rfl (p_move rfl) ?_
            refine d_pure [(3, _)] rfl rfl ⟨⟨rfl, rfl⟩, trivial⟩ rfl (p_move rfl) ?_
            first | refine d_pure [(56, _)] rfl rfl ⟨⟨rfl, rfl⟩, trivial⟩ rfl (p_sub rfl rfl (by omega) (by omega)) ?_ | refine d_pure [(56, _)] rfl rfl ⟨⟨rfl, rfl⟩, trivial⟩ rfl (p_bin rfl rfl rfl) ?_
            refine d_pure [(55, _), (57, _)] rfl rfl ⟨⟨rfl, rfl⟩, ⟨rfl, rfl⟩, trivial⟩ rfl (p_idx_sl rfl rfl Try.e22 Try.c24 (map_atZ (k := k - 1) (by omega) (by omega))) ?_
            first | refine d_pure [(58, _)] rfl rfl ⟨⟨rfl, rfl⟩, trivial⟩ rfl (p_fld_adr rfl Try.fd24_0 Try.c3 rfl) ?_ | refine d_pure [(58, _)] rfl rfl ⟨⟨rfl, rfl⟩, trivial⟩ rfl (p_fld_ref rfl Try.fd24_0 Try.c3 rfl) ?_
            first | refine d_pure [(59, _)] rfl rfl ⟨⟨rfl, rfl⟩, trivial⟩ rfl (p_load1 rfl Try.g3 rfl) ?_ | refine d_pure [(59, _)] rfl rfl ⟨⟨rfl, rfl⟩, trivial⟩ rfl (p_load1r rfl Try.g3 rfl rfl) ?_ | refine d_pure [(59, _)] rfl rfl ⟨⟨rfl, rfl⟩, trivial⟩ rfl (p_load1r rfl Try.g3 rfl (strs_ref (by simp only [List.length_cons] at *; omega))) ?_ | refine d_pure [(59, _)] rfl rfl ⟨⟨rfl, rfl⟩, trivial⟩ rfl (p_load1r rfl Try.g3 rfl (strs_ref (by omega))) ?_
            first | refine d_pure [(4, _)] rfl rfl ⟨⟨rfl, rfl⟩, trivial⟩ rfl (p_fld_adr rfl Try.fd24_0 Try.c3 rfl) ?_ | refine d_pure [(4, _)] rfl rfl ⟨⟨rfl, rfl⟩, trivial⟩ rfl (p_fld_ref rfl Try.fd24_0 Try.c3 rfl) ?_
            first | refine d_pure [(61, _)] rfl rfl ⟨⟨rfl, rfl⟩, trivial⟩ rfl (p_load1 rfl Try.g3 rfl) ?_ | refine d_pure [(61, _)] rfl rfl ⟨⟨rfl, rfl⟩, trivial⟩ rfl (p_load1r rfl Try.g3 rfl rfl) ?_ | refine d_pure [(61, _)] rfl rfl ⟨⟨rfl, rfl⟩, trivial⟩ rfl (p_load1r rfl Try.g3 rfl (strs_ref (by simp only [List.length_cons] at *; omega))) ?_ | refine d_pure [(61, _)] rfl rfl ⟨⟨rfl, rfl⟩, trivial⟩ rfl (p_load1r rfl Try.g3 rfl (strs_ref (by omega))) ?_
            refine d_pure [(60, _), (62, _)] rfl rfl ⟨⟨rfl, rfl⟩, ⟨rfl, rfl⟩, trivial⟩ rfl (p_bin rfl rfl rfl) ?_
            refine d_pure [(54, _), (63, _)] rfl rfl ⟨⟨rfl, rfl⟩, ⟨rfl, rfl⟩, trivial⟩ rfl (p_pick_t rfl rfl) ?_
            refine lex_end (sl' := [(0, _), (3, _), (64, _)]) rfl ⟨rfl, rfl, rfl, trivial⟩ rfl ?_
            refine hK14 _ ?_
            refine aw_cond_s rfl (fun hc11 => ?_) (fun hc11 => ?_)
            ·
             try simp only [bs] at hc11
             refine aw_seq_k (fun K15 hK15 => ?_)
             refine aw_region ?_
             refine x_pure rfl (p_assign rfl) ?_
             first | refine aops_end ?_ | refine aops_nil ?_
             refine hK15 _ ?_
             refine aw_ret ?_
             refine ⟨_, rfl, ?_⟩
             refine ret_bool ?_
             first | (rw [risX, ris_bad1 h2 (by omega) (show okE10 l[k] = false from by
              unfold okE10
              rw [Bool.eq_false_iff]
              simp only [ne_eq, Bool.and_eq_true, decide_eq_true_eq]
              rintro ⟨q1, ⟨⟨q2, q3⟩, ⟨q4, q5⟩⟩, q6, q7⟩
              first | omega | (simp_all; done) | (simp_all; omega))]; rfl) | (rw [risX, ris_bad2 h2 (by omega) (by omega) (show nextN _ _ = false from by simp only [nextN, decide_eq_false_iff_not]; omega)]; rfl)
            ·
             try simp only [bs] at hc11
             refine aw_skip ?_
             refine hK9 _ ?_
             refine aw_region ?_
             refine x_pure rfl (p_move rfl) ?_
             first | refine x_pure rfl (p_add rfl rfl (by omega) (by omega)) ?_ | refine x_pure rfl (p_bin rfl rfl rfl) ?_
             refine x_pure rfl (p_assign rfl) ?_
             first | refine aops_end ?_ | refine aops_nil ?_
             exact ⟨k+1, ⟨by omega, ris_next h2 (by omega) (show okE10 l[k] = true from by
              unfold okE10
              simp only [Bool.and_eq_true, decide_eq_true_eq]
              exact ⟨by first | assumption | (simp_all; done), ⟨⟨by omega, by omega⟩, by omega, by omega⟩, by omega, by omega⟩) (fun h0 => by simp only [nextN, decide_eq_true_eq]; omega)⟩, by omega, le_of ⟨rfl, rfl, trivial⟩⟩
           ·
            try simp only [bs] at hg10
            refine d_skip rfl rfl ?_
            refine d_skip rfl rfl ?_
            refine d_skip rfl rfl ?_
            refine d_skip rfl rfl ?_
            refine d_skip rfl rfl ?_
            refine d_skip rfl rfl ?_
            refine d_skip rfl rfl ?_
            refine d_skip rfl rfl ?_
            refine d_skip rfl rfl ?_
            refine d_pure [(54, _), (63, _)] rfl rfl ⟨⟨rfl, rfl⟩, ⟨rfl, rfl⟩, trivial⟩ rfl (p_pick_f rfl rfl) ?_
            refine lex_end (sl' := [(0, _), (3, _), (64, _)]) rfl ⟨rfl, rfl, rfl, trivial⟩ rfl ?_
            refine hK14 _ ?_
            refine aw_cond_f rfl ?_
            refine aw_skip ?_
            refine hK9 _ ?_
            refine aw_region ?_
            refine x_pure rfl (p_move rfl) ?_
            first | refine x_pure rfl (p_add rfl rfl (by omega) (by omega)) ?_ | refine x_pure rfl (p_bin rfl rfl rfl) ?_
            refine x_pure rfl (p_assign rfl) ?_
            first | refine aops_end ?_ | refine aops_nil ?_
            exact ⟨k+1, ⟨by omega, ris_next h2 (by omega) (show okE10 l[k] = true from by
             unfold okE10
             simp only [Bool.and_eq_true, decide_eq_true_eq]
             exact ⟨by first | assumption | (simp_all; done), ⟨⟨by omega, by omega⟩, by omega, by omega⟩, by omega, by omega⟩) (fun h0 => by simp only [nextN, decide_eq_true_eq]; omega)⟩, by omega, le_of ⟨rfl, rfl, trivial⟩⟩
         ·
          try simp only [bs] at hg8
          refine x_guard_f rfl rfl rfl ?_
          refine x_guard_f rfl rfl rfl ?_
          refine x_pure rfl (p_pick_t rfl rfl) ?_
          first | refine aops_end ?_ | refine aops_nil ?_
          refine hK12 _ ?_
          refine aw_cond_t rfl ?_
          refine aw_seq_k (fun K16 hK16 => ?_)
          refine aw_region ?_
          refine x_pure rfl (p_assign rfl) ?_
          first | refine aops_end ?_ | refine aops_nil ?_
          refine hK16 _ ?_
          refine aw_ret ?_
          refine ⟨_, rfl, ?_⟩
          refine ret_bool ?_
          first | (rw [risX, ris_bad1 h2 (by omega) (show okE10 l[k] = false from by
           unfold okE10
           rw [Bool.eq_false_iff]
           simp only [ne_eq, Bool.and_eq_true, decide_eq_true_eq]
           rintro ⟨q1, ⟨⟨q2, q3⟩, ⟨q4, q5⟩⟩, q6, q7⟩
           first | omega | (simp_all; done) | (simp_all; omega))]; rfl) | (rw [risX, ris_bad2 h2 (by omega) (by omega) (show nextN _ _ = false from by simp only [nextN, decide_eq_false_iff_not]; omega)]; rfl)
        ·
         try simp only [bs] at hg7
         refine x_guard_f rfl rfl rfl ?_
         refine x_guard_f rfl rfl rfl ?_
         refine x_pure rfl (p_pick_t rfl rfl) ?_
         refine x_pure rfl (p_move rfl) ?_
         refine x_guard_f rfl rfl rfl ?_
         refine x_guard_f rfl rfl rfl ?_
         refine x_guard_f rfl rfl rfl ?_
         refine x_pure rfl (p_pick_t rfl rfl) ?_
         first | refine aops_end ?_ | refine aops_nil ?_
         refine hK12 _ ?_
         refine aw_cond_t rfl ?_
         refine aw_seq_k (fun K17 hK17 => ?_)
         refine aw_region ?_
         refine x_pure rfl (p_assign rfl) ?_
         first | refine aops_end ?_ | refine aops_nil ?_
         refine hK17 _ ?_
         refine aw_ret ?_
         refine ⟨_, rfl, ?_⟩
         refine ret_bool ?_
         first | (rw [risX, ris_bad1 h2 (by omega) (show okE10 l[k] = false from by
          unfold okE10
          rw [Bool.eq_false_iff]
          simp only [ne_eq, Bool.and_eq_true, decide_eq_true_eq]
          rintro ⟨q1, ⟨⟨q2, q3⟩, ⟨q4, q5⟩⟩, q6, q7⟩
          first | omega | (simp_all; done) | (simp_all; omega))]; rfl) | (rw [risX, ris_bad2 h2 (by omega) (by omega) (show nextN _ _ = false from by simp only [nextN, decide_eq_false_iff_not]; omega)]; rfl)
       ·
        try simp only [bs] at hg6
        refine x_guard_f rfl rfl rfl ?_
        refine x_guard_f rfl rfl rfl ?_
        refine x_pure rfl (p_pick_t rfl rfl) ?_
        refine x_pure rfl (p_move rfl) ?_
        refine x_guard_f rfl rfl rfl ?_
        refine x_guard_f rfl rfl rfl ?_
        refine x_guard_f rfl rfl rfl ?_
        refine x_pure rfl (p_pick_t rfl rfl) ?_
        refine x_pure rfl (p_move rfl) ?_
        refine x_guard_f rfl rfl rfl ?_
        refine x_guard_f rfl rfl rfl ?_
        refine x_guard_f rfl rfl rfl ?_
        refine x_pure rfl (p_pick_t rfl rfl) ?_
        first | refine aops_end ?_ | refine aops_nil ?_
        refine hK12 _ ?_
        refine aw_cond_t rfl ?_
        refine aw_seq_k (fun K18 hK18 => ?_)
        refine aw_region ?_
        refine x_pure rfl (p_assign rfl) ?_
        first | refine aops_end ?_ | refine aops_nil ?_
        refine hK18 _ ?_
        refine aw_ret ?_
        refine ⟨_, rfl, ?_⟩
        refine ret_bool ?_
        first | (rw [risX, ris_bad1 h2 (by omega) (show okE10 l[k] = false from by
         unfold okE10
         rw [Bool.eq_false_iff]
         simp only [ne_eq, Bool.and_eq_true, decide_eq_true_eq]
         rintro ⟨q1, ⟨⟨q2, q3⟩, ⟨q4, q5⟩⟩, q6, q7⟩
         first | omega | (simp_all; done) | (simp_all; omega))]; rfl) | (rw [risX, ris_bad2 h2 (by omega) (by omega) (show nextN _ _ = false from by simp only [nextN, decide_eq_false_iff_not]; omega)]; rfl)
      ·
       try simp only [bs] at hg5
       refine x_guard_f rfl rfl rfl ?_
       refine x_guard_f rfl rfl rfl ?_
       refine x_pure rfl (p_pick_t rfl rfl) ?_
       refine x_pure rfl (p_move rfl) ?_
       refine x_guard_f rfl rfl rfl ?_
       refine x_guard_f rfl rfl rfl ?_
       refine x_guard_f rfl rfl rfl ?_
       refine x_pure rfl (p_pick_t rfl rfl) ?_
       refine x_pure rfl (p_move rfl) ?_
       refine x_guard_f rfl rfl rfl ?_
       refine x_guard_f rfl rfl rfl ?_
       refine x_guard_f rfl rfl rfl ?_
       refine x_pure rfl (p_pick_t rfl rfl) ?_
       refine x_pure rfl (p_move rfl) ?_
       refine x_guard_f rfl rfl rfl ?_
       refine x_guard_f rfl rfl rfl ?_
       refine x_guard_f rfl rfl rfl ?_
       refine x_pure rfl (p_pick_t rfl rfl) ?_
       first | refine aops_end ?_ | refine aops_nil ?_
       refine hK12 _ ?_
       refine aw_cond_t rfl ?_
       refine aw_seq_k (fun K19 hK19 => ?_)
       refine aw_region ?_
       refine x_pure rfl (p_assign rfl) ?_
       first | refine aops_end ?_ | refine aops_nil ?_
       refine hK19 _ ?_
       refine aw_ret ?_
       refine ⟨_, rfl, ?_⟩
       refine ret_bool ?_
       first | (rw [risX, ris_bad1 h2 (by omega) (show okE10 l[k] = false from by
        unfold okE10
        rw [Bool.eq_false_iff]
        simp only [ne_eq, Bool.and_eq_true, decide_eq_true_eq]
        rintro ⟨q1, ⟨⟨q2, q3⟩, ⟨q4, q5⟩⟩, q6, q7⟩
        first | omega | (simp_all; done) | (simp_all; omega))]; rfl) | (rw [risX, ris_bad2 h2 (by omega) (by omega) (show nextN _ _ = false from by simp only [nextN, decide_eq_false_iff_not]; omega)]; rfl)
     ·
      try simp only [bs] at hg4
      refine x_guard_f rfl rfl rfl ?_
      refine x_guard_f rfl rfl rfl ?_
      refine x_pure rfl (p_pick_t rfl rfl) ?_
      refine x_pure rfl (p_move rfl) ?_
      refine x_guard_f rfl rfl rfl ?_
      refine x_guard_f rfl rfl rfl ?_
      refine x_guard_f rfl rfl rfl ?_
      refine x_pure rfl (p_pick_t rfl rfl) ?_
      refine x_pure rfl (p_move rfl) ?_
      refine x_guard_f rfl rfl rfl ?_
      refine x_guard_f rfl rfl rfl ?_
      refine x_guard_f rfl rfl rfl ?_
      refine x_pure rfl (p_pick_t rfl rfl) ?_
      refine x_pure rfl (p_move rfl) ?_
      refine x_guard_f rfl rfl rfl ?_
      refine x_guard_f rfl rfl rfl ?_
      refine x_guard_f rfl rfl rfl ?_
      refine x_pure rfl (p_pick_t rfl rfl) ?_
      refine x_pure rfl (p_move rfl) ?_
      refine x_guard_f rfl rfl rfl ?_
      refine x_guard_f rfl rfl rfl ?_
      refine x_guard_f rfl rfl rfl ?_
      refine x_pure rfl (p_pick_t rfl rfl) ?_
      first | refine aops_end ?_ | refine aops_nil ?_
      refine hK12 _ ?_
      refine aw_cond_t rfl ?_
      refine aw_seq_k (fun K20 hK20 => ?_)
      refine aw_region ?_
      refine x_pure rfl (p_assign rfl) ?_
      first | refine aops_end ?_ | refine aops_nil ?_
      refine hK20 _ ?_
      refine aw_ret ?_
      refine ⟨_, rfl, ?_⟩
      refine ret_bool ?_
      first | (rw [risX, ris_bad1 h2 (by omega) (show okE10 l[k] = false from by
       unfold okE10
       rw [Bool.eq_false_iff]
       simp only [ne_eq, Bool.and_eq_true, decide_eq_true_eq]
       rintro ⟨q1, ⟨⟨q2, q3⟩, ⟨q4, q5⟩⟩, q6, q7⟩
       first | omega | (simp_all; done) | (simp_all; omega))]; rfl) | (rw [risX, ris_bad2 h2 (by omega) (by omega) (show nextN _ _ = false from by simp only [nextN, decide_eq_false_iff_not]; omega)]; rfl)
    ·
     try simp only [bs] at hg3
     refine x_guard_f rfl rfl rfl ?_
     refine x_guard_f rfl rfl rfl ?_
     refine x_pure rfl (p_pick_t rfl rfl) ?_
     refine x_pure rfl (p_move rfl) ?_
     refine x_guard_f rfl rfl rfl ?_
     refine x_guard_f rfl rfl rfl ?_
     refine x_guard_f rfl rfl rfl ?_
     refine x_pure rfl (p_pick_t rfl rfl) ?_
     refine x_pure rfl (p_move rfl) ?_
     refine x_guard_f rfl rfl rfl ?_
     refine x_guard_f rfl rfl rfl ?_
     refine x_guard_f rfl rfl rfl ?_
     refine x_pure rfl (p_pick_t rfl rfl) ?_
     refine x_pure rfl (p_move rfl) ?_
     refine x_guard_f rfl rfl rfl ?_
     refine x_guard_f rfl rfl rfl ?_
     refine x_guard_f rfl rfl rfl ?_
     refine x_pure rfl (p_pick_t rfl rfl) ?_
     refine x_pure rfl (p_move rfl) ?_
     refine x_guard_f rfl rfl rfl ?_
     refine x_guard_f rfl rfl rfl ?_
     refine x_guard_f rfl rfl rfl ?_
     refine x_pure rfl (p_pick_t rfl rfl) ?_
     refine x_pure rfl (p_move rfl) ?_
     refine x_guard_f rfl rfl rfl ?_
     refine x_guard_f rfl rfl rfl ?_
     refine x_guard_f rfl rfl rfl ?_
     refine x_pure rfl (p_pick_t rfl rfl) ?_
     first | refine aops_end ?_ | refine aops_nil ?_
     refine hK12 _ ?_
     refine aw_cond_t rfl ?_
     refine aw_seq_k (fun K21 hK21 => ?_)
     refine aw_region ?_
     refine x_pure rfl (p_assign rfl) ?_
     first | refine aops_end ?_ | refine aops_nil ?_
     refine hK21 _ ?_
     refine aw_ret ?_
     refine ⟨_, rfl, ?_⟩
     refine ret_bool ?_
     first | (rw [risX, ris_bad1 h2 (by omega) (show okE10 l[k] = false from by
      unfold okE10
      rw [Bool.eq_false_iff]
      simp only [ne_eq, Bool.and_eq_true, decide_eq_true_eq]
      rintro ⟨q1, ⟨⟨q2, q3⟩, ⟨q4, q5⟩⟩, q6, q7⟩
      first | omega | (simp_all; done) | (simp_all; omega))]; rfl) | (rw [risX, ris_bad2 h2 (by omega) (by omega) (show nextN _ _ = false from by simp only [nextN, decide_eq_false_iff_not]; omega)]; rfl)
   ·
    try simp only [bs] at hc2
    refine aw_exit ?_
    refine hK5 _ ?_
    refine aw_seq_k (fun K22 hK22 => ?_)
    refine aw_region ?_
    refine x_pure rfl (p_assign rfl) ?_
    first | refine aops_end ?_ | refine aops_nil ?_
    refine hK22 _ ?_
    refine aw_ret ?_
    refine ⟨_, rfl, ?_⟩
    refine ret_bool ?_
    rw [risX, ris_last h2 (by omega), show decide (l.length ≤ 16) = true from by simp only [decide_eq_true_eq]; omega]; rfl
end Go.Proofs.Ytcjchfocohagdaa
