import Derived.Test.YtcjchfocohagdaaSW2
set_option linter.unusedVariables false
set_option linter.unusedSimpArgs false
namespace Go.Proofs.Ytcjchfocohagdaa
open Go Go.Abs

set_option maxRecDepth 20000 in
set_option maxHeartbeats 4000000 in
theorem open10_den (l : List Se) (e : Se) (hl : l.length * 40 ≤ 140737488351232)  : Den Try.prog 12 [.sl 4 (l.map seC), .agg (seC e)]  (· = .tup [.sl 4 ((opnR l e).map seC), .s (.int .i64 (opnS l e))]) := by
 refine den_of_aw Try.func12 rfl (Nat.le_of_ble_eq_true rfl) (fun w0 A hf => ?_)
 refine aw_seq_k (fun K1 hK1 => ?_)
 refine aw_region ?_
 refine x_step hf rfl (r_box rfl rfl (by simp [seC, AV.cells, AV.leaf, Value.oneCell', splice, AV.kill, AV.clean, cleanL, AV.only])) ?_
 refine x_pure rfl (p_assign_bad) ?_
 refine x_pure rfl (p_assign_bad) ?_
 first | refine aops_end ?_ | refine aops_nil ?_
 refine hK1 _ ?_
 refine aw_seq_k (fun K2 hK2 => ?_)
 refine aw_region ?_
 refine x_pure rfl (p_move rfl) ?_
 first | refine x_pure rfl (p_fld_adr rfl Try.fd31_0 Try.c3 rfl) ?_ | refine x_pure rfl (p_fld_ref rfl Try.fd31_0 Try.c3 rfl) ?_
 first | refine x_pure rfl (p_load1 rfl Try.g3 rfl) ?_ | refine x_pure rfl (p_load1r rfl Try.g3 rfl rfl) ?_ | refine x_pure rfl (p_load1r rfl Try.g3 rfl (strs_ref (by simp only [List.length_cons] at *; omega))) ?_ | refine x_pure rfl (p_load1r rfl Try.g3 rfl (strs_ref (by omega))) ?_
 first | refine x_pure rfl (p_fld_adr rfl Try.fd31_1 Try.c9 rfl) ?_ | refine x_pure rfl (p_fld_ref rfl Try.fd31_1 Try.c9 rfl) ?_
 first | refine x_pure rfl (p_load1 rfl Try.g9 rfl) ?_ | refine x_pure rfl (p_load1r rfl Try.g9 rfl rfl) ?_ | refine x_pure rfl (p_load1r rfl Try.g9 rfl (strs_ref (by simp only [List.length_cons] at *; omega))) ?_ | refine x_pure rfl (p_load1r rfl Try.g9 rfl (strs_ref (by omega))) ?_
 refine x_step hf rfl (r_call rfl rfl Try.ent39 rfl (at10_den _ _ _ (by omega))) ?_
 refine x_pure rfl (p_move rfl) ?_
 refine x_pure rfl (p_extract rfl rfl) ?_
 refine x_pure rfl (p_extract rfl rfl) ?_
 refine x_pure rfl (p_assign_bad) ?_
 refine x_pure rfl (p_assign rfl) ?_
 first | refine aops_end ?_ | refine aops_nil ?_
 refine hK2 _ ?_
 refine aw_seq_k (fun K3 hK3 => ?_)
 refine aw_block ?_
 refine aw_seq_k (fun K4 hK4 => ?_)
 refine aw_region ?_
 refine x_pure rfl (p_move rfl) ?_
 refine x_pure rfl (p_bin rfl rfl rfl) ?_
 refine x_pure rfl (p_assign rfl) ?_
 first | refine aops_end ?_ | refine aops_nil ?_
 refine hK4 _ ?_
 refine aw_cond_s rfl (fun hc1 => ?_) (fun hc1 => ?_)
 ·
  try simp only [bs] at hc1
  refine aw_seq_k (fun K5 hK5 => ?_)
  refine aw_region ?_
  refine x_pure rfl (p_nil (k := 4)) ?_
  refine x_pure rfl (p_assign rfl) ?_
  first | refine aops_end ?_ | refine aops_nil ?_
  refine hK5 _ ?_
  refine aw_ret ?_
  refine ⟨_, rfl, ?_⟩
  have ho : opnS l e = 100 := by
   unfold opnS
   rw [if_pos (by have := (code_not (l := l) (n := e.1.1) (u := e.1.2)); cases hh : hasN l e.1.1 <;> simp_all)]
  rw [opnR, if_neg (by omega), ho]; rfl
 ·
  try simp only [bs] at hc1
  have hno : hasN l e.1.1 = false := (code_not (u := e.1.2)).1 (by assumption)
  refine aw_seq_k (fun K6 hK6 => ?_)
  refine aw_region ?_
  refine x_pure rfl (p_move rfl) ?_
  first | refine x_pure rfl (p_len_sl rfl Try.e26) ?_ | refine x_pure rfl (p_len_own rfl Try.e26) ?_ | refine x_pure rfl (p_len_nil rfl Try.e26) ?_
  refine x_pure rfl (p_bin rfl rfl rfl) ?_
  refine x_pure rfl (p_assign rfl) ?_
  first | refine aops_end ?_ | refine aops_nil ?_
  refine hK6 _ ?_
  refine aw_cond_s rfl (fun hc2 => ?_) (fun hc2 => ?_)
  ·
   try simp only [bs] at hc2
   refine aw_seq_k (fun K7 hK7 => ?_)
   refine aw_region ?_
   refine x_pure rfl (p_nil (k := 4)) ?_
   refine x_pure rfl (p_assign rfl) ?_
   first | refine aops_end ?_ | refine aops_nil ?_
   refine hK7 _ ?_
   refine aw_ret ?_
   refine ⟨_, rfl, ?_⟩
   have ho : opnS l e = 103 := by
    unfold opnS
    rw [if_neg (by simp [hno]), if_pos (by omega)]
   rw [opnR, if_neg (by omega), ho]; rfl
  ·
   try simp only [bs] at hc2
   refine aw_skip ?_
   refine hK3 _ ?_
   refine aw_seq_k (fun K8 hK8 => ?_)
   refine aw_region ?_
   refine x_pure rfl (p_move rfl) ?_
   refine x_pure rfl (p_makeFunc rfl) ?_
   refine x_step hf rfl (r_call rfl rfl Try.ent40 rfl (xIndexFunc_den Try.ent41 rfl (aboveN e.1.1) l (by omega) (fun x _ => open1_den x e))) ?_
   refine x_pure rfl (p_assign rfl) ?_
   first | refine aops_end ?_ | refine aops_nil ?_
   refine hK8 _ ?_
   refine aw_seq_k (fun K9 hK9 => ?_)
   refine aw_seq_k (fun K10 hK10 => ?_)
   refine aw_region ?_
   refine x_pure rfl (p_move rfl) ?_
   refine x_pure rfl (p_bin rfl rfl rfl) ?_
   first | refine aops_end ?_ | refine aops_nil ?_
   refine hK10 _ ?_
   refine aw_cond_s rfl (fun hc3 => ?_) (fun hc3 => ?_)
   ·
    try simp only [bs] at hc3
    obtain ⟨k, hk⟩ : ∃ k : Nat, k = l.length := ⟨_, rfl⟩
    have hnA : ∀ x ∈ l, aboveN e.1.1 x = false := by
     rcases idxB_cases (aboveN e.1.1) l with ⟨_, h⟩ | ⟨k', _, e0, _⟩
     · exact h
     · exfalso; omega
    have hins := insG_at (aboveN e.1.1) e l k (by omega) (fun j hj _ => hnA _ (List.getElem_mem hj)) (fun h => by omega)
    refine aw_region ?_
    refine x_pure rfl (p_move rfl) ?_
    first | refine x_pure rfl (p_len_sl rfl Try.e26) ?_ | refine x_pure rfl (p_len_own rfl Try.e26) ?_ | refine x_pure rfl (p_len_nil rfl Try.e26) ?_
    rw [List.length_map, ← hk]
    refine x_pure rfl (p_assign rfl) ?_
    first | refine aops_end ?_ | refine aops_nil ?_
    refine hK9 _ ?_
    refine aw_seq_k (fun K11 hK11 => ?_)
    refine aw_draw hf Try.mixed (by kernel_rfl) rfl ?_
    refine d_pure [(0, _)] rfl rfl ⟨⟨rfl, rfl⟩, trivial⟩ rfl (p_move rfl) ?_
    refine d_pure [(8, _)] rfl rfl ⟨⟨rfl, rfl⟩, trivial⟩ rfl (p_move rfl) ?_
    refine d_pure [(32, _), (33, _)] rfl rfl ⟨⟨rfl, rfl⟩, ⟨rfl, rfl⟩, trivial⟩ rfl (p_slice_sl rfl Try.e26 Try.c31 rfl (bnd_z rfl (by omega)) (by omega) (by simp only [List.length_map, Int.toNat_natCast] <;> omega) (slice_to (k := k) (by omega))) ?_
    first | refine d_pure [(3, _)] rfl rfl ⟨⟨rfl, rfl⟩, trivial⟩ rfl (p_loads rfl Try.g31 Try.c31 rfl rfl) ?_ | refine d_pure [(3, _)] rfl rfl ⟨⟨rfl, rfl⟩, trivial⟩ rfl (p_loadsr rfl Try.g31 Try.c31 rfl rfl rfl) ?_
    refine d_rstep [(35, _)] rfl rfl ⟨⟨rfl, rfl⟩, trivial⟩ rfl (r_buildSlice Try.ap26 rfl rfl rfl rfl (by simp [seC, AV.cells, AV.leaf, Value.oneCell', splice, AV.kill, AV.clean, cleanL, AV.only])) ?_
    refine d_pure [(0, _)] rfl rfl ⟨⟨rfl, rfl⟩, trivial⟩ rfl (p_move rfl) ?_
    refine d_pure [(8, _)] rfl rfl ⟨⟨rfl, rfl⟩, trivial⟩ rfl (p_move rfl) ?_
    refine d_pure [(37, _), (38, _)] rfl rfl ⟨⟨rfl, rfl⟩, ⟨rfl, rfl⟩, trivial⟩ rfl (p_slice_sl rfl Try.e26 Try.c31 (bnd_z rfl (by omega)) rfl (by simp only [List.length_map, Int.toNat_natCast] <;> omega) (by omega) (slice_from (k := k) (by omega))) ?_
    refine d_rstep [(34, _), (36, _), (39, _)] rfl rfl ⟨⟨rfl, rfl⟩, ⟨rfl, rfl⟩, ⟨rfl, rfl⟩, trivial⟩ rfl (r_buildSlice Try.ap104 rfl rfl rfl rfl (by simp [seC, AV.cells, AV.leaf, Value.oneCell', splice, AV.kill, AV.clean, cleanL, AV.only])) ?_
    refine d_rstep [(40, _)] rfl rfl ⟨⟨rfl, rfl⟩, trivial⟩ rfl (r_call rfl rfl Try.ent42 rfl ((show Den Try.prog _ _ (· = .sl 4 ((l.take k ++ e :: l.drop k).map seC)) from (den_of_deno' (xConcat_den [l.take k, [e], l.drop k] (by simp) (by simp only [List.flatten_cons, List.flatten_nil, List.length_append, List.length_take, List.length_drop, List.length_cons, List.length_nil]; omega))).mono fun r h => h.trans (by simp)))) ?_
    refine d_pure [(41, _)] rfl rfl ⟨⟨rfl, rfl⟩, trivial⟩ rfl (p_assign rfl) ?_
    refine d_pure [] rfl rfl trivial rfl (p_assign rfl) ?_
    refine lex_end (sl' := [(4, _), (5, _)]) rfl ⟨rfl, rfl, trivial⟩ rfl ?_
    refine hK11 _ ?_
    refine aw_ret ?_
    refine ⟨_, rfl, ?_⟩
    have ho : opnS l e = 0 := by
     unfold opnS
     rw [if_neg (by simp [hno]), if_neg (by omega)]
    rw [opnR, if_pos ho, ho, opnL, hins]; rfl
   ·
    try simp only [bs] at hc3
    obtain ⟨k, hk, ek, hk1, hk2⟩ : ∃ k : Nat, ∃ h : k < l.length, idxB (aboveN e.1.1) l = (k : Nat) ∧ aboveN e.1.1 l[k] = true ∧ ∀ (j : Nat) (hj : j < l.length), j < k → aboveN e.1.1 l[j] = false := by
     rcases idxB_cases (aboveN e.1.1) l with ⟨e0, _⟩ | ⟨k', h1, e0, h2, h3⟩
     · exfalso; omega
     · exact ⟨k', h1, e0, h2, h3⟩
    rw [ek]
    have hins := insG_at (aboveN e.1.1) e l k (by omega) hk2 (fun _ => hk1)
    refine aw_skip ?_
    refine hK9 _ ?_
    refine aw_seq_k (fun K12 hK12 => ?_)
    refine aw_draw hf Try.mixed (by kernel_rfl) rfl ?_
    refine d_pure [(0, _)] rfl rfl ⟨⟨rfl, rfl⟩, trivial⟩ rfl (p_move rfl) ?_
    refine d_pure [(8, _)] rfl rfl ⟨⟨rfl, rfl⟩, trivial⟩ rfl (p_move rfl) ?_
    refine d_pure [(32, _), (33, _)] rfl rfl ⟨⟨rfl, rfl⟩, ⟨rfl, rfl⟩, trivial⟩ rfl (p_slice_sl rfl Try.e26 Try.c31 rfl (bnd_z rfl (by omega)) (by omega) (by simp only [List.length_map, Int.toNat_natCast] <;> omega) (slice_to (k := k) (by omega))) ?_
    first | refine d_pure [(3, _)] rfl rfl ⟨⟨rfl, rfl⟩, trivial⟩ rfl (p_loads rfl Try.g31 Try.c31 rfl rfl) ?_ | refine d_pure [(3, _)] rfl rfl ⟨⟨rfl, rfl⟩, trivial⟩ rfl (p_loadsr rfl Try.g31 Try.c31 rfl rfl rfl) ?_
    refine d_rstep [(35, _)] rfl rfl ⟨⟨rfl, rfl⟩, trivial⟩ rfl (r_buildSlice Try.ap26 rfl rfl rfl rfl (by simp [seC, AV.cells, AV.leaf, Value.oneCell', splice, AV.kill, AV.clean, cleanL, AV.only])) ?_
    refine d_pure [(0, _)] rfl rfl ⟨⟨rfl, rfl⟩, trivial⟩ rfl (p_move rfl) ?_
    refine d_pure [(8, _)] rfl rfl ⟨⟨rfl, rfl⟩, trivial⟩ rfl (p_move rfl) ?_
    refine d_pure [(37, _), (38, _)] rfl rfl ⟨⟨rfl, rfl⟩, ⟨rfl, rfl⟩, trivial⟩ rfl (p_slice_sl rfl Try.e26 Try.c31 (bnd_z rfl (by omega)) rfl (by simp only [List.length_map, Int.toNat_natCast] <;> omega) (by omega) (slice_from (k := k) (by omega))) ?_
    refine d_rstep [(34, _), (36, _), (39, _)] rfl rfl ⟨⟨rfl, rfl⟩, ⟨rfl, rfl⟩, ⟨rfl, rfl⟩, trivial⟩ rfl (r_buildSlice Try.ap104 rfl rfl rfl rfl (by simp [seC, AV.cells, AV.leaf, Value.oneCell', splice, AV.kill, AV.clean, cleanL, AV.only])) ?_
    refine d_rstep [(40, _)] rfl rfl ⟨⟨rfl, rfl⟩, trivial⟩ rfl (r_call rfl rfl Try.ent42 rfl ((show Den Try.prog _ _ (· = .sl 4 ((l.take k ++ e :: l.drop k).map seC)) from (den_of_deno' (xConcat_den [l.take k, [e], l.drop k] (by simp) (by simp only [List.flatten_cons, List.flatten_nil, List.length_append, List.length_take, List.length_drop, List.length_cons, List.length_nil]; omega))).mono fun r h => h.trans (by simp)))) ?_
    refine d_pure [(41, _)] rfl rfl ⟨⟨rfl, rfl⟩, trivial⟩ rfl (p_assign rfl) ?_
    refine d_pure [] rfl rfl trivial rfl (p_assign rfl) ?_
    refine lex_end (sl' := [(4, _), (5, _)]) rfl ⟨rfl, rfl, trivial⟩ rfl ?_
    refine hK12 _ ?_
    refine aw_ret ?_
    refine ⟨_, rfl, ?_⟩
    have ho : opnS l e = 0 := by
     unfold opnS
     rw [if_neg (by simp [hno]), if_neg (by omega)]
    rw [opnR, if_pos ho, ho, opnL, hins]; rfl

set_option maxRecDepth 20000 in
set_option maxHeartbeats 4000000 in
theorem refOpen10_den (l : List Se) (e : Se) (hl : l.length * 40 ≤ 140737488351232)  : Den Try.prog 13 [.sl 4 (l.map seC), .agg (seC e)]  (· = .tup [.sl 4 ((opnR l e).map seC), .s (.int .i64 (opnS l e))]) := by
 refine den_of_aw Try.func13 rfl (Nat.le_of_ble_eq_true rfl) (fun w0 A hf => ?_)
 refine aw_seq_k (fun K1 hK1 => ?_)
 refine aw_region ?_
 refine x_step hf rfl (r_box rfl rfl (by simp [seC, AV.cells, AV.leaf, Value.oneCell', splice, AV.kill, AV.clean, cleanL, AV.only])) ?_
 refine x_pure rfl (p_assign_bad) ?_
 refine x_pure rfl (p_assign_bad) ?_
 first | refine aops_end ?_ | refine aops_nil ?_
 refine hK1 _ ?_
 refine aw_seq_k (fun K2 hK2 => ?_)
 refine aw_seq_k (fun K3 hK3 => ?_)
 refine aw_region ?_
 refine x_pure rfl (p_move rfl) ?_
 first | refine x_pure rfl (p_fld_adr rfl Try.fd24_0 Try.c3 rfl) ?_ | refine x_pure rfl (p_fld_ref rfl Try.fd24_0 Try.c3 rfl) ?_
 first | refine x_pure rfl (p_load1 rfl Try.g3 rfl) ?_ | refine x_pure rfl (p_load1r rfl Try.g3 rfl rfl) ?_ | refine x_pure rfl (p_load1r rfl Try.g3 rfl (strs_ref (by simp only [List.length_cons] at *; omega))) ?_ | refine x_pure rfl (p_load1r rfl Try.g3 rfl (strs_ref (by omega))) ?_
 refine x_step hf rfl (r_call rfl rfl Try.ent43 rfl (refAt10_den _ _ (by omega))) ?_
 refine x_pure rfl (p_bin rfl rfl rfl) ?_
 first | refine aops_end ?_ | refine aops_nil ?_
 refine hK3 _ ?_
 refine aw_cond_s rfl (fun hc1 => ?_) (fun hc1 => ?_)
 ·
  try simp only [bs] at hc1
  refine aw_seq_k (fun K4 hK4 => ?_)
  refine aw_region ?_
  refine x_pure rfl (p_nil (k := 4)) ?_
  refine x_pure rfl (p_assign rfl) ?_
  first | refine aops_end ?_ | refine aops_nil ?_
  refine hK4 _ ?_
  refine aw_ret ?_
  refine ⟨_, rfl, ?_⟩
  have ho : opnS l e = 100 := by
   unfold opnS
   rw [if_pos (by rcases idxB_cases (isN e.1.1) l with ⟨e0, _⟩ | ⟨k', h1, e0, h2, h3⟩; exact absurd e0 (by omega); exact List.any_eq_true.2 ⟨_, List.getElem_mem h1, h2⟩)]
  rw [opnR, if_neg (by omega), ho]; rfl
 ·
  try simp only [bs] at hc1
  have hno : hasN l e.1.1 = false := by
   rcases idxB_cases (isN e.1.1) l with ⟨_, h⟩ | ⟨k', h1, e0, h2, h3⟩
   · exact (at_none e.1.1 e.1.2 l (fun j hj => h _ (List.getElem_mem hj))).2.2
   · exfalso; omega
  refine aw_skip ?_
  refine hK2 _ ?_
  refine aw_seq_k (fun K5 hK5 => ?_)
  refine aw_seq_k (fun K6 hK6 => ?_)
  refine aw_region ?_
  refine x_pure rfl (p_move rfl) ?_
  first | refine x_pure rfl (p_len_sl rfl Try.e22) ?_ | refine x_pure rfl (p_len_own rfl Try.e22) ?_ | refine x_pure rfl (p_len_nil rfl Try.e22) ?_
  refine x_pure rfl (p_bin rfl rfl rfl) ?_
  first | refine aops_end ?_ | refine aops_nil ?_
  refine hK6 _ ?_
  refine aw_cond_s rfl (fun hc2 => ?_) (fun hc2 => ?_)
  ·
   try simp only [bs] at hc2
   refine aw_seq_k (fun K7 hK7 => ?_)
   refine aw_region ?_
   refine x_pure rfl (p_nil (k := 4)) ?_
   refine x_pure rfl (p_assign rfl) ?_
   first | refine aops_end ?_ | refine aops_nil ?_
   refine hK7 _ ?_
   refine aw_ret ?_
   refine ⟨_, rfl, ?_⟩
   have ho : opnS l e = 103 := by
    unfold opnS
    rw [if_neg (by simp [hno]), if_pos (by omega)]
   rw [opnR, if_neg (by omega), ho]; rfl
  ·
   try simp only [bs] at hc2
   refine aw_skip ?_
   refine hK5 _ ?_
   refine aw_seq_k (fun K8 hK8 => ?_)
   refine aw_region ?_
   refine x_pure rfl (p_assign rfl) ?_
   first | refine aops_end ?_ | refine aops_nil ?_
   refine hK8 _ ?_
   refine aw_seq_k (fun K9 hK9 => ?_)
   refine aw_block ?_
   refine aw_loop (ι := Nat) (fun k => ⟨46, [(0, .sl 4 (l.map seC)), (3, .adr (seC e)), (6, .s (.int .i64 (k : Nat)))], []⟩) (fun k => k ≤ l.length ∧ ∀ (j : Nat) (hj : j < l.length), j < k → aboveN e.1.1 l[j] = false) (fun k => l.length - k) 0 ?_ ?_ ?_
   · exact ⟨Nat.zero_le _, by omega⟩
   · exact le_of ⟨rfl, rfl, rfl, trivial⟩
   ·
    rintro k hC
    obtain ⟨h1, h2⟩ := hC
    refine aw_seq_k (fun K10 hK10 => ?_)
    refine aw_seq_k (fun K11 hK11 => ?_)
    refine aw_draw hf Try.mixed (by kernel_rfl) rfl ?_
    refine d_pure [(6, _)] rfl rfl ⟨⟨rfl, rfl⟩, trivial⟩ rfl (p_move rfl) ?_
    refine d_pure [(0, _)] rfl rfl ⟨⟨rfl, rfl⟩, trivial⟩ rfl (p_move rfl) ?_
    first | refine d_pure [(17, _)] rfl rfl ⟨⟨rfl, rfl⟩, trivial⟩ rfl (p_len_sl rfl Try.e22) ?_ | refine d_pure [(17, _)] rfl rfl ⟨⟨rfl, rfl⟩, trivial⟩ rfl (p_len_own rfl Try.e22) ?_ | refine d_pure [(17, _)] rfl rfl ⟨⟨rfl, rfl⟩, trivial⟩ rfl (p_len_nil rfl Try.e22) ?_
    refine d_pure [(16, _), (18, _)] rfl rfl ⟨⟨rfl, rfl⟩, ⟨rfl, rfl⟩, trivial⟩ rfl (p_bin rfl rfl rfl) ?_
    refine d_pure [(19, _)] rfl rfl ⟨⟨rfl, rfl⟩, trivial⟩ rfl (p_move rfl) ?_
    refine d_split 20 true rfl (fun hg3 => ?_) (fun hg3 => ?_)
    ·
     try simp only [bs] at hg3
     refine d_pure [(0, _)] rfl rfl ⟨⟨rfl, rfl⟩, trivial⟩ rfl (p_move rfl) ?_
     refine d_pure [(6, _)] rfl rfl ⟨⟨rfl, rfl⟩, trivial⟩ rfl (p_move rfl) ?_
     first | refine d_pure [(21, _), (22, _)] rfl rfl ⟨⟨rfl, rfl⟩, ⟨rfl, rfl⟩, trivial⟩ rfl (p_idx_sl rfl rfl Try.e22 Try.c24 (by first | assumption | (refine ⟨by omega, ?_⟩; first | assumption | exact strs_at (by omega) | exact strs_at (by simp only [List.length_cons] at *; omega) | exact ints_at (by omega) | exact map_at (by omega) | exact list_at (by omega)) | exact ⟨by decide, rfl⟩)) ?_ | refine d_pure [(21, _), (22, _)] rfl rfl ⟨⟨rfl, rfl⟩, ⟨rfl, rfl⟩, trivial⟩ rfl (p_idx_own rfl rfl Try.e22 Try.c24 (by omega)) ?_
     first | refine d_pure [(23, _)] rfl rfl ⟨⟨rfl, rfl⟩, trivial⟩ rfl (p_fld_adr rfl Try.fd24_0 Try.c3 rfl) ?_ | refine d_pure [(23, _)] rfl rfl ⟨⟨rfl, rfl⟩, trivial⟩ rfl (p_fld_ref rfl Try.fd24_0 Try.c3 rfl) ?_
     first | refine d_pure [(24, _)] rfl rfl ⟨⟨rfl, rfl⟩, trivial⟩ rfl (p_load1 rfl Try.g3 rfl) ?_ | refine d_pure [(24, _)] rfl rfl ⟨⟨rfl, rfl⟩, trivial⟩ rfl (p_load1r rfl Try.g3 rfl rfl) ?_ | refine d_pure [(24, _)] rfl rfl ⟨⟨rfl, rfl⟩, trivial⟩ rfl (p_load1r rfl Try.g3 rfl (strs_ref (by simp only [List.length_cons] at *; omega))) ?_ | refine d_pure [(24, _)] rfl rfl ⟨⟨rfl, rfl⟩, trivial⟩ rfl (p_load1r rfl Try.g3 rfl (strs_ref (by omega))) ?_
     first | refine d_pure [(3, _)] rfl rfl ⟨⟨rfl, rfl⟩, trivial⟩ rfl (p_fld_adr rfl Try.fd24_0 Try.c3 rfl) ?_ | refine d_pure [(3, _)] rfl rfl ⟨⟨rfl, rfl⟩, trivial⟩ rfl (p_fld_ref rfl Try.fd24_0 Try.c3 rfl) ?_
     first | refine d_pure [(26, _)] rfl rfl ⟨⟨rfl, rfl⟩, trivial⟩ rfl (p_load1 rfl Try.g3 rfl) ?_ | refine d_pure [(26, _)] rfl rfl ⟨⟨rfl, rfl⟩, trivial⟩ rfl (p_load1r rfl Try.g3 rfl rfl) ?_ | refine d_pure [(26, _)] rfl rfl ⟨⟨rfl, rfl⟩, trivial⟩ rfl (p_load1r rfl Try.g3 rfl (strs_ref (by simp only [List.length_cons] at *; omega))) ?_ | refine d_pure [(26, _)] rfl rfl ⟨⟨rfl, rfl⟩, trivial⟩ rfl (p_load1r rfl Try.g3 rfl (strs_ref (by omega))) ?_
     refine d_pure [(25, _), (27, _)] rfl rfl ⟨⟨rfl, rfl⟩, ⟨rfl, rfl⟩, trivial⟩ rfl (p_bin rfl rfl rfl) ?_
     refine d_pure [(20, _), (28, _)] rfl rfl ⟨⟨rfl, rfl⟩, ⟨rfl, rfl⟩, trivial⟩ rfl (p_pick_t rfl rfl) ?_
     refine lex_end (sl' := [(0, _), (3, _), (6, _), (29, _)]) rfl ⟨rfl, rfl, rfl, rfl, trivial⟩ rfl ?_
     refine hK11 _ ?_
     refine aw_cond_s rfl (fun hc4 => ?_) (fun hc4 => ?_)
     ·
      try simp only [bs] at hc4
      refine aw_skip ?_
      refine hK10 _ ?_
      refine aw_block ?_
      refine aw_region ?_
      refine x_pure rfl (p_move rfl) ?_
      first | refine x_pure rfl (p_add rfl rfl (by omega) (by omega)) ?_ | refine x_pure rfl (p_bin rfl rfl rfl) ?_
      refine x_pure rfl (p_assign rfl) ?_
      first | refine aops_end ?_ | refine aops_nil ?_
      exact ⟨k+1, ⟨by omega, fun j hj hjk => by
       by_cases e0 : j = k
       · subst e0; simp only [aboveN, decide_eq_false_iff_not]; (try simp only [decide_eq_true_eq, decide_eq_false_iff_not, Bool.not_eq_true'] at *); omega
       · exact h2 j hj (by omega)⟩, by omega, le_of ⟨rfl, rfl, rfl, trivial⟩⟩
     ·
      try simp only [bs] at hc4
      refine aw_exit ?_
      refine hK9 _ ?_
      refine aw_seq_k (fun K12 hK12 => ?_)
      refine aw_region ?_
      have hins := insG_at (aboveN e.1.1) e l k (by omega) h2 (fun h => by simp only [aboveN, decide_eq_true_eq]; (try simp only [decide_eq_true_eq, decide_eq_false_iff_not, Bool.not_eq_true'] at *); omega)
      refine y_buildSlice hf rfl rfl rfl Try.ap22 rfl rfl rfl rfl (by simp [seC, AV.cells, AV.leaf, Value.oneCell', splice, AV.kill, AV.clean, cleanL, AV.only]) ?_
      refine x_pure rfl (p_move rfl) ?_
      refine x_pure rfl (p_move rfl) ?_
      refine x_pure rfl (p_slice_sl rfl Try.e22 Try.c24 rfl (bnd_z rfl (by omega)) (by omega) (by simp only [List.length_map, Int.toNat_natCast] <;> omega) (slice_to (k := k) (by omega))) ?_
      refine x_append hf rfl Try.ap22 rfl rfl rfl (.inl rfl) (by first | rfl | (simp only [List.length_append, List.length_map, List.length_cons, List.length_nil, List.length_take] <;> omega)) rfl (by first | rfl | simp [asrc, look]) (by first | (simp only [maxLen, List.length_map, List.length_append, List.length_cons, List.length_nil]; omega) | (simp [maxLen] <;> omega)) (by first | (simp only [List.length_map, List.length_append, List.length_cons, List.length_nil]; omega) | (simp <;> omega)) ?_
      refine aops_le (le_of (sl' := [(0, _), (3, _), (6, _), (36, _)]) ⟨rfl, rfl, rfl, rfl, trivial⟩) ?_
      refine x_pure rfl (p_assign rfl) ?_
      first | refine aops_end ?_ | refine aops_nil ?_
      refine hK12 _ ?_
      refine aw_seq_k (fun K13 hK13 => ?_)
      refine aw_region ?_
      refine x_pure rfl (p_move rfl) ?_
      first | refine x_pure rfl (p_loads rfl Try.g24 Try.c24 rfl rfl) ?_ | refine x_pure rfl (p_loadsr rfl Try.g24 Try.c24 rfl rfl rfl) ?_
      refine x_step hf rfl (r_buildSlice Try.ap22 rfl rfl rfl rfl (by simp [seC, AV.cells, AV.leaf, Value.oneCell', splice, AV.kill, AV.clean, cleanL, AV.only])) ?_
      refine x_append hf rfl Try.ap22 rfl rfl rfl (.inl rfl) (by first | rfl | (simp only [List.length_append, List.length_map, List.length_cons, List.length_nil, List.length_take] <;> omega)) rfl (by first | rfl | simp [asrc, look]) (by first | (simp only [maxLen, List.length_map, List.length_append, List.length_cons, List.length_nil]; omega) | (simp [maxLen] <;> omega)) (by first | (simp only [List.length_map, List.length_append, List.length_cons, List.length_nil]; omega) | (simp <;> omega)) ?_
      refine aops_le (le_of (sl' := [(0, _), (6, _), (40, _)]) ⟨rfl, rfl, rfl, trivial⟩) ?_
      refine x_pure rfl (p_assign rfl) ?_
      first | refine aops_end ?_ | refine aops_nil ?_
      refine hK13 _ ?_
      refine aw_seq_k (fun K14 hK14 => ?_)
      refine aw_region ?_
      refine x_pure rfl (p_move rfl) ?_
      refine x_pure rfl (p_move rfl) ?_
      refine x_pure rfl (p_move rfl) ?_
      refine x_pure rfl (p_slice_sl rfl Try.e22 Try.c24 (bnd_z rfl (by omega)) rfl (by simp only [List.length_map, Int.toNat_natCast] <;> omega) (by omega) (slice_from (k := k) (by omega))) ?_
      refine x_append hf rfl Try.ap22 rfl rfl rfl (.inl rfl) (by first | rfl | (simp only [List.length_append, List.length_map, List.length_cons, List.length_nil, List.length_take] <;> omega)) rfl (by first | rfl | simp [asrc, look]) (by first | (simp only [maxLen, List.length_map, List.length_append, List.length_cons, List.length_nil]; omega) | (simp [maxLen] <;> omega)) (by first | (simp only [List.length_map, List.length_append, List.length_cons, List.length_nil]; omega) | (simp <;> omega)) ?_
      refine aops_le (le_of (sl' := [(45, _)]) ⟨rfl, trivial⟩) ?_
      refine x_pure rfl (p_assign rfl) ?_
      refine x_pure rfl (p_assign rfl) ?_
      first | refine aops_end ?_ | refine aops_nil ?_
      refine hK14 _ ?_
      refine aw_ret ?_
      refine ⟨_, rfl, ?_⟩
      have ho : opnS l e = 0 := by
       unfold opnS
       rw [if_neg (by simp [hno]), if_neg (by omega)]
      refine (congrArg (fun z => AV.tup [z, .s (.int .i64 0)]) (conv_whole (g := 32) rfl ?_)).trans ?_
      · simp only [List.length_append, List.length_map, List.length_cons, List.length_nil, List.length_take]
      · rw [opnR, if_pos ho, ho, opnL, hins]; first | (simp; done) | (simp; rfl)
    ·
     try simp only [bs] at hg3
     refine d_skip rfl rfl ?_
     refine d_skip rfl rfl ?_
     refine d_skip rfl rfl ?_
     refine d_skip rfl rfl ?_
     refine d_skip rfl rfl ?_
     refine d_skip rfl rfl ?_
     refine d_skip rfl rfl ?_
     refine d_skip rfl rfl ?_
     refine d_pure [(20, _), (28, _)] rfl rfl ⟨⟨rfl, rfl⟩, ⟨rfl, rfl⟩, trivial⟩ rfl (p_pick_f rfl rfl) ?_
     refine lex_end (sl' := [(0, _), (3, _), (6, _), (29, _)]) rfl ⟨rfl, rfl, rfl, rfl, trivial⟩ rfl ?_
     refine hK11 _ ?_
     refine aw_cond_f rfl ?_
     refine aw_exit ?_
     refine hK9 _ ?_
     refine aw_seq_k (fun K15 hK15 => ?_)
     refine aw_region ?_
     have hins := insG_at (aboveN e.1.1) e l k (by omega) h2 (fun h => by simp only [aboveN, decide_eq_true_eq]; (try simp only [decide_eq_true_eq, decide_eq_false_iff_not, Bool.not_eq_true'] at *); omega)
     refine y_buildSlice hf rfl rfl rfl Try.ap22 rfl rfl rfl rfl (by simp [seC, AV.cells, AV.leaf, Value.oneCell', splice, AV.kill, AV.clean, cleanL, AV.only]) ?_
     refine x_pure rfl (p_move rfl) ?_
     refine x_pure rfl (p_move rfl) ?_
     refine x_pure rfl (p_slice_sl rfl Try.e22 Try.c24 rfl (bnd_z rfl (by omega)) (by omega) (by simp only [List.length_map, Int.toNat_natCast] <;> omega) (slice_to (k := k) (by omega))) ?_
     refine x_append hf rfl Try.ap22 rfl rfl rfl (.inl rfl) (by first | rfl | (simp only [List.length_append, List.length_map, List.length_cons, List.length_nil, List.length_take] <;> omega)) rfl (by first | rfl | simp [asrc, look]) (by first | (simp only [maxLen, List.length_map, List.length_append, List.length_cons, List.length_nil]; omega) | (simp [maxLen] <;> omega)) (by first | (simp only [List.length_map, List.length_append, List.length_cons, List.length_nil]; omega) | (simp <;> omega)) ?_
     refine aops_le (le_of (sl' := [(0, _), (3, _), (6, _), (36, _)]) ⟨rfl, rfl, rfl, rfl, trivial⟩) ?_
     refine x_pure rfl (p_assign rfl) ?_
     first | refine aops_end ?_ | refine aops_nil ?_
     refine hK15 _ ?_
     refine aw_seq_k (fun K16 hK16 => ?_)
     refine aw_region ?_
     refine x_pure rfl (p_move rfl) ?_
     first | refine x_pure rfl (p_loads rfl Try.g24 Try.c24 rfl rfl) ?_ | refine x_pure rfl (p_loadsr rfl Try.g24 Try.c24 rfl rfl rfl) ?_
     refine x_step hf rfl (r_buildSlice Try.ap22 rfl rfl rfl rfl (by simp [seC, AV.cells, AV.leaf, Value.oneCell', splice, AV.kill, AV.clean, cleanL, AV.only])) ?_
     refine x_append hf rfl Try.ap22 rfl rfl rfl (.inl rfl) (by first | rfl | (simp only [List.length_append, List.length_map, List.length_cons, List.length_nil, List.length_take] <;> omega)) rfl (by first | rfl | simp [asrc, look]) (by first | (simp only [maxLen, List.length_map, List.length_append, List.length_cons, List.length_nil]; omega) | (simp [maxLen] <;> omega)) (by first | (simp only [List.length_map, List.length_append, List.length_cons, List.length_nil]; omega) | (simp <;> omega)) ?_
     refine aops_le (le_of (sl' := [(0, _), (6, _), (40, _)]) ⟨rfl, rfl, rfl, trivial⟩) ?_
     refine x_pure rfl (p_assign rfl) ?_
     first | refine aops_end ?_ | refine aops_nil ?_
     refine hK16 _ ?_
     refine aw_seq_k (fun K17 hK17 => ?_)
     refine aw_region ?_
     refine x_pure rfl (p_move rfl) ?_
     refine x_pure rfl (p_move rfl) ?_
     refine x_pure rfl (p_move rfl) ?_
     refine x_pure rfl (p_slice_sl rfl Try.e22 Try.c24 (bnd_z rfl (by omega)) rfl (by simp only [List.length_map, Int.toNat_natCast] <;> omega) (by omega) (slice_from (k := k) (by omega))) ?_
     refine x_append hf rfl Try.ap22 rfl rfl rfl (.inl rfl) (by first | rfl | (simp only [List.length_append, List.length_map, List.length_cons, List.length_nil, List.length_take] <;> omega)) rfl (by first | rfl | simp [asrc, look]) (by first | (simp only [maxLen, List.length_map, List.length_append, List.length_cons, List.length_nil]; omega) | (simp [maxLen] <;> omega)) (by first | (simp only [List.length_map, List.length_append, List.length_cons, List.length_nil]; omega) | (simp <;> omega)) ?_
     refine aops_le (le_of (sl' := [(45, _)]) ⟨rfl, trivial⟩) ?_
     refine x_pure rfl (p_assign rfl) ?_
     refine x_pure rfl (p_assign rfl) ?_
     first | refine aops_end ?_ | refine aops_nil ?_
     refine hK17 _ ?_
     refine aw_ret ?_
     refine ⟨_, rfl, ?_⟩
     have ho : opnS l e = 0 := by
      unfold opnS
      rw [if_neg (by simp [hno]), if_neg (by omega)]
     refine (congrArg (fun z => AV.tup [z, .s (.int .i64 0)]) (conv_whole (g := 32) rfl ?_)).trans ?_
     · simp only [List.length_append, List.length_map, List.length_cons, List.length_nil, List.length_take]
     · rw [opnR, if_pos ho, ho, opnL, hins]; first | (simp; done) | (simp; rfl)
end Go.Proofs.Ytcjchfocohagdaa
