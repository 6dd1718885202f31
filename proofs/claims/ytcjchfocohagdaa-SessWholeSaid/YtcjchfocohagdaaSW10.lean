import Derived.Test.YtcjchfocohagdaaSW8
import Derived.Test.YtcjchfocohagdaaP2
set_option linter.unusedVariables false
set_option linter.unusedSimpArgs false
namespace Go.Proofs.Ytcjchfocohagdaa
open Go Go.Abs

theorem refSame8X_den (a b : List Stay) (h : a = b) (ha : a.length ≤ 9223372036854775807) : Den Try.prog 25 [.sl 4 (a.map stC), .sl 4 (b.map stC)] (· = .s (.bool true)) := by
  subst h
  exact (refSame8_den a a ha ha).mono fun r h => h.trans (by simp)
theorem refSame2X_den (a b : List ByteArray) (h : a = b) (ha : a.length ≤ 9223372036854775807) : Den Try.prog 29 [.sl 1 (strs a), .sl 1 (strs b)] (· = .s (.bool true)) := by
  subst h
  exact (refSame2_den a a ha ha).mono fun r h => h.trans (by simp)

set_option maxRecDepth 20000 in
set_option maxHeartbeats 8000000 in
theorem sessTells_den (l m : List Se) (u : ByteArray) (t : Int) (hl : l.length * 40 ≤ 140737488351232) (ht : ∀ e ∈ l, TS e.1.2) (hm : m.length * 40 ≤ 140737488351232)  : Den Try.prog 6 [.agg [.sl 4 (l.map seC), .sl 4 (m.map seC)], .s (.string u), .s (.int .i64 t)]  (· = .s (.bool true)) := by
 refine den_of_aw Try.func6 rfl (Nat.le_of_ble_eq_true rfl) (fun w0 A hf => ?_)
 refine aw_seq_k (fun K1 hK1 => ?_)
 refine aw_region ?_
 refine x_step hf rfl (r_box rfl rfl (by simp [seC, stC, spC, AV.cells, AV.leaf, Value.oneCell', splice, AV.kill, AV.clean, cleanL, AV.only])) ?_
 refine x_pure rfl (p_assign_bad) ?_
 first | refine aops_end ?_ | refine aops_nil ?_
 refine hK1 _ ?_
 refine aw_seq_k (fun K2 hK2 => ?_)
 refine aw_draw hf Try.mixed (by kernel_rfl) rfl ?_
 refine d_pure [(3, _)] rfl rfl ⟨⟨rfl, rfl⟩, trivial⟩ rfl (p_idx_arr rfl rfl Try.ar59 Try.c22 (by first | decide | omega) rfl) ?_
 first | refine d_pure [(10, _)] rfl rfl ⟨⟨rfl, rfl⟩, trivial⟩ rfl (p_load1 rfl Try.g22 rfl) ?_ | refine d_pure [(10, _)] rfl rfl ⟨⟨rfl, rfl⟩, trivial⟩ rfl (p_load1r rfl Try.g22 rfl rfl) ?_ | refine d_pure [(10, _)] rfl rfl ⟨⟨rfl, rfl⟩, trivial⟩ rfl (p_load1r rfl Try.g22 rfl (strs_ref (by simp only [List.length_cons] at *; omega))) ?_ | refine d_pure [(10, _)] rfl rfl ⟨⟨rfl, rfl⟩, trivial⟩ rfl (p_load1r rfl Try.g22 rfl (strs_ref (by omega))) ?_
 refine d_pure [(3, _)] rfl rfl ⟨⟨rfl, rfl⟩, trivial⟩ rfl (p_idx_arr rfl rfl Try.ar59 Try.c22 (by first | decide | omega) rfl) ?_
 first | refine d_pure [(12, _)] rfl rfl ⟨⟨rfl, rfl⟩, trivial⟩ rfl (p_load1 rfl Try.g22 rfl) ?_ | refine d_pure [(12, _)] rfl rfl ⟨⟨rfl, rfl⟩, trivial⟩ rfl (p_load1r rfl Try.g22 rfl rfl) ?_ | refine d_pure [(12, _)] rfl rfl ⟨⟨rfl, rfl⟩, trivial⟩ rfl (p_load1r rfl Try.g22 rfl (strs_ref (by simp only [List.length_cons] at *; omega))) ?_ | refine d_pure [(12, _)] rfl rfl ⟨⟨rfl, rfl⟩, trivial⟩ rfl (p_load1r rfl Try.g22 rfl (strs_ref (by omega))) ?_
 refine d_pure [(11, _)] rfl rfl ⟨⟨rfl, rfl⟩, trivial⟩ rfl (p_assign rfl) ?_
 refine d_pure [(13, _)] rfl rfl ⟨⟨rfl, rfl⟩, trivial⟩ rfl (p_assign rfl) ?_
 refine lex_end (sl' := [(1, _), (2, _), (7, _), (8, _)]) rfl ⟨rfl, rfl, rfl, rfl, trivial⟩ rfl ?_
 refine hK2 _ ?_
 refine aw_seq_k (fun K3 hK3 => ?_)
 refine aw_seq_k (fun K4 hK4 => ?_)
 refine aw_region ?_
 refine x_pure rfl (p_move rfl) ?_
 first | refine x_pure rfl (p_len_sl rfl Try.e22) ?_ | refine x_pure rfl (p_len_own rfl Try.e22) ?_ | refine x_pure rfl (p_len_nil rfl Try.e22) ?_
 refine x_pure rfl (p_bin rfl rfl rfl) ?_
 refine x_pure rfl (p_move rfl) ?_
 refine y_guard_s rfl rfl rfl (fun hg1 => ?_) (fun hg1 => ?_)
 ·
  try simp only [bs] at hg1
  refine x_pure rfl (p_move rfl) ?_
  refine x_guard_t rfl rfl rfl ?_
  first | refine x_pure rfl (p_len_sl rfl Try.e22) ?_ | refine x_pure rfl (p_len_own rfl Try.e22) ?_ | refine x_pure rfl (p_len_nil rfl Try.e22) ?_
  refine x_guard_t rfl rfl rfl ?_
  refine x_pure rfl (p_bin rfl rfl rfl) ?_
  refine x_pure rfl (p_pick_f rfl rfl) ?_
  first | refine aops_end ?_ | refine aops_nil ?_
  refine hK4 _ ?_
  refine aw_cond_s rfl (fun hc2 => ?_) (fun hc2 => ?_)
  ·
   try simp only [bs] at hc2
   refine aw_seq_k (fun K5 hK5 => ?_)
   refine aw_region ?_
   refine x_step hf rfl (r_call rfl rfl Try.ent10 rfl (alive10_den)) ?_
   refine x_pure rfl (p_assign rfl) ?_
   first | refine aops_end ?_ | refine aops_nil ?_
   refine hK5 _ ?_
   refine aw_ret ?_
   refine ⟨_, rfl, ?_⟩
   rfl
  ·
   try simp only [bs] at hc2
   refine aw_skip ?_
   refine hK3 _ ?_
   refine aw_seq_k (fun K6 hK6 => ?_)
   refine aw_region ?_
   have hq1 := stays_len l u t
   have hq2 := sortedL_len (l.map fun e => e.1.2)
   have hq3 := List.length_filter_le (fun e => !hisB u e) l
   rw [List.length_map] at hq2
   refine x_pure rfl (p_move rfl) ?_
   refine x_step hf rfl (r_call rfl rfl Try.ent11 rfl (news10_den _ (by omega))) ?_
   refine x_pure rfl (p_assign rfl) ?_
   first | refine aops_end ?_ | refine aops_nil ?_
   refine hK6 _ ?_
   refine aw_seq_k (fun K7 hK7 => ?_)
   refine aw_region ?_
   refine x_step hf rfl (r_call rfl rfl Try.ent10 rfl (alive10_den)) ?_
   refine x_pure rfl (p_move rfl) ?_
   refine x_guard_t rfl rfl rfl ?_
   refine x_pure rfl (p_move rfl) ?_
   refine x_guard_t rfl rfl rfl ?_
   refine x_pure rfl (p_move rfl) ?_
   refine x_guard_t rfl rfl rfl ?_
   refine x_pure rfl (p_move rfl) ?_
   refine x_guard_t rfl rfl rfl ?_
   refine x_step hf rfl (r_call rfl rfl Try.ent27 rfl (stays10_den l u t (by omega))) ?_
   refine x_guard_t rfl rfl rfl ?_
   refine x_step hf rfl (r_call rfl rfl Try.ent26 rfl (oldsS_den (staysL l u t) (by omega))) ?_
   refine x_guard_t rfl rfl rfl ?_
   refine x_pure rfl (p_move rfl) ?_
   refine x_guard_t rfl rfl rfl ?_
   refine x_pure rfl (p_move rfl) ?_
   refine x_guard_t rfl rfl rfl ?_
   refine x_pure rfl (p_move rfl) ?_
   refine x_guard_t rfl rfl rfl ?_
   refine x_step hf rfl (r_call rfl rfl Try.ent28 rfl (refStays10_den l u t (by omega))) ?_
   refine x_guard_t rfl rfl rfl ?_
   refine x_step hf rfl (r_call rfl rfl Try.ent25 rfl (refSame8X_den _ _ rfl (by omega))) ?_
   refine x_pure rfl (p_pick_t rfl rfl) ?_
   refine x_pure rfl (p_move rfl) ?_
   refine x_guard_t rfl rfl rfl ?_
   refine x_pure rfl (p_move rfl) ?_
   refine x_guard_t rfl rfl rfl ?_
   refine x_step hf rfl (r_call rfl rfl Try.ent30 rfl (users10_den l (by omega))) ?_
   refine x_guard_t rfl rfl rfl ?_
   refine x_pure rfl (p_move rfl) ?_
   refine x_guard_t rfl rfl rfl ?_
   refine x_step hf rfl (r_call rfl rfl Try.ent31 rfl (refUsers10_den l (by omega) ht)) ?_
   refine x_guard_t rfl rfl rfl ?_
   refine x_step hf rfl (r_call rfl rfl Try.ent29 rfl (refSame2X_den _ _ rfl (by omega))) ?_
   refine x_pure rfl (p_pick_t rfl rfl) ?_
   refine x_pure rfl (p_move rfl) ?_
   refine x_guard_t rfl rfl rfl ?_
   refine x_pure rfl (p_move rfl) ?_
   refine x_guard_t rfl rfl rfl ?_
   refine x_pure rfl (p_move rfl) ?_
   refine x_guard_t rfl rfl rfl ?_
   refine x_step hf rfl (r_call rfl rfl Try.ent32 rfl (without10_den l u (by omega))) ?_
   refine x_guard_t rfl rfl rfl ?_
   refine x_step hf rfl (r_call rfl rfl Try.ent15 rfl (olds10_den _ (by omega))) ?_
   refine x_guard_t rfl rfl rfl ?_
   refine x_pure rfl (p_move rfl) ?_
   refine x_guard_t rfl rfl rfl ?_
   refine x_pure rfl (p_move rfl) ?_
   refine x_guard_t rfl rfl rfl ?_
   refine x_step hf rfl (r_call rfl rfl Try.ent33 rfl (refWithout10_den l u (by omega))) ?_
   refine x_guard_t rfl rfl rfl ?_
   refine x_step hf rfl (r_call rfl rfl Try.ent14 rfl (refSame10T_den _ _ rfl (by omega))) ?_
   refine x_pure rfl (p_pick_t rfl rfl) ?_
   refine x_pure rfl (p_move rfl) ?_
   refine x_guard_t rfl rfl rfl ?_
   refine x_pure rfl (p_move rfl) ?_
   refine x_guard_t rfl rfl rfl ?_
   refine x_step hf rfl (r_call rfl rfl Try.ent17 rfl (rising10_den _ (by omega) (by assumption))) ?_
   refine x_guard_t rfl rfl rfl ?_
   refine x_pure rfl (p_move rfl) ?_
   refine x_guard_t rfl rfl rfl ?_
   refine x_step hf rfl (r_call rfl rfl Try.ent16 rfl (refRising10_den _ (by omega) (by assumption))) ?_
   refine x_guard_t rfl rfl rfl ?_
   refine x_pure rfl (p_bin rfl rfl (booleq_t Try.underlying4 (rfl))) ?_
   refine x_pure rfl (p_pick_t rfl rfl) ?_
   refine x_pure rfl (p_move rfl) ?_
   refine x_guard_t rfl rfl rfl ?_
   refine x_pure rfl (p_move rfl) ?_
   refine x_guard_t rfl rfl rfl ?_
   refine x_pure rfl (p_move rfl) ?_
   refine x_guard_t rfl rfl rfl ?_
   refine x_step hf rfl (r_call rfl rfl Try.ent11 rfl (news10_den m (by omega))) ?_
   refine x_guard_t rfl rfl rfl ?_
   refine x_step hf rfl (r_call rfl rfl Try.ent34 rfl (same10_den l m (by omega) (by omega))) ?_
   refine x_guard_t rfl rfl rfl ?_
   refine x_pure rfl (p_move rfl) ?_
   refine x_guard_t rfl rfl rfl ?_
   refine x_pure rfl (p_move rfl) ?_
   refine x_guard_t rfl rfl rfl ?_
   refine x_step hf rfl (r_call rfl rfl Try.ent14 rfl (refSame10_den l m (by omega) (by omega))) ?_
   refine x_guard_t rfl rfl rfl ?_
   refine x_pure rfl (p_bin rfl rfl (booleq_t Try.underlying4 (rfl))) ?_
   refine x_pure rfl (p_pick_t rfl rfl) ?_
   refine x_pure rfl (p_assign rfl) ?_
   first | refine aops_end ?_ | refine aops_nil ?_
   refine hK7 _ ?_
   refine aw_ret ?_
   refine ⟨_, rfl, ?_⟩
   rfl
 ·
  try simp only [bs] at hg1
  refine x_guard_f rfl rfl rfl ?_
  refine x_guard_f rfl rfl rfl ?_
  refine x_pure rfl (p_pick_t rfl rfl) ?_
  first | refine aops_end ?_ | refine aops_nil ?_
  refine hK4 _ ?_
  refine aw_cond_t rfl ?_
  refine aw_seq_k (fun K8 hK8 => ?_)
  refine aw_region ?_
  refine x_step hf rfl (r_call rfl rfl Try.ent10 rfl (alive10_den)) ?_
  refine x_pure rfl (p_assign rfl) ?_
  first | refine aops_end ?_ | refine aops_nil ?_
  refine hK8 _ ?_
  refine aw_ret ?_
  refine ⟨_, rfl, ?_⟩
  rfl

set_option maxRecDepth 20000 in
set_option maxHeartbeats 8000000 in
theorem sessOthers_den (l : List Se) (w o : Se) (hl : l.length * 40 ≤ 140737488351232)  : Den Try.prog 7 [.sl 4 (l.map seC), .agg (seC w), .agg (seC o)]  (· = .s (.bool true)) := by
 refine den_of_aw Try.func7 rfl (Nat.le_of_ble_eq_true rfl) (fun w0 A hf => ?_)
 refine aw_seq_k (fun K1 hK1 => ?_)
 refine aw_region ?_
 refine x_step hf rfl (r_box rfl rfl (by simp [seC, stC, spC, AV.cells, AV.leaf, Value.oneCell', splice, AV.kill, AV.clean, cleanL, AV.only])) ?_
 refine x_step hf rfl (r_box rfl rfl (by simp [seC, stC, spC, AV.cells, AV.leaf, Value.oneCell', splice, AV.kill, AV.clean, cleanL, AV.only])) ?_
 refine x_pure rfl (p_assign_bad) ?_
 first | refine aops_end ?_ | refine aops_nil ?_
 refine hK1 _ ?_
 refine aw_seq_k (fun K2 hK2 => ?_)
 refine aw_draw hf Try.mixed (by kernel_rfl) rfl ?_
 first | refine d_pure [(5, _)] rfl rfl ⟨⟨rfl, rfl⟩, trivial⟩ rfl (p_fld_adr rfl Try.fd40_0 Try.c3 rfl) ?_ | refine d_pure [(5, _)] rfl rfl ⟨⟨rfl, rfl⟩, trivial⟩ rfl (p_fld_ref rfl Try.fd40_0 Try.c3 rfl) ?_
 first | refine d_pure [(26, _)] rfl rfl ⟨⟨rfl, rfl⟩, trivial⟩ rfl (p_load1 rfl Try.g3 rfl) ?_ | refine d_pure [(26, _)] rfl rfl ⟨⟨rfl, rfl⟩, trivial⟩ rfl (p_load1r rfl Try.g3 rfl rfl) ?_ | refine d_pure [(26, _)] rfl rfl ⟨⟨rfl, rfl⟩, trivial⟩ rfl (p_load1r rfl Try.g3 rfl (strs_ref (by simp only [List.length_cons] at *; omega))) ?_ | refine d_pure [(26, _)] rfl rfl ⟨⟨rfl, rfl⟩, trivial⟩ rfl (p_load1r rfl Try.g3 rfl (strs_ref (by omega))) ?_
 first | refine d_pure [(5, _)] rfl rfl ⟨⟨rfl, rfl⟩, trivial⟩ rfl (p_fld_adr rfl Try.fd40_1 Try.c9 rfl) ?_ | refine d_pure [(5, _)] rfl rfl ⟨⟨rfl, rfl⟩, trivial⟩ rfl (p_fld_ref rfl Try.fd40_1 Try.c9 rfl) ?_
 first | refine d_pure [(28, _)] rfl rfl ⟨⟨rfl, rfl⟩, trivial⟩ rfl (p_load1 rfl Try.g9 rfl) ?_ | refine d_pure [(28, _)] rfl rfl ⟨⟨rfl, rfl⟩, trivial⟩ rfl (p_load1r rfl Try.g9 rfl rfl) ?_ | refine d_pure [(28, _)] rfl rfl ⟨⟨rfl, rfl⟩, trivial⟩ rfl (p_load1r rfl Try.g9 rfl (strs_ref (by simp only [List.length_cons] at *; omega))) ?_ | refine d_pure [(28, _)] rfl rfl ⟨⟨rfl, rfl⟩, trivial⟩ rfl (p_load1r rfl Try.g9 rfl (strs_ref (by omega))) ?_
 refine d_pure [(27, _)] rfl rfl ⟨⟨rfl, rfl⟩, trivial⟩ rfl (p_assign rfl) ?_
 refine d_pure [(29, _)] rfl rfl ⟨⟨rfl, rfl⟩, trivial⟩ rfl (p_assign rfl) ?_
 refine lex_end (sl' := [(0, _), (4, _), (7, _), (8, _)]) rfl ⟨rfl, rfl, rfl, rfl, trivial⟩ rfl ?_
 refine hK2 _ ?_
 refine aw_seq_k (fun K3 hK3 => ?_)
 refine aw_seq_k (fun K4 hK4 => ?_)
 refine aw_region ?_
 refine x_pure rfl (p_move rfl) ?_
 first | refine x_pure rfl (p_len_sl rfl Try.e22) ?_ | refine x_pure rfl (p_len_own rfl Try.e22) ?_ | refine x_pure rfl (p_len_nil rfl Try.e22) ?_
 refine x_pure rfl (p_bin rfl rfl rfl) ?_
 refine x_pure rfl (p_move rfl) ?_
 refine y_guard_s rfl rfl rfl (fun hg1 => ?_) (fun hg1 => ?_)
 ·
  try simp only [bs] at hg1
  refine x_pure rfl (p_move rfl) ?_
  refine x_guard_t rfl rfl rfl ?_
  first | refine x_pure rfl (p_fld_adr rfl Try.fd40_0 Try.c3 rfl) ?_ | refine x_pure rfl (p_fld_ref rfl Try.fd40_0 Try.c3 rfl) ?_
  refine x_guard_t rfl rfl rfl ?_
  first | refine x_pure rfl (p_load1 rfl Try.g3 rfl) ?_ | refine x_pure rfl (p_load1r rfl Try.g3 rfl rfl) ?_ | refine x_pure rfl (p_load1r rfl Try.g3 rfl (strs_ref (by simp only [List.length_cons] at *; omega))) ?_ | refine x_pure rfl (p_load1r rfl Try.g3 rfl (strs_ref (by omega))) ?_
  refine x_guard_t rfl rfl rfl ?_
  refine x_pure rfl (p_bin rfl rfl rfl) ?_
  refine x_pure rfl (p_pick_f rfl rfl) ?_
  first | refine aops_end ?_ | refine aops_nil ?_
  refine hK4 _ ?_
  refine aw_cond_s rfl (fun hc2 => ?_) (fun hc2 => ?_)
  ·
   try simp only [bs] at hc2
   refine aw_seq_k (fun K5 hK5 => ?_)
   refine aw_region ?_
   refine x_step hf rfl (r_call rfl rfl Try.ent10 rfl (alive10_den)) ?_
   refine x_pure rfl (p_assign rfl) ?_
   first | refine aops_end ?_ | refine aops_nil ?_
   refine hK5 _ ?_
   refine aw_ret ?_
   refine ⟨_, rfl, ?_⟩
   rfl
  ·
   try simp only [bs] at hc2
   refine aw_skip ?_
   refine hK3 _ ?_
   refine aw_seq_k (fun K6 hK6 => ?_)
   refine aw_region ?_
   have hne : o.1.1 ≠ w.1.1 := by assumption
   have hq1 := opnR_len l w
   have hq2 := chgR_len l w.1.1 w.1.2 w.2.1 w.2.2
   have hq3 := clsR_len l w.1.1 w.1.2
   refine x_pure rfl (p_move rfl) ?_
   refine x_step hf rfl (r_call rfl rfl Try.ent11 rfl (news10_den _ (by omega))) ?_
   refine x_pure rfl (p_assign rfl) ?_
   first | refine aops_end ?_ | refine aops_nil ?_
   refine hK6 _ ?_
   refine aw_seq_k (fun K7 hK7 => ?_)
   refine aw_region ?_
   refine x_pure rfl (p_move rfl) ?_
   refine x_pure rfl (p_move rfl) ?_
   refine x_pure rfl (p_move rfl) ?_
   refine x_step hf rfl (r_call rfl rfl Try.ent20 rfl (find10_den l o.1.1 o.1.2 (by omega))) ?_
   refine x_pure rfl (p_move rfl) ?_
   refine x_pure rfl (p_extract rfl rfl) ?_
   refine x_pure rfl (p_extract rfl rfl) ?_
   refine x_allocst hf rfl Try.z31 rfl Try.c31 rfl rfl rfl rfl (by simp [seC, stC, spC, AV.cells, AV.leaf, Value.oneCell', splice, AV.kill, AV.clean, cleanL, AV.only]) ?_
   refine x_pure rfl (p_assign rfl) ?_
   first | refine aops_end ?_ | refine aops_nil ?_
   refine hK7 _ ?_
   refine aw_seq_k (fun K8 hK8 => ?_)
   refine aw_region ?_
   refine x_pure rfl (p_move rfl) ?_
   first | refine x_pure rfl (p_fld_adr rfl Try.fd40_0 Try.c3 rfl) ?_ | refine x_pure rfl (p_fld_ref rfl Try.fd40_0 Try.c3 rfl) ?_
   first | refine x_pure rfl (p_load1 rfl Try.g3 rfl) ?_ | refine x_pure rfl (p_load1r rfl Try.g3 rfl rfl) ?_ | refine x_pure rfl (p_load1r rfl Try.g3 rfl (strs_ref (by simp only [List.length_cons] at *; omega))) ?_ | refine x_pure rfl (p_load1r rfl Try.g3 rfl (strs_ref (by omega))) ?_
   first | refine x_pure rfl (p_fld_adr rfl Try.fd40_1 Try.c9 rfl) ?_ | refine x_pure rfl (p_fld_ref rfl Try.fd40_1 Try.c9 rfl) ?_
   first | refine x_pure rfl (p_load1 rfl Try.g9 rfl) ?_ | refine x_pure rfl (p_load1r rfl Try.g9 rfl rfl) ?_ | refine x_pure rfl (p_load1r rfl Try.g9 rfl (strs_ref (by simp only [List.length_cons] at *; omega))) ?_ | refine x_pure rfl (p_load1r rfl Try.g9 rfl (strs_ref (by omega))) ?_
   first | refine x_pure rfl (p_fld_adr rfl Try.fd40_2 Try.c3 rfl) ?_ | refine x_pure rfl (p_fld_ref rfl Try.fd40_2 Try.c3 rfl) ?_
   first | refine x_pure rfl (p_load1 rfl Try.g3 rfl) ?_ | refine x_pure rfl (p_load1r rfl Try.g3 rfl rfl) ?_ | refine x_pure rfl (p_load1r rfl Try.g3 rfl (strs_ref (by simp only [List.length_cons] at *; omega))) ?_ | refine x_pure rfl (p_load1r rfl Try.g3 rfl (strs_ref (by omega))) ?_
   first | refine x_pure rfl (p_fld_adr rfl Try.fd40_3 Try.c3 rfl) ?_ | refine x_pure rfl (p_fld_ref rfl Try.fd40_3 Try.c3 rfl) ?_
   first | refine x_pure rfl (p_load1 rfl Try.g3 rfl) ?_ | refine x_pure rfl (p_load1r rfl Try.g3 rfl rfl) ?_ | refine x_pure rfl (p_load1r rfl Try.g3 rfl (strs_ref (by simp only [List.length_cons] at *; omega))) ?_ | refine x_pure rfl (p_load1r rfl Try.g3 rfl (strs_ref (by omega))) ?_
   refine x_pure rfl (p_build rfl Try.z31 Try.pl31 (by simp [seC, stC, spC, AV.cells, AV.one, Value.oneCell', splice, AV.kill, AV.clean, cleanL, AV.only]) rfl) ?_
   refine x_step hf rfl (r_call rfl rfl Try.ent12 rfl (open10_den l w (by omega))) ?_
   refine x_pure rfl (p_move rfl) ?_
   refine x_pure rfl (p_extract rfl rfl) ?_
   refine x_pure rfl (p_extract rfl rfl) ?_
   refine x_pure rfl (p_assign rfl) ?_
   refine x_pure rfl (p_assign rfl) ?_
   first | refine aops_end ?_ | refine aops_nil ?_
   refine hK8 _ ?_
   refine aw_seq_k (fun K9 hK9 => ?_)
   refine aw_region ?_
   refine x_pure rfl (p_move rfl) ?_
   first | refine x_pure rfl (p_fld_adr rfl Try.fd40_0 Try.c3 rfl) ?_ | refine x_pure rfl (p_fld_ref rfl Try.fd40_0 Try.c3 rfl) ?_
   first | refine x_pure rfl (p_load1 rfl Try.g3 rfl) ?_ | refine x_pure rfl (p_load1r rfl Try.g3 rfl rfl) ?_ | refine x_pure rfl (p_load1r rfl Try.g3 rfl (strs_ref (by simp only [List.length_cons] at *; omega))) ?_ | refine x_pure rfl (p_load1r rfl Try.g3 rfl (strs_ref (by omega))) ?_
   first | refine x_pure rfl (p_fld_adr rfl Try.fd40_1 Try.c9 rfl) ?_ | refine x_pure rfl (p_fld_ref rfl Try.fd40_1 Try.c9 rfl) ?_
   first | refine x_pure rfl (p_load1 rfl Try.g9 rfl) ?_ | refine x_pure rfl (p_load1r rfl Try.g9 rfl rfl) ?_ | refine x_pure rfl (p_load1r rfl Try.g9 rfl (strs_ref (by simp only [List.length_cons] at *; omega))) ?_ | refine x_pure rfl (p_load1r rfl Try.g9 rfl (strs_ref (by omega))) ?_
   first | refine x_pure rfl (p_fld_adr rfl Try.fd40_2 Try.c3 rfl) ?_ | refine x_pure rfl (p_fld_ref rfl Try.fd40_2 Try.c3 rfl) ?_
   first | refine x_pure rfl (p_load1 rfl Try.g3 rfl) ?_ | refine x_pure rfl (p_load1r rfl Try.g3 rfl rfl) ?_ | refine x_pure rfl (p_load1r rfl Try.g3 rfl (strs_ref (by simp only [List.length_cons] at *; omega))) ?_ | refine x_pure rfl (p_load1r rfl Try.g3 rfl (strs_ref (by omega))) ?_
   first | refine x_pure rfl (p_fld_adr rfl Try.fd40_3 Try.c3 rfl) ?_ | refine x_pure rfl (p_fld_ref rfl Try.fd40_3 Try.c3 rfl) ?_
   first | refine x_pure rfl (p_load1 rfl Try.g3 rfl) ?_ | refine x_pure rfl (p_load1r rfl Try.g3 rfl rfl) ?_ | refine x_pure rfl (p_load1r rfl Try.g3 rfl (strs_ref (by simp only [List.length_cons] at *; omega))) ?_ | refine x_pure rfl (p_load1r rfl Try.g3 rfl (strs_ref (by omega))) ?_
   refine x_step hf rfl (r_call rfl rfl Try.ent18 rfl (change10_den l w.1.1 w.1.2 w.2.1 w.2.2 (by omega))) ?_
   refine x_pure rfl (p_move rfl) ?_
   refine x_pure rfl (p_extract rfl rfl) ?_
   refine x_pure rfl (p_extract rfl rfl) ?_
   refine x_pure rfl (p_extract rfl rfl) ?_
   refine x_alloc hf rfl rfl rfl Try.z44 ?_
   refine x_pure rfl (p_assign rfl) ?_
   refine x_store hf rfl rfl Try.c44 rfl rfl (by simp [seC, stC, spC, AV.cells, AV.one, Value.oneCell', splice, AV.kill, AV.clean, cleanL, AV.only]) (by simp [seC, stC, spC, AV.cells, AV.leaf, Value.oneCell', splice, AV.kill, AV.clean, cleanL, AV.only]) rfl ?_
   refine aops_le (le_keep (nee 15) (sl' := [(4, _), (7, _), (8, _), (9, _), (10, _), (11, _), (12, _), (13, _), (14, _), (76, _)]) (m' := []) ⟨⟨_, rfl, rfl⟩, ⟨_, rfl, rfl⟩, ⟨_, rfl, rfl⟩, ⟨_, rfl, rfl⟩, ⟨_, rfl, rfl⟩, ⟨_, rfl, rfl⟩, ⟨_, rfl, rfl⟩, ⟨_, rfl, rfl⟩, ⟨_, rfl, rfl⟩, ⟨_, rfl, rfl⟩, trivial⟩ rfl) ?_
   refine x_pure rfl (p_assign rfl) ?_
   first | refine aops_end ?_ | refine aops_nil ?_
   refine hK9 _ ?_
   refine aw_seq_k (fun K10 hK10 => ?_)
   refine aw_region ?_
   refine x_pure rfl (p_move rfl) ?_
   first | refine x_pure rfl (p_fld_adr rfl Try.fd40_0 Try.c3 rfl) ?_ | refine x_pure rfl (p_fld_ref rfl Try.fd40_0 Try.c3 rfl) ?_
   first | refine x_pure rfl (p_load1 rfl Try.g3 rfl) ?_ | refine x_pure rfl (p_load1r rfl Try.g3 rfl rfl) ?_ | refine x_pure rfl (p_load1r rfl Try.g3 rfl (strs_ref (by simp only [List.length_cons] at *; omega))) ?_ | refine x_pure rfl (p_load1r rfl Try.g3 rfl (strs_ref (by omega))) ?_
   first | refine x_pure rfl (p_fld_adr rfl Try.fd40_1 Try.c9 rfl) ?_ | refine x_pure rfl (p_fld_ref rfl Try.fd40_1 Try.c9 rfl) ?_
   first | refine x_pure rfl (p_load1 rfl Try.g9 rfl) ?_ | refine x_pure rfl (p_load1r rfl Try.g9 rfl rfl) ?_ | refine x_pure rfl (p_load1r rfl Try.g9 rfl (strs_ref (by simp only [List.length_cons] at *; omega))) ?_ | refine x_pure rfl (p_load1r rfl Try.g9 rfl (strs_ref (by omega))) ?_
   first | refine x_pure rfl (p_fld_adr rfl Try.fd40_3 Try.c3 rfl) ?_ | refine x_pure rfl (p_fld_ref rfl Try.fd40_3 Try.c3 rfl) ?_
   first | refine x_pure rfl (p_load1 rfl Try.g3 rfl) ?_ | refine x_pure rfl (p_load1r rfl Try.g3 rfl rfl) ?_ | refine x_pure rfl (p_load1r rfl Try.g3 rfl (strs_ref (by simp only [List.length_cons] at *; omega))) ?_ | refine x_pure rfl (p_load1r rfl Try.g3 rfl (strs_ref (by omega))) ?_
   refine x_step hf rfl (r_call rfl rfl Try.ent23 rfl (close10_den l w.1.1 w.1.2 w.2.2 (by omega))) ?_
   refine x_pure rfl (p_move rfl) ?_
   refine x_pure rfl (p_extract rfl rfl) ?_
   refine x_pure rfl (p_extract rfl rfl) ?_
   refine x_pure rfl (p_extract rfl rfl) ?_
   refine x_alloc hf rfl rfl rfl Try.z44 ?_
   refine x_pure rfl (p_assign rfl) ?_
   refine x_store hf rfl rfl Try.c44 rfl rfl (by simp [seC, stC, spC, AV.cells, AV.one, Value.oneCell', splice, AV.kill, AV.clean, cleanL, AV.only]) (by simp [seC, stC, spC, AV.cells, AV.leaf, Value.oneCell', splice, AV.kill, AV.clean, cleanL, AV.only]) rfl ?_
   refine aops_le (le_keep (nee 18) (sl' := [(7, _), (8, _), (10, _), (11, _), (12, _), (13, _), (14, _), (16, _), (17, _), (88, _)]) (m' := []) ⟨⟨_, rfl, rfl⟩, ⟨_, rfl, rfl⟩, ⟨_, rfl, rfl⟩, ⟨_, rfl, rfl⟩, ⟨_, rfl, rfl⟩, ⟨_, rfl, rfl⟩, ⟨_, rfl, rfl⟩, ⟨_, rfl, rfl⟩, ⟨_, rfl, rfl⟩, ⟨_, rfl, rfl⟩, trivial⟩ rfl) ?_
   refine x_pure rfl (p_assign rfl) ?_
   first | refine aops_end ?_ | refine aops_nil ?_
   refine hK10 _ ?_
   refine aw_seq_k (fun K11 hK11 => ?_)
   refine aw_region ?_
   refine x_pure rfl (p_move rfl) ?_
   refine x_pure rfl (p_move rfl) ?_
   refine x_pure rfl (p_move rfl) ?_
   refine x_step hf rfl (r_call rfl rfl Try.ent20 rfl (find10_den (opnR l w) o.1.1 o.1.2 (by omega))) ?_
   refine x_pure rfl (p_move rfl) ?_
   refine x_pure rfl (p_extract rfl rfl) ?_
   refine x_pure rfl (p_extract rfl rfl) ?_
   refine x_allocst hf rfl Try.z31 rfl Try.c31 rfl rfl rfl rfl (by simp [seC, stC, spC, AV.cells, AV.leaf, Value.oneCell', splice, AV.kill, AV.clean, cleanL, AV.only]) ?_
   refine x_pure rfl (p_assign rfl) ?_
   first | refine aops_end ?_ | refine aops_nil ?_
   refine hK11 _ ?_
   refine aw_seq_k (fun K12 hK12 => ?_)
   refine aw_region ?_
   refine x_pure rfl (p_move rfl) ?_
   refine x_pure rfl (p_move rfl) ?_
   refine x_pure rfl (p_move rfl) ?_
   refine x_step hf rfl (r_call rfl rfl Try.ent20 rfl (find10_den (chgR l w.1.1 w.1.2 w.2.1 w.2.2) o.1.1 o.1.2 (by omega))) ?_
   refine x_pure rfl (p_move rfl) ?_
   refine x_pure rfl (p_extract rfl rfl) ?_
   refine x_pure rfl (p_extract rfl rfl) ?_
   refine x_allocst hf rfl Try.z31 rfl Try.c31 rfl rfl rfl rfl (by simp [seC, stC, spC, AV.cells, AV.leaf, Value.oneCell', splice, AV.kill, AV.clean, cleanL, AV.only]) ?_
   refine x_pure rfl (p_assign rfl) ?_
   first | refine aops_end ?_ | refine aops_nil ?_
   refine hK12 _ ?_
   refine aw_seq_k (fun K13 hK13 => ?_)
   refine aw_region ?_
   refine x_pure rfl (p_move rfl) ?_
   refine x_pure rfl (p_move rfl) ?_
   refine x_pure rfl (p_move rfl) ?_
   refine x_step hf rfl (r_call rfl rfl Try.ent20 rfl (find10_den (clsR l w.1.1 w.1.2) o.1.1 o.1.2 (by omega))) ?_
   refine x_pure rfl (p_move rfl) ?_
   refine x_pure rfl (p_extract rfl rfl) ?_
   refine x_pure rfl (p_extract rfl rfl) ?_
   refine x_allocst hf rfl Try.z31 rfl Try.c31 rfl rfl rfl rfl (by simp [seC, stC, spC, AV.cells, AV.leaf, Value.oneCell', splice, AV.kill, AV.clean, cleanL, AV.only]) ?_
   refine x_pure rfl (p_assign rfl) ?_
   first | refine aops_end ?_ | refine aops_nil ?_
   refine hK13 _ ?_
   refine aw_seq_k (fun K14 hK14 => ?_)
   refine aw_region ?_
   refine x_step hf rfl (r_call rfl rfl Try.ent10 rfl (alive10_den)) ?_
   refine x_pure rfl (p_move rfl) ?_
   refine x_guard_t rfl rfl rfl ?_
   refine x_pure rfl (p_move rfl) ?_
   refine x_guard_t rfl rfl rfl ?_
   refine x_pure rfl (p_bin rfl rfl rfl) ?_
   refine x_guard_t rfl rfl rfl ?_
   refine x_pure rfl (p_move rfl) ?_
   refine y_guard_s rfl rfl rfl (fun hg3 => ?_) (fun hg3 => ?_)
   ·
    try simp only [bs] at hg3
    first | refine x_pure rfl (p_loads rfl Try.g31 Try.c31 rfl rfl) ?_ | refine x_pure rfl (p_loadsr rfl Try.g31 Try.c31 rfl rfl rfl) ?_
    refine x_guard_t rfl rfl rfl ?_
    first | refine x_pure rfl (p_loads rfl Try.g31 Try.c31 rfl rfl) ?_ | refine x_pure rfl (p_loadsr rfl Try.g31 Try.c31 rfl rfl rfl) ?_
    refine x_guard_t rfl rfl rfl ?_
    refine x_pure rfl (p_eqagg rfl rfl Try.q31 (aeq_seE (oth_opnR hne (by assumption)).1)) ?_
    refine x_guard_t rfl rfl rfl ?_
    refine x_pure rfl (p_move rfl) ?_
    refine x_guard_t rfl rfl rfl ?_
    refine x_pure rfl (p_move rfl) ?_
    refine x_guard_t rfl rfl rfl ?_
    refine x_pure rfl (p_move rfl) ?_
    refine x_guard_t rfl rfl rfl ?_
    refine x_pure rfl (p_bin rfl rfl (inteq_t ((oth_opnR hne (by assumption)).2))) ?_
    refine x_guard_t rfl rfl rfl ?_
    refine x_pure rfl (p_pick_t rfl rfl) ?_
    refine x_guard_t rfl rfl rfl ?_
    refine x_pure rfl (p_pick_f rfl rfl) ?_
    refine x_pure rfl (p_pick_t rfl rfl) ?_
    refine x_pure rfl (p_move rfl) ?_
    refine x_guard_t rfl rfl rfl ?_
    refine x_pure rfl (p_move rfl) ?_
    refine x_guard_t rfl rfl rfl ?_
    refine x_pure rfl (p_bin rfl rfl rfl) ?_
    refine x_guard_t rfl rfl rfl ?_
    refine x_pure rfl (p_move rfl) ?_
    refine y_guard_s rfl rfl rfl (fun hg4 => ?_) (fun hg4 => ?_)
    ·
     try simp only [bs] at hg4
     first | refine x_pure rfl (p_loads rfl Try.g31 Try.c31 rfl rfl) ?_ | refine x_pure rfl (p_loadsr rfl Try.g31 Try.c31 rfl rfl rfl) ?_
     refine x_guard_t rfl rfl rfl ?_
     first | refine x_pure rfl (p_loads rfl Try.g31 Try.c31 rfl rfl) ?_ | refine x_pure rfl (p_loadsr rfl Try.g31 Try.c31 rfl rfl rfl) ?_
     refine x_guard_t rfl rfl rfl ?_
     refine x_pure rfl (p_eqagg rfl rfl Try.q31 (aeq_seE (oth_chgR hne (by assumption)).1)) ?_
     refine x_guard_t rfl rfl rfl ?_
     refine x_pure rfl (p_move rfl) ?_
     refine x_guard_t rfl rfl rfl ?_
     refine x_pure rfl (p_move rfl) ?_
     refine x_guard_t rfl rfl rfl ?_
     refine x_pure rfl (p_move rfl) ?_
     refine x_guard_t rfl rfl rfl ?_
     refine x_pure rfl (p_bin rfl rfl (inteq_t ((oth_chgR hne (by assumption)).2))) ?_
     refine x_guard_t rfl rfl rfl ?_
     refine x_pure rfl (p_pick_t rfl rfl) ?_
     refine x_guard_t rfl rfl rfl ?_
     refine x_pure rfl (p_pick_f rfl rfl) ?_
     refine x_pure rfl (p_pick_t rfl rfl) ?_
     refine x_pure rfl (p_move rfl) ?_
     refine x_guard_t rfl rfl rfl ?_
     refine x_pure rfl (p_move rfl) ?_
     refine x_guard_t rfl rfl rfl ?_
     refine x_pure rfl (p_bin rfl rfl rfl) ?_
     refine x_guard_t rfl rfl rfl ?_
     refine x_pure rfl (p_move rfl) ?_
     refine y_guard_s rfl rfl rfl (fun hg5 => ?_) (fun hg5 => ?_)
     ·
      try simp only [bs] at hg5
      first | refine x_pure rfl (p_loads rfl Try.g31 Try.c31 rfl rfl) ?_ | refine x_pure rfl (p_loadsr rfl Try.g31 Try.c31 rfl rfl rfl) ?_
      refine x_guard_t rfl rfl rfl ?_
      first | refine x_pure rfl (p_loads rfl Try.g31 Try.c31 rfl rfl) ?_ | refine x_pure rfl (p_loadsr rfl Try.g31 Try.c31 rfl rfl rfl) ?_
      refine x_guard_t rfl rfl rfl ?_
      refine x_pure rfl (p_eqagg rfl rfl Try.q31 (aeq_seE (oth_clsR hne (by assumption)).1)) ?_
      refine x_guard_t rfl rfl rfl ?_
      refine x_pure rfl (p_move rfl) ?_
      refine x_guard_t rfl rfl rfl ?_
      refine x_pure rfl (p_move rfl) ?_
      refine x_guard_t rfl rfl rfl ?_
      refine x_pure rfl (p_move rfl) ?_
      refine x_guard_t rfl rfl rfl ?_
      refine x_pure rfl (p_bin rfl rfl (inteq_t ((oth_clsR hne (by assumption)).2))) ?_
      refine x_guard_t rfl rfl rfl ?_
      refine x_pure rfl (p_pick_t rfl rfl) ?_
      refine x_guard_t rfl rfl rfl ?_
      refine x_pure rfl (p_pick_f rfl rfl) ?_
      refine x_pure rfl (p_pick_t rfl rfl) ?_
      refine x_pure rfl (p_assign rfl) ?_
      first | refine aops_end ?_ | refine aops_nil ?_
      refine hK14 _ ?_
      refine aw_ret ?_
      refine ⟨_, rfl, ?_⟩
      rfl
     ·
      try simp only [bs] at hg5
      refine x_guard_f rfl rfl rfl ?_
      refine x_guard_f rfl rfl rfl ?_
      refine x_guard_f rfl rfl rfl ?_
      refine x_guard_u rfl rfl rfl ?_
      refine x_guard_u rfl rfl rfl ?_
      refine x_guard_u rfl rfl rfl ?_
      refine x_guard_f rfl rfl rfl ?_
      refine x_guard_t rfl rfl rfl ?_
      refine x_pure rfl (p_pick_t rfl rfl) ?_
      refine x_pure rfl (p_pick_t rfl rfl) ?_
      refine x_pure rfl (p_assign rfl) ?_
      first | refine aops_end ?_ | refine aops_nil ?_
      refine hK14 _ ?_
      refine aw_ret ?_
      refine ⟨_, rfl, ?_⟩
      rfl
    ·
     try simp only [bs] at hg4
     refine x_guard_f rfl rfl rfl ?_
     refine x_guard_f rfl rfl rfl ?_
     refine x_guard_f rfl rfl rfl ?_
     refine x_guard_u rfl rfl rfl ?_
     refine x_guard_u rfl rfl rfl ?_
     refine x_guard_u rfl rfl rfl ?_
     refine x_guard_f rfl rfl rfl ?_
     refine x_guard_t rfl rfl rfl ?_
     refine x_pure rfl (p_pick_t rfl rfl) ?_
     refine x_pure rfl (p_pick_t rfl rfl) ?_
     refine x_pure rfl (p_move rfl) ?_
     refine x_guard_t rfl rfl rfl ?_
     refine x_pure rfl (p_move rfl) ?_
     refine x_guard_t rfl rfl rfl ?_
     refine x_pure rfl (p_bin rfl rfl rfl) ?_
     refine x_guard_t rfl rfl rfl ?_
     refine x_pure rfl (p_move rfl) ?_
     refine y_guard_s rfl rfl rfl (fun hg6 => ?_) (fun hg6 => ?_)
     ·
      try simp only [bs] at hg6
      first | refine x_pure rfl (p_loads rfl Try.g31 Try.c31 rfl rfl) ?_ | refine x_pure rfl (p_loadsr rfl Try.g31 Try.c31 rfl rfl rfl) ?_
      refine x_guard_t rfl rfl rfl ?_
      first | refine x_pure rfl (p_loads rfl Try.g31 Try.c31 rfl rfl) ?_ | refine x_pure rfl (p_loadsr rfl Try.g31 Try.c31 rfl rfl rfl) ?_
      refine x_guard_t rfl rfl rfl ?_
      refine x_pure rfl (p_eqagg rfl rfl Try.q31 (aeq_seE (oth_clsR hne (by assumption)).1)) ?_
      refine x_guard_t rfl rfl rfl ?_
      refine x_pure rfl (p_move rfl) ?_
      refine x_guard_t rfl rfl rfl ?_
      refine x_pure rfl (p_move rfl) ?_
      refine x_guard_t rfl rfl rfl ?_
      refine x_pure rfl (p_move rfl) ?_
      refine x_guard_t rfl rfl rfl ?_
      refine x_pure rfl (p_bin rfl rfl (inteq_t ((oth_clsR hne (by assumption)).2))) ?_
      refine x_guard_t rfl rfl rfl ?_
      refine x_pure rfl (p_pick_t rfl rfl) ?_
      refine x_guard_t rfl rfl rfl ?_
      refine x_pure rfl (p_pick_f rfl rfl) ?_
      refine x_pure rfl (p_pick_t rfl rfl) ?_
      refine x_pure rfl (p_assign rfl) ?_
      first | refine aops_end ?_ | refine aops_nil ?_
      refine hK14 _ ?_
      refine aw_ret ?_
      refine ⟨_, rfl, ?_⟩
      rfl
     ·
      try simp only [bs] at hg6
      refine x_guard_f rfl rfl rfl ?_
      refine x_guard_f rfl rfl rfl ?_
      refine x_guard_f rfl rfl rfl ?_
      refine x_guard_u rfl rfl rfl ?_
      refine x_guard_u rfl rfl rfl ?_
      refine x_guard_u rfl rfl rfl ?_
      refine x_guard_f rfl rfl rfl ?_
      refine x_guard_t rfl rfl rfl ?_
      refine x_pure rfl (p_pick_t rfl rfl) ?_
      refine x_pure rfl (p_pick_t rfl rfl) ?_
      refine x_pure rfl (p_assign rfl) ?_
      first | refine aops_end ?_ | refine aops_nil ?_
      refine hK14 _ ?_
      refine aw_ret ?_
      refine ⟨_, rfl, ?_⟩
      rfl
   ·
    try simp only [bs] at hg3
    refine x_guard_f rfl rfl rfl ?_
    refine x_guard_f rfl rfl rfl ?_
    refine x_guard_f rfl rfl rfl ?_
    refine x_guard_u rfl rfl rfl ?_
    refine x_guard_u rfl rfl rfl ?_
    refine x_guard_u rfl rfl rfl ?_
    refine x_guard_f rfl rfl rfl ?_
    refine x_guard_t rfl rfl rfl ?_
    refine x_pure rfl (p_pick_t rfl rfl) ?_
    refine x_pure rfl (p_pick_t rfl rfl) ?_
    refine x_pure rfl (p_move rfl) ?_
    refine x_guard_t rfl rfl rfl ?_
    refine x_pure rfl (p_move rfl) ?_
    refine x_guard_t rfl rfl rfl ?_
    refine x_pure rfl (p_bin rfl rfl rfl) ?_
    refine x_guard_t rfl rfl rfl ?_
    refine x_pure rfl (p_move rfl) ?_
    refine y_guard_s rfl rfl rfl (fun hg7 => ?_) (fun hg7 => ?_)
    ·
     try simp only [bs] at hg7
     first | refine x_pure rfl (p_loads rfl Try.g31 Try.c31 rfl rfl) ?_ | refine x_pure rfl (p_loadsr rfl Try.g31 Try.c31 rfl rfl rfl) ?_
     refine x_guard_t rfl rfl rfl ?_
     first | refine x_pure rfl (p_loads rfl Try.g31 Try.c31 rfl rfl) ?_ | refine x_pure rfl (p_loadsr rfl Try.g31 Try.c31 rfl rfl rfl) ?_
     refine x_guard_t rfl rfl rfl ?_
     refine x_pure rfl (p_eqagg rfl rfl Try.q31 (aeq_seE (oth_chgR hne (by assumption)).1)) ?_
     refine x_guard_t rfl rfl rfl ?_
     refine x_pure rfl (p_move rfl) ?_
     refine x_guard_t rfl rfl rfl ?_
     refine x_pure rfl (p_move rfl) ?_
     refine x_guard_t rfl rfl rfl ?_
     refine x_pure rfl (p_move rfl) ?_
     refine x_guard_t rfl rfl rfl ?_
     refine x_pure rfl (p_bin rfl rfl (inteq_t ((oth_chgR hne (by assumption)).2))) ?_
     refine x_guard_t rfl rfl rfl ?_
     refine x_pure rfl (p_pick_t rfl rfl) ?_
     refine x_guard_t rfl rfl rfl ?_
     refine x_pure rfl (p_pick_f rfl rfl) ?_
     refine x_pure rfl (p_pick_t rfl rfl) ?_
     refine x_pure rfl (p_move rfl) ?_
     refine x_guard_t rfl rfl rfl ?_
     refine x_pure rfl (p_move rfl) ?_
     refine x_guard_t rfl rfl rfl ?_
     refine x_pure rfl (p_bin rfl rfl rfl) ?_
     refine x_guard_t rfl rfl rfl ?_
     refine x_pure rfl (p_move rfl) ?_
     refine y_guard_s rfl rfl rfl (fun hg8 => ?_) (fun hg8 => ?_)
     ·
      try simp only [bs] at hg8
      first | refine x_pure rfl (p_loads rfl Try.g31 Try.c31 rfl rfl) ?_ | refine x_pure rfl (p_loadsr rfl Try.g31 Try.c31 rfl rfl rfl) ?_
      refine x_guard_t rfl rfl rfl ?_
      first | refine x_pure rfl (p_loads rfl Try.g31 Try.c31 rfl rfl) ?_ | refine x_pure rfl (p_loadsr rfl Try.g31 Try.c31 rfl rfl rfl) ?_
      refine x_guard_t rfl rfl rfl ?_
      refine x_pure rfl (p_eqagg rfl rfl Try.q31 (aeq_seE (oth_clsR hne (by assumption)).1)) ?_
      refine x_guard_t rfl rfl rfl ?_
      refine x_pure rfl (p_move rfl) ?_
      refine x_guard_t rfl rfl rfl ?_
      refine x_pure rfl (p_move rfl) ?_
      refine x_guard_t rfl rfl rfl ?_
      refine x_pure rfl (p_move rfl) ?_
      refine x_guard_t rfl rfl rfl ?_
      refine x_pure rfl (p_bin rfl rfl (inteq_t ((oth_clsR hne (by assumption)).2))) ?_
      refine x_guard_t rfl rfl rfl ?_
      refine x_pure rfl (p_pick_t rfl rfl) ?_
      refine x_guard_t rfl rfl rfl ?_
      refine x_pure rfl (p_pick_f rfl rfl) ?_
      refine x_pure rfl (p_pick_t rfl rfl) ?_
      refine x_pure rfl (p_assign rfl) ?_
      first | refine aops_end ?_ | refine aops_nil ?_
      refine hK14 _ ?_
      refine aw_ret ?_
      refine ⟨_, rfl, ?_⟩
      rfl
     ·
      try simp only [bs] at hg8
      refine x_guard_f rfl rfl rfl ?_
      refine x_guard_f rfl rfl rfl ?_
      refine x_guard_f rfl rfl rfl ?_
      refine x_guard_u rfl rfl rfl ?_
      refine x_guard_u rfl rfl rfl ?_
      refine x_guard_u rfl rfl rfl ?_
      refine x_guard_f rfl rfl rfl ?_
      refine x_guard_t rfl rfl rfl ?_
      refine x_pure rfl (p_pick_t rfl rfl) ?_
      refine x_pure rfl (p_pick_t rfl rfl) ?_
      refine x_pure rfl (p_assign rfl) ?_
      first | refine aops_end ?_ | refine aops_nil ?_
      refine hK14 _ ?_
      refine aw_ret ?_
      refine ⟨_, rfl, ?_⟩
      rfl
    ·
     try simp only [bs] at hg7
     refine x_guard_f rfl rfl rfl ?_
     refine x_guard_f rfl rfl rfl ?_
     refine x_guard_f rfl rfl rfl ?_
     refine x_guard_u rfl rfl rfl ?_
     refine x_guard_u rfl rfl rfl ?_
     refine x_guard_u rfl rfl rfl ?_
     refine x_guard_f rfl rfl rfl ?_
     refine x_guard_t rfl rfl rfl ?_
     refine x_pure rfl (p_pick_t rfl rfl) ?_
     refine x_pure rfl (p_pick_t rfl rfl) ?_
     refine x_pure rfl (p_move rfl) ?_
     refine x_guard_t rfl rfl rfl ?_
     refine x_pure rfl (p_move rfl) ?_
     refine x_guard_t rfl rfl rfl ?_
     refine x_pure rfl (p_bin rfl rfl rfl) ?_
     refine x_guard_t rfl rfl rfl ?_
     refine x_pure rfl (p_move rfl) ?_
     refine y_guard_s rfl rfl rfl (fun hg9 => ?_) (fun hg9 => ?_)
     ·
      try simp only [bs] at hg9
      first | refine x_pure rfl (p_loads rfl Try.g31 Try.c31 rfl rfl) ?_ | refine x_pure rfl (p_loadsr rfl Try.g31 Try.c31 rfl rfl rfl) ?_
      refine x_guard_t rfl rfl rfl ?_
      first | refine x_pure rfl (p_loads rfl Try.g31 Try.c31 rfl rfl) ?_ | refine x_pure rfl (p_loadsr rfl Try.g31 Try.c31 rfl rfl rfl) ?_
      refine x_guard_t rfl rfl rfl ?_
      refine x_pure rfl (p_eqagg rfl rfl Try.q31 (aeq_seE (oth_clsR hne (by assumption)).1)) ?_
      refine x_guard_t rfl rfl rfl ?_
      refine x_pure rfl (p_move rfl) ?_
      refine x_guard_t rfl rfl rfl ?_
      refine x_pure rfl (p_move rfl) ?_
      refine x_guard_t rfl rfl rfl ?_
      refine x_pure rfl (p_move rfl) ?_
      refine x_guard_t rfl rfl rfl ?_
      refine x_pure rfl (p_bin rfl rfl (inteq_t ((oth_clsR hne (by assumption)).2))) ?_
      refine x_guard_t rfl rfl rfl ?_
      refine x_pure rfl (p_pick_t rfl rfl) ?_
      refine x_guard_t rfl rfl rfl ?_
      refine x_pure rfl (p_pick_f rfl rfl) ?_
      refine x_pure rfl (p_pick_t rfl rfl) ?_
      refine x_pure rfl (p_assign rfl) ?_
      first | refine aops_end ?_ | refine aops_nil ?_
      refine hK14 _ ?_
      refine aw_ret ?_
      refine ⟨_, rfl, ?_⟩
      rfl
     ·
      try simp only [bs] at hg9
      refine x_guard_f rfl rfl rfl ?_
      refine x_guard_f rfl rfl rfl ?_
      refine x_guard_f rfl rfl rfl ?_
      refine x_guard_u rfl rfl rfl ?_
      refine x_guard_u rfl rfl rfl ?_
      refine x_guard_u rfl rfl rfl ?_
      refine x_guard_f rfl rfl rfl ?_
      refine x_guard_t rfl rfl rfl ?_
      refine x_pure rfl (p_pick_t rfl rfl) ?_
      refine x_pure rfl (p_pick_t rfl rfl) ?_
      refine x_pure rfl (p_assign rfl) ?_
      first | refine aops_end ?_ | refine aops_nil ?_
      refine hK14 _ ?_
      refine aw_ret ?_
      refine ⟨_, rfl, ?_⟩
      rfl
 ·
  try simp only [bs] at hg1
  refine x_guard_f rfl rfl rfl ?_
  refine x_guard_f rfl rfl rfl ?_
  refine x_guard_f rfl rfl rfl ?_
  refine x_pure rfl (p_pick_t rfl rfl) ?_
  first | refine aops_end ?_ | refine aops_nil ?_
  refine hK4 _ ?_
  refine aw_cond_t rfl ?_
  refine aw_seq_k (fun K15 hK15 => ?_)
  refine aw_region ?_
  refine x_step hf rfl (r_call rfl rfl Try.ent10 rfl (alive10_den)) ?_
  refine x_pure rfl (p_assign rfl) ?_
  first | refine aops_end ?_ | refine aops_nil ?_
  refine hK15 _ ?_
  refine aw_ret ?_
  refine ⟨_, rfl, ?_⟩
  rfl

set_option maxRecDepth 20000 in
set_option maxHeartbeats 8000000 in
theorem sessBack_den (l : List Se) (e : Se) (hl : l.length * 40 ≤ 140737488351232) (ht : ∀ e ∈ l, TS e.1.2)  : Den Try.prog 8 [.sl 4 (l.map seC), .agg (seC e)]  (· = .s (.bool true)) := by
 refine den_of_aw Try.func8 rfl (Nat.le_of_ble_eq_true rfl) (fun w0 A hf => ?_)
 refine aw_seq_k (fun K1 hK1 => ?_)
 refine aw_region ?_
 refine x_step hf rfl (r_box rfl rfl (by simp [seC, stC, spC, AV.cells, AV.leaf, Value.oneCell', splice, AV.kill, AV.clean, cleanL, AV.only])) ?_
 refine x_pure rfl (p_assign_bad) ?_
 first | refine aops_end ?_ | refine aops_nil ?_
 refine hK1 _ ?_
 refine aw_seq_k (fun K2 hK2 => ?_)
 refine aw_seq_k (fun K3 hK3 => ?_)
 refine aw_region ?_
 refine x_pure rfl (p_move rfl) ?_
 first | refine x_pure rfl (p_len_sl rfl Try.e22) ?_ | refine x_pure rfl (p_len_own rfl Try.e22) ?_ | refine x_pure rfl (p_len_nil rfl Try.e22) ?_
 refine x_pure rfl (p_bin rfl rfl rfl) ?_
 refine x_pure rfl (p_move rfl) ?_
 refine y_guard_s rfl rfl rfl (fun hg1 => ?_) (fun hg1 => ?_)
 ·
  try simp only [bs] at hg1
  refine x_pure rfl (p_move rfl) ?_
  refine x_guard_t rfl rfl rfl ?_
  refine x_step hf rfl (r_call rfl rfl Try.ent16 rfl (refRising10_den _ (by omega) (by assumption))) ?_
  refine x_guard_t rfl rfl rfl ?_
  refine x_pure rfl (p_not rfl) ?_
  refine x_pure rfl (p_pick_f rfl rfl) ?_
  first | refine aops_end ?_ | refine aops_nil ?_
  refine hK3 _ ?_
  refine aw_cond_s rfl (fun hc2 => ?_) (fun hc2 => ?_)
  ·
   try simp only [bs] at hc2
   refine aw_seq_k (fun K4 hK4 => ?_)
   refine aw_region ?_
   refine x_step hf rfl (r_call rfl rfl Try.ent10 rfl (alive10_den)) ?_
   refine x_pure rfl (p_assign rfl) ?_
   first | refine aops_end ?_ | refine aops_nil ?_
   refine hK4 _ ?_
   refine aw_ret ?_
   refine ⟨_, rfl, ?_⟩
   rfl
  ·
   try simp only [bs] at hc2
   refine aw_skip ?_
   refine hK2 _ ?_
   refine aw_seq_k (fun K5 hK5 => ?_)
   refine aw_draw hf Try.mixed (by kernel_rfl) rfl ?_
   have hq1 := opnR_len l e
   refine d_pure [(0, _)] rfl rfl ⟨⟨rfl, rfl⟩, trivial⟩ rfl (p_move rfl) ?_
   refine d_rstep [(20, _)] rfl rfl ⟨⟨rfl, rfl⟩, trivial⟩ rfl (r_call rfl rfl Try.ent11 rfl (news10_den _ (by omega))) ?_
   first | refine d_pure [(3, _)] rfl rfl ⟨⟨rfl, rfl⟩, trivial⟩ rfl (p_loads rfl Try.g24 Try.c24 rfl rfl) ?_ | refine d_pure [(3, _)] rfl rfl ⟨⟨rfl, rfl⟩, trivial⟩ rfl (p_loadsr rfl Try.g24 Try.c24 rfl rfl rfl) ?_
   refine d_rstep [(21, _), (22, _)] rfl rfl ⟨⟨rfl, rfl⟩, ⟨rfl, rfl⟩, trivial⟩ rfl (r_call rfl rfl Try.ent12 rfl (open10_den l e (by omega))) ?_
   refine d_pure [(23, _)] rfl rfl ⟨⟨rfl, rfl⟩, trivial⟩ rfl (p_move rfl) ?_
   refine d_pure [(19, _)] rfl rfl ⟨⟨rfl, rfl⟩, trivial⟩ rfl (p_extract rfl rfl) ?_
   refine d_pure [(19, _)] rfl rfl ⟨⟨rfl, rfl⟩, trivial⟩ rfl (p_extract rfl rfl) ?_
   refine d_pure [(24, _)] rfl rfl ⟨⟨rfl, rfl⟩, trivial⟩ rfl (p_assign rfl) ?_
   refine d_pure [(25, _)] rfl rfl ⟨⟨rfl, rfl⟩, trivial⟩ rfl (p_assign rfl) ?_
   refine lex_end (sl' := [(0, _), (3, _), (5, _), (6, _)]) rfl ⟨rfl, rfl, rfl, rfl, trivial⟩ rfl ?_
   refine hK5 _ ?_
   refine aw_seq_k (fun K6 hK6 => ?_)
   refine aw_seq_k (fun K7 hK7 => ?_)
   refine aw_region ?_
   refine x_pure rfl (p_move rfl) ?_
   refine x_pure rfl (p_bin rfl rfl rfl) ?_
   first | refine aops_end ?_ | refine aops_nil ?_
   refine hK7 _ ?_
   refine aw_cond_s rfl (fun hc3 => ?_) (fun hc3 => ?_)
   ·
    try simp only [bs] at hc3
    refine aw_seq_k (fun K8 hK8 => ?_)
    refine aw_region ?_
    refine x_step hf rfl (r_call rfl rfl Try.ent10 rfl (alive10_den)) ?_
    refine x_pure rfl (p_assign rfl) ?_
    first | refine aops_end ?_ | refine aops_nil ?_
    refine hK8 _ ?_
    refine aw_ret ?_
    refine ⟨_, rfl, ?_⟩
    rfl
   ·
    try simp only [bs] at hc3
    refine aw_skip ?_
    refine hK6 _ ?_
    refine aw_seq_k (fun K9 hK9 => ?_)
    refine aw_region ?_
    obtain ⟨b1, b2, b3⟩ := back10 (show opnS l e = 0 by assumption)
    refine x_pure rfl (p_move rfl) ?_
    first | refine x_pure rfl (p_fld_adr rfl Try.fd24_0 Try.c3 rfl) ?_ | refine x_pure rfl (p_fld_ref rfl Try.fd24_0 Try.c3 rfl) ?_
    first | refine x_pure rfl (p_load1 rfl Try.g3 rfl) ?_ | refine x_pure rfl (p_load1r rfl Try.g3 rfl rfl) ?_ | refine x_pure rfl (p_load1r rfl Try.g3 rfl (strs_ref (by simp only [List.length_cons] at *; omega))) ?_ | refine x_pure rfl (p_load1r rfl Try.g3 rfl (strs_ref (by omega))) ?_
    first | refine x_pure rfl (p_fld_adr rfl Try.fd24_1 Try.c9 rfl) ?_ | refine x_pure rfl (p_fld_ref rfl Try.fd24_1 Try.c9 rfl) ?_
    first | refine x_pure rfl (p_load1 rfl Try.g9 rfl) ?_ | refine x_pure rfl (p_load1r rfl Try.g9 rfl rfl) ?_ | refine x_pure rfl (p_load1r rfl Try.g9 rfl (strs_ref (by simp only [List.length_cons] at *; omega))) ?_ | refine x_pure rfl (p_load1r rfl Try.g9 rfl (strs_ref (by omega))) ?_
    first | refine x_pure rfl (p_fld_adr rfl Try.fd24_3 Try.c3 rfl) ?_ | refine x_pure rfl (p_fld_ref rfl Try.fd24_3 Try.c3 rfl) ?_
    first | refine x_pure rfl (p_load1 rfl Try.g3 rfl) ?_ | refine x_pure rfl (p_load1r rfl Try.g3 rfl rfl) ?_ | refine x_pure rfl (p_load1r rfl Try.g3 rfl (strs_ref (by simp only [List.length_cons] at *; omega))) ?_ | refine x_pure rfl (p_load1r rfl Try.g3 rfl (strs_ref (by omega))) ?_
    refine x_step hf rfl (r_call rfl rfl Try.ent23 rfl ((show Den Try.prog _ _ (· = .tup [.sl 4 (l.map seC), .agg (stC (stayOf e e.2.2)), .s (.int .i64 0)]) from den_is (close10_den (opnR l e) e.1.1 e.1.2 e.2.2 (by omega)) (by rw [b1, b2, b3])))) ?_
    refine x_pure rfl (p_move rfl) ?_
    refine x_pure rfl (p_extract rfl rfl) ?_
    refine x_pure rfl (p_extract rfl rfl) ?_
    refine x_pure rfl (p_extract rfl rfl) ?_
    refine x_alloc hf rfl rfl rfl Try.z44 ?_
    refine x_pure rfl (p_assign rfl) ?_
    refine x_store hf rfl rfl Try.c44 rfl rfl (by simp [seC, stC, spC, AV.cells, AV.one, Value.oneCell', splice, AV.kill, AV.clean, cleanL, AV.only]) (by simp [seC, stC, spC, AV.cells, AV.leaf, Value.oneCell', splice, AV.kill, AV.clean, cleanL, AV.only]) rfl ?_
    refine aops_le (le_keep (nee 8) (sl' := [(0, _), (7, _), (8, _), (40, _)]) (m' := []) ⟨⟨_, rfl, rfl⟩, ⟨_, rfl, rfl⟩, ⟨_, rfl, rfl⟩, ⟨_, rfl, rfl⟩, trivial⟩ rfl) ?_
    refine x_pure rfl (p_assign rfl) ?_
    first | refine aops_end ?_ | refine aops_nil ?_
    refine hK9 _ ?_
    refine aw_seq_k (fun K10 hK10 => ?_)
    refine aw_region ?_
    refine x_step hf rfl (r_call rfl rfl Try.ent10 rfl (alive10_den)) ?_
    refine x_pure rfl (p_move rfl) ?_
    refine x_guard_t rfl rfl rfl ?_
    refine x_pure rfl (p_move rfl) ?_
    refine x_guard_t rfl rfl rfl ?_
    refine x_pure rfl (p_bin rfl rfl rfl) ?_
    refine x_pure rfl (p_pick_t rfl rfl) ?_
    refine x_pure rfl (p_move rfl) ?_
    refine x_guard_t rfl rfl rfl ?_
    first | refine x_pure rfl (p_fld_adr rfl Try.fd44_0 Try.c42 rfl) ?_ | refine x_pure rfl (p_fld_ref rfl Try.fd44_0 Try.c42 rfl) ?_
    refine x_guard_t rfl rfl rfl ?_
    first | refine x_pure rfl (p_loads rfl Try.g42 Try.c42 rfl rfl) ?_ | refine x_pure rfl (p_loadsr rfl Try.g42 Try.c42 rfl rfl rfl) ?_
    refine x_guard_t rfl rfl rfl ?_
    refine x_step hf rfl (r_call rfl rfl Try.ent35 rfl (den_is (none_den (stayOf e e.2.2).1) (congrArg (fun z => AV.s (.bool z)) (show decide (e.2.2 ≤ e.2.2) = true from by simp)))) ?_
    refine x_pure rfl (p_pick_t rfl rfl) ?_
    refine x_pure rfl (p_move rfl) ?_
    refine x_guard_t rfl rfl rfl ?_
    refine x_pure rfl (p_move rfl) ?_
    refine x_guard_t rfl rfl rfl ?_
    refine x_step hf rfl (r_call rfl rfl Try.ent15 rfl (olds10_den _ (by omega))) ?_
    refine x_guard_t rfl rfl rfl ?_
    refine x_pure rfl (p_move rfl) ?_
    refine x_guard_t rfl rfl rfl ?_
    refine x_step hf rfl (r_call rfl rfl Try.ent14 rfl (refSame10T_den _ _ rfl (by omega))) ?_
    refine x_pure rfl (p_pick_t rfl rfl) ?_
    refine x_pure rfl (p_assign rfl) ?_
    first | refine aops_end ?_ | refine aops_nil ?_
    refine hK10 _ ?_
    refine aw_ret ?_
    refine ⟨_, rfl, ?_⟩
    rfl
 ·
  try simp only [bs] at hg1
  refine x_guard_f rfl rfl rfl ?_
  refine x_guard_f rfl rfl rfl ?_
  refine x_pure rfl (p_pick_t rfl rfl) ?_
  first | refine aops_end ?_ | refine aops_nil ?_
  refine hK3 _ ?_
  refine aw_cond_t rfl ?_
  refine aw_seq_k (fun K11 hK11 => ?_)
  refine aw_region ?_
  refine x_step hf rfl (r_call rfl rfl Try.ent10 rfl (alive10_den)) ?_
  refine x_pure rfl (p_assign rfl) ?_
  first | refine aops_end ?_ | refine aops_nil ?_
  refine hK11 _ ?_
  refine aw_ret ?_
  refine ⟨_, rfl, ?_⟩
  rfl
end Go.Proofs.Ytcjchfocohagdaa
