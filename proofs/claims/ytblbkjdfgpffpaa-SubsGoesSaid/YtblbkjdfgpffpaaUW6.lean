import Derived.Test.YtblbkjdfgpffpaaUW5
set_option linter.unusedVariables false
set_option linter.unusedSimpArgs false
namespace Go.Proofs.Ytblbkjdfgpffpaa
open Go Go.Abs

set_option maxRecDepth 20000 in
set_option maxHeartbeats 4000000 in
theorem revokeKeep_den (l : List En) (p : Pr) (t : Int) (hl : l.length * 48 ≤ 140737488351232) (hkeep : ∀ (k : Nat) (hk : k < l.length), forceP p l[k] = true → l[k].2.1 < t)  : Den Try.prog 14 [.sl 4 (l.map enC), .agg (prC p), .s (.int .i64 t)]  (· = .tup [.sl 4 ((if onB l p then revL l p t else []).map enC), .s (.int .i64 (if onB l p then 0 else 91))]) := by
 refine den_of_aw Try.func14 rfl (Nat.le_of_ble_eq_true rfl) (fun w0 A hf => ?_)
 refine aw_seq_k (fun K1 hK1 => ?_)
 refine aw_region ?_
 refine x_step hf rfl (r_box rfl rfl (by simp [enC, prC, spC, AV.cells, AV.leaf, Value.oneCell', splice, AV.kill, AV.clean, cleanL, AV.only])) ?_
 refine x_pure rfl (p_assign_bad) ?_
 refine x_pure rfl (p_assign_bad) ?_
 first | refine aops_end ?_ | refine aops_nil ?_
 refine hK1 _ ?_
 refine aw_seq_k (fun K2 hK2 => ?_)
 refine aw_region ?_
 refine x_pure rfl (p_move rfl) ?_
 first | refine x_pure rfl (p_loads rfl Try.g31 Try.c31 rfl rfl) ?_ | refine x_pure rfl (p_loadsr rfl Try.g31 Try.c31 rfl rfl rfl) ?_
 refine x_step hf rfl (r_call rfl rfl Try.ent41 rfl (force_den _ _ (by omega))) ?_
 refine x_pure rfl (p_assign rfl) ?_
 first | refine aops_end ?_ | refine aops_nil ?_
 refine hK2 _ ?_
 refine aw_seq_k (fun K3 hK3 => ?_)
 refine aw_seq_k (fun K4 hK4 => ?_)
 refine aw_region ?_
 refine x_pure rfl (p_move rfl) ?_
 refine x_pure rfl (p_bin rfl rfl rfl) ?_
 first | refine aops_end ?_ | refine aops_nil ?_
 refine hK4 _ ?_
 refine aw_cond_s rfl (fun hc1 => ?_) (fun hc1 => ?_)
 ·
  try simp only [Bool.not_eq_true', Bool.not_eq_false', Bool.not_true, Bool.not_false, Bool.not_not, decide_eq_true_eq, decide_eq_false_iff_not, beq_iff_eq, beq_eq_false_iff_ne, bne_iff_ne, bne_eq_false_iff_eq, ne_eq, Int.not_lt, Int.not_le, Nat.not_lt, Nat.not_le, gt_iff_lt, ge_iff_le, Bool.and_eq_true, Bool.or_eq_true, Int.ofNat_lt, Int.ofNat_le, Int.natCast_inj, List.length_map, List.length_cons, List.length_nil, List.length_append] at hc1
  refine aw_seq_k (fun K5 hK5 => ?_)
  refine aw_region ?_
  refine x_pure rfl (p_nil (k := 4)) ?_
  refine x_pure rfl (p_assign rfl) ?_
  first | refine aops_end ?_ | refine aops_nil ?_
  refine hK5 _ ?_
  refine aw_ret ?_
  refine ⟨_, rfl, ?_⟩
  rw [show onB l p = false from onB_f (by omega)]; rfl
 ·
  try simp only [Bool.not_eq_true', Bool.not_eq_false', Bool.not_true, Bool.not_false, Bool.not_not, decide_eq_true_eq, decide_eq_false_iff_not, beq_iff_eq, beq_eq_false_iff_ne, bne_iff_ne, bne_eq_false_iff_eq, ne_eq, Int.not_lt, Int.not_le, Nat.not_lt, Nat.not_le, gt_iff_lt, ge_iff_le, Bool.and_eq_true, Bool.or_eq_true, Int.ofNat_lt, Int.ofNat_le, Int.natCast_inj, List.length_map, List.length_cons, List.length_nil, List.length_append] at hc1
  obtain ⟨k, hk, ek, hk1, hk2⟩ : ∃ k : Nat, ∃ h : k < l.length, idxB (forceP p) l = (k : Nat) ∧ forceP p l[k] = true ∧ ∀ (j : Nat) (hj : j < l.length), j < k → forceP p l[j] = false := by
    rcases idxB_cases (forceP p) l with ⟨e, _⟩ | ⟨k', h1, e, h2, h3⟩
    · exfalso; omega
    · exact ⟨k', h1, e, h2, h3⟩
  rw [ek]
  refine aw_skip ?_
  refine hK3 _ ?_
  refine aw_seq_k (fun K6 hK6 => ?_)
  refine aw_region ?_
  refine x_pure rfl (p_move rfl) ?_
  refine y_callO hf rfl rfl rfl rfl rfl Try.ent42 rfl (eClone_den _ (by omega)) ?_
  rintro _ rfl
  refine x_pure rfl (p_assign rfl) ?_
  first | refine aops_end ?_ | refine aops_nil ?_
  refine hK6 _ ?_
  refine aw_seq_k (fun K7 hK7 => ?_)
  refine aw_region ?_
  have hml : (l.map enC).length = l.length := List.length_map _
  refine x_pure rfl (p_move rfl) ?_
  refine x_pure rfl (p_move rfl) ?_
  refine x_pure rfl (p_move rfl) ?_
  first | refine x_pure rfl (p_idx_sl rfl rfl Try.e26 Try.c63 (by first | assumption | (refine ⟨by omega, ?_⟩; first | assumption | exact strs_at (by omega) | exact strs_at (by simp only [List.length_cons] at *; omega) | exact ints_at (by omega) | exact map_at (by omega) | exact list_at (by omega)) | exact ⟨by decide, rfl⟩)) ?_ | refine x_pure rfl (p_idx_own rfl rfl Try.e26 Try.c63 (by omega)) ?_
  first | refine x_pure rfl (p_fld_adr rfl Try.fd63_1 Try.c60 rfl) ?_ | refine x_pure rfl (p_fld_ref rfl Try.fd63_1 Try.c60 rfl) ?_
  first | refine x_pure rfl (p_fld_adr rfl Try.fd60_1 Try.c3 rfl) ?_ | refine x_pure rfl (p_fld_ref rfl Try.fd60_1 Try.c3 rfl) ?_
  refine x_store hf rfl rfl Try.c3 rfl rfl (by simp [AV.cells, AV.one, Value.oneCell']) (by simp [AV.cells, AV.leaf, Value.oneCell']) (own_store (c := 4) (k := k) (f := 3) (enc := enC) (v := (l[k].1, (l[k].2.1, t))) (by omega) (by omega) rfl (Nat.le_refl _)) ?_
  first | refine aops_end ?_ | refine aops_nil ?_
  refine hK7 _ ?_
  refine aw_seq_k (fun K8 hK8 => ?_)
  refine aw_seq_k (fun K9 hK9 => ?_)
  refine aw_region ?_
  refine x_pure rfl (p_move rfl) ?_
  refine x_pure rfl (p_move rfl) ?_
  first | refine x_pure rfl (p_idx_sl rfl rfl Try.e26 Try.c63 (by first | assumption | (refine ⟨by omega, ?_⟩; first | assumption | exact strs_at (by omega) | exact strs_at (by simp only [List.length_cons] at *; omega) | exact ints_at (by omega) | exact map_at (by omega) | exact list_at (by omega)) | exact ⟨by decide, rfl⟩)) ?_ | refine x_pure rfl (p_idx_own rfl rfl Try.e26 Try.c63 (by omega)) ?_
  first | refine x_pure rfl (p_fld_adr rfl Try.fd63_1 Try.c60 rfl) ?_ | refine x_pure rfl (p_fld_ref rfl Try.fd63_1 Try.c60 rfl) ?_
  refine x_pure rfl (p_loadsr rfl Try.g60 Try.c60 rfl (by rw [own_at (c := 4) (k := k) (enc := enC) (by omega) (by rw [List.length_set]; omega), List.getElem_set_self]; rfl) (cs' := spC (l[k].2.1, t)) (by rw [own_at (c := 4) (k := k) (enc := enC) (by omega) (by rw [List.length_set]; omega), List.getElem_set_self]; rfl)) ?_
  refine x_step hf rfl (r_call rfl rfl Try.ent43 rfl (none_den _)) ?_
  first | refine aops_end ?_ | refine aops_nil ?_
  refine hK9 _ ?_
  refine aw_cond_s rfl (fun hc2 => ?_) (fun hc2 => ?_)
  ·
   try simp only [Bool.not_eq_true', Bool.not_eq_false', Bool.not_true, Bool.not_false, Bool.not_not, decide_eq_true_eq, decide_eq_false_iff_not, beq_iff_eq, beq_eq_false_iff_ne, bne_iff_ne, bne_eq_false_iff_eq, ne_eq, Int.not_lt, Int.not_le, Nat.not_lt, Nat.not_le, gt_iff_lt, ge_iff_le, Bool.and_eq_true, Bool.or_eq_true, Int.ofNat_lt, Int.ofNat_le, Int.natCast_inj, List.length_map, List.length_cons, List.length_nil, List.length_append] at hc2
   have := hkeep k hk hk1; exfalso; omega
  ·
   try simp only [Bool.not_eq_true', Bool.not_eq_false', Bool.not_true, Bool.not_false, Bool.not_not, decide_eq_true_eq, decide_eq_false_iff_not, beq_iff_eq, beq_eq_false_iff_ne, bne_iff_ne, bne_eq_false_iff_eq, ne_eq, Int.not_lt, Int.not_le, Nat.not_lt, Nat.not_le, gt_iff_lt, ge_iff_le, Bool.and_eq_true, Bool.or_eq_true, Int.ofNat_lt, Int.ofNat_le, Int.natCast_inj, List.length_map, List.length_cons, List.length_nil, List.length_append] at hc2
   refine aw_skip ?_
   refine hK8 _ ?_
   refine aw_seq_k (fun K10 hK10 => ?_)
   refine aw_region ?_
   refine x_pure rfl (p_move rfl) ?_
   refine x_pure rfl (p_assign rfl) ?_
   refine x_pure rfl (p_assign rfl) ?_
   first | refine aops_end ?_ | refine aops_nil ?_
   refine hK10 _ ?_
   refine aw_ret ?_
   refine ⟨_, rfl, ?_⟩
   rw [show onB l p = true from onB_at hk hk1]
   first
   | (refine (congrArg (fun z => AV.tup [z, .s (.int .i64 0)]) (conv_whole (g := 16) rfl (by rw [List.length_map, List.length_map, List.length_set]))).trans ?_; rw [if_pos rfl, if_pos rfl, rev_set hk hk2 hk1 (by omega)])
   | (refine (congrArg (fun z => AV.tup [z, .s (.int .i64 0)]) (conv_whole (g := 16) rfl (by first | rfl | (simp only [List.length_map, List.length_append, List.length_take, List.length_drop, List.length_set]; omega)))).trans ?_; rw [if_pos rfl, if_pos rfl, ← rev_del (v := (l[k].1, (l[k].2.1, t))) hk hk2 hk1 (by omega), List.map_append, List.map_take, List.map_drop])
end Go.Proofs.Ytblbkjdfgpffpaa
