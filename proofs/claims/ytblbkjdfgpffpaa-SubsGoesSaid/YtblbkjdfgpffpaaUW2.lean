import Derived.Test.YtblbkjdfgpffpaaUW1
set_option linter.unusedVariables false
set_option linter.unusedSimpArgs false
namespace Go.Proofs.Ytblbkjdfgpffpaa
open Go Go.Abs

set_option maxRecDepth 20000 in
set_option maxHeartbeats 2000000 in
theorem grant_den (l : List En) (p : Pr) (t : Int) (hl : l.length * 48 ≤ 140737488351232)  : Den Try.prog 12 [.sl 4 (l.map enC), .agg (prC p), .s (.int .i64 t)]  (· = .tup [.sl 4 ((if onB l p then [] else grantL l p t).map enC), .s (.int .i64 (if onB l p then 90 else 0))]) := by
 refine den_of_aw Try.func12 rfl (Nat.le_of_ble_eq_true rfl) (fun w0 A hf => ?_)
 refine aw_seq_k (fun K1 hK1 => ?_)
 refine aw_region ?_
 refine x_step hf rfl (r_box rfl rfl (by simp [enC, prC, AV.cells, AV.leaf, Value.oneCell', splice, AV.kill, AV.clean, cleanL, AV.only])) ?_
 refine x_pure rfl (p_assign_bad) ?_
 refine x_pure rfl (p_assign_bad) ?_
 first | refine aops_end ?_ | refine aops_nil ?_
 refine hK1 _ ?_
 refine aw_seq_k (fun K2 hK2 => ?_)
 refine aw_seq_k (fun K3 hK3 => ?_)
 refine aw_region ?_
 refine x_pure rfl (p_move rfl) ?_
 first | refine x_pure rfl (p_loads rfl Try.g31 Try.c31 rfl rfl) ?_ | refine x_pure rfl (p_loadsr rfl Try.g31 Try.c31 rfl rfl rfl) ?_
 refine x_step hf rfl (r_call rfl rfl Try.ent18 rfl (inForce_den _ _ (by omega))) ?_
 first | refine aops_end ?_ | refine aops_nil ?_
 refine hK3 _ ?_
 refine aw_cond_s rfl (fun hc1 => ?_) (fun hc1 => ?_)
 ·
  try simp only [Bool.not_eq_true', Bool.not_eq_false', Bool.not_true, Bool.not_false, Bool.not_not, decide_eq_true_eq, decide_eq_false_iff_not, beq_iff_eq, beq_eq_false_iff_ne, bne_iff_ne, bne_eq_false_iff_eq, ne_eq, Int.not_lt, Int.not_le, Nat.not_lt, Nat.not_le, gt_iff_lt, ge_iff_le, Bool.and_eq_true, Bool.or_eq_true, Int.ofNat_lt, Int.ofNat_le, Int.natCast_inj, List.length_map, List.length_cons, List.length_nil, List.length_append] at hc1
  refine aw_seq_k (fun K4 hK4 => ?_)
  refine aw_region ?_
  refine x_pure rfl (p_nil (k := 4)) ?_
  refine x_pure rfl (p_assign rfl) ?_
  first | refine aops_end ?_ | refine aops_nil ?_
  refine hK4 _ ?_
  refine aw_ret ?_
  refine ⟨_, rfl, ?_⟩
  rw [show onB l p = true by assumption]; rfl
 ·
  try simp only [Bool.not_eq_true', Bool.not_eq_false', Bool.not_true, Bool.not_false, Bool.not_not, decide_eq_true_eq, decide_eq_false_iff_not, beq_iff_eq, beq_eq_false_iff_ne, bne_iff_ne, bne_eq_false_iff_eq, ne_eq, Int.not_lt, Int.not_le, Nat.not_lt, Nat.not_le, gt_iff_lt, ge_iff_le, Bool.and_eq_true, Bool.or_eq_true, Int.ofNat_lt, Int.ofNat_le, Int.natCast_inj, List.length_map, List.length_cons, List.length_nil, List.length_append] at hc1
  refine aw_skip ?_
  refine hK2 _ ?_
  refine aw_seq_k (fun K5 hK5 => ?_)
  refine aw_region ?_
  first | refine x_pure rfl (p_loads rfl Try.g31 Try.c31 rfl rfl) ?_ | refine x_pure rfl (p_loadsr rfl Try.g31 Try.c31 rfl rfl rfl) ?_
  refine x_pure rfl (p_move rfl) ?_
  refine x_pure rfl (p_build rfl Try.z60 Try.pl60 (by simp [enC, prC, AV.cells, AV.one, Value.oneCell', splice, AV.kill, AV.clean, cleanL, AV.only]) rfl) ?_
  refine x_pure rfl (p_build rfl Try.z63 Try.pl63 (by simp [enC, prC, AV.cells, AV.one, Value.oneCell', splice, AV.kill, AV.clean, cleanL, AV.only]) rfl) ?_
  refine x_allocst hf rfl Try.z63 rfl Try.c63 rfl rfl rfl rfl (by simp [enC, prC, AV.cells, AV.leaf, Value.oneCell', splice, AV.kill, AV.clean, cleanL, AV.only]) ?_
  first | refine aops_end ?_ | refine aops_nil ?_
  refine hK5 _ ?_
  refine aw_seq_k (fun K6 hK6 => ?_)
  refine aw_region ?_
  refine x_pure rfl (p_move rfl) ?_
  refine x_pure rfl (p_makeFunc rfl) ?_
  refine x_step hf rfl (r_call rfl rfl Try.ent36 rfl (eIndexFunc_den Try.ent37 rfl (fun x => decide (0 < ordE x (p, (t, 1099511627776)))) l (by omega) (fun x _ => grant1_den x (p, (t, 1099511627776))))) ?_
  refine x_pure rfl (p_assign rfl) ?_
  first | refine aops_end ?_ | refine aops_nil ?_
  refine hK6 _ ?_
  refine aw_seq_k (fun K7 hK7 => ?_)
  refine aw_seq_k (fun K8 hK8 => ?_)
  refine aw_region ?_
  refine x_pure rfl (p_move rfl) ?_
  refine x_pure rfl (p_bin rfl rfl rfl) ?_
  first | refine aops_end ?_ | refine aops_nil ?_
  refine hK8 _ ?_
  refine aw_cond_s rfl (fun hc2 => ?_) (fun hc2 => ?_)
  ·
   try simp only [Bool.not_eq_true', Bool.not_eq_false', Bool.not_true, Bool.not_false, Bool.not_not, decide_eq_true_eq, decide_eq_false_iff_not, beq_iff_eq, beq_eq_false_iff_ne, bne_iff_ne, bne_eq_false_iff_eq, ne_eq, Int.not_lt, Int.not_le, Nat.not_lt, Nat.not_le, gt_iff_lt, ge_iff_le, Bool.and_eq_true, Bool.or_eq_true, Int.ofNat_lt, Int.ofNat_le, Int.natCast_inj, List.length_map, List.length_cons, List.length_nil, List.length_append] at hc2
   obtain ⟨k, hk⟩ : ∃ k : Nat, k = l.length := ⟨_, rfl⟩
   have hno : ∀ x ∈ l, ¬ 0 < ordE x (p, (t, 1099511627776)) := by
     rcases idxB_cases (fun x => decide (0 < ordE x (p, (t, 1099511627776)))) l with ⟨_, h⟩ | ⟨k', _, e, _⟩
     · intro x hx; simpa using h x hx
     · exfalso; omega
   have hins := insE_at (p, (t, 1099511627776)) l k (by omega) (fun j hj _ => hno _ (List.getElem_mem hj)) (fun h => by omega)
   refine aw_region ?_
   refine x_pure rfl (p_move rfl) ?_
   first | refine x_pure rfl (p_len_sl rfl Try.e26) ?_ | refine x_pure rfl (p_len_own rfl Try.e26) ?_ | refine x_pure rfl (p_len_nil rfl Try.e26) ?_
   rw [List.length_map, ← hk]
   refine x_pure rfl (p_assign rfl) ?_
   first | refine aops_end ?_ | refine aops_nil ?_
   refine hK7 _ ?_
   refine aw_seq_k (fun K9 hK9 => ?_)
   refine aw_draw hf Try.mixed (by kernel_rfl) rfl ?_
   refine d_pure [(0, _)] rfl rfl ⟨⟨rfl, rfl⟩, trivial⟩ rfl (p_move rfl) ?_
   refine d_pure [(9, _)] rfl rfl ⟨⟨rfl, rfl⟩, trivial⟩ rfl (p_move rfl) ?_
   refine d_pure [(24, _), (25, _)] rfl rfl ⟨⟨rfl, rfl⟩, ⟨rfl, rfl⟩, trivial⟩ rfl (p_slice_sl rfl Try.e26 Try.c63 rfl (bnd_z rfl (by omega)) (by omega) (by simp only [List.length_map, Int.toNat_natCast] <;> omega) (slice_to (k := k) (by omega))) ?_
   first | refine d_pure [(8, _)] rfl rfl ⟨⟨rfl, rfl⟩, trivial⟩ rfl (p_loads rfl Try.g63 Try.c63 rfl rfl) ?_ | refine d_pure [(8, _)] rfl rfl ⟨⟨rfl, rfl⟩, trivial⟩ rfl (p_loadsr rfl Try.g63 Try.c63 rfl rfl rfl) ?_
   refine d_rstep [(27, _)] rfl rfl ⟨⟨rfl, rfl⟩, trivial⟩ rfl (r_buildSlice Try.ap26 rfl rfl rfl rfl (by simp [enC, prC, AV.cells, AV.leaf, Value.oneCell', splice, AV.kill, AV.clean, cleanL, AV.only])) ?_
   refine d_pure [(0, _)] rfl rfl ⟨⟨rfl, rfl⟩, trivial⟩ rfl (p_move rfl) ?_
   refine d_pure [(9, _)] rfl rfl ⟨⟨rfl, rfl⟩, trivial⟩ rfl (p_move rfl) ?_
   refine d_pure [(29, _), (30, _)] rfl rfl ⟨⟨rfl, rfl⟩, ⟨rfl, rfl⟩, trivial⟩ rfl (p_slice_sl rfl Try.e26 Try.c63 (bnd_z rfl (by omega)) rfl (by simp only [List.length_map, Int.toNat_natCast] <;> omega) (by omega) (slice_from (k := k) (by omega))) ?_
   refine d_rstep [(26, _), (28, _), (31, _)] rfl rfl ⟨⟨rfl, rfl⟩, ⟨rfl, rfl⟩, ⟨rfl, rfl⟩, trivial⟩ rfl (r_buildSlice Try.ap86 rfl rfl rfl rfl (by simp [enC, prC, AV.cells, AV.leaf, Value.oneCell', splice, AV.kill, AV.clean, cleanL, AV.only])) ?_
   refine d_rstep [(32, _)] rfl rfl ⟨⟨rfl, rfl⟩, trivial⟩ rfl (r_call rfl rfl Try.ent39 rfl ((show Den Try.prog _ _ (· = .sl 4 ((l.take k ++ (p, (t, 1099511627776)) :: l.drop k).map enC)) from (den_of_deno' (eConcat_den [l.take k, [(p, (t, 1099511627776))], l.drop k] (by simp) (by simp only [List.flatten_cons, List.flatten_nil, List.length_append, List.length_take, List.length_drop, List.length_cons, List.length_nil]; omega))).mono fun r h => h.trans (by simp)))) ?_
   refine d_pure [(33, _)] rfl rfl ⟨⟨rfl, rfl⟩, trivial⟩ rfl (p_assign rfl) ?_
   refine d_pure [] rfl rfl trivial rfl (p_assign rfl) ?_
   refine lex_end (sl' := [(6, _), (7, _)]) rfl ⟨rfl, rfl, trivial⟩ rfl ?_
   refine hK9 _ ?_
   refine aw_ret ?_
   refine ⟨_, rfl, ?_⟩
   rw [show onB l p = false from by first | assumption | (simp at *; assumption), ← hins]; rfl
  ·
   try simp only [Bool.not_eq_true', Bool.not_eq_false', Bool.not_true, Bool.not_false, Bool.not_not, decide_eq_true_eq, decide_eq_false_iff_not, beq_iff_eq, beq_eq_false_iff_ne, bne_iff_ne, bne_eq_false_iff_eq, ne_eq, Int.not_lt, Int.not_le, Nat.not_lt, Nat.not_le, gt_iff_lt, ge_iff_le, Bool.and_eq_true, Bool.or_eq_true, Int.ofNat_lt, Int.ofNat_le, Int.natCast_inj, List.length_map, List.length_cons, List.length_nil, List.length_append] at hc2
   obtain ⟨k, hk, ek, hk1, hk2⟩ : ∃ k : Nat, ∃ h : k < l.length, idxB (fun x => decide (0 < ordE x (p, (t, 1099511627776)))) l = (k : Nat) ∧ 0 < ordE l[k] (p, (t, 1099511627776)) ∧ ∀ (j : Nat) (hj : j < l.length), j < k → ¬ 0 < ordE l[j] (p, (t, 1099511627776)) := by
     rcases idxB_cases (fun x => decide (0 < ordE x (p, (t, 1099511627776)))) l with ⟨e, _⟩ | ⟨k', h1, e, h2, h3⟩
     · exfalso; omega
     · exact ⟨k', h1, e, by simpa using h2, fun j hj hjk => by simpa using h3 j hj hjk⟩
   rw [ek]
   have hins := insE_at (p, (t, 1099511627776)) l k (by omega) hk2 (fun _ => hk1)
   refine aw_skip ?_
   refine hK7 _ ?_
   refine aw_seq_k (fun K10 hK10 => ?_)
   refine aw_draw hf Try.mixed (by kernel_rfl) rfl ?_
   refine d_pure [(0, _)] rfl rfl ⟨⟨rfl, rfl⟩, trivial⟩ rfl (p_move rfl) ?_
   refine d_pure [(9, _)] rfl rfl ⟨⟨rfl, rfl⟩, trivial⟩ rfl (p_move rfl) ?_
   refine d_pure [(24, _), (25, _)] rfl rfl ⟨⟨rfl, rfl⟩, ⟨rfl, rfl⟩, trivial⟩ rfl (p_slice_sl rfl Try.e26 Try.c63 rfl (bnd_z rfl (by omega)) (by omega) (by simp only [List.length_map, Int.toNat_natCast] <;> omega) (slice_to (k := k) (by omega))) ?_
   first | refine d_pure [(8, _)] rfl rfl ⟨⟨rfl, rfl⟩, trivial⟩ rfl (p_loads rfl Try.g63 Try.c63 rfl rfl) ?_ | refine d_pure [(8, _)] rfl rfl ⟨⟨rfl, rfl⟩, trivial⟩ rfl (p_loadsr rfl Try.g63 Try.c63 rfl rfl rfl) ?_
   refine d_rstep [(27, _)] rfl rfl ⟨⟨rfl, rfl⟩, trivial⟩ rfl (r_buildSlice Try.ap26 rfl rfl rfl rfl (by simp [enC, prC, AV.cells, AV.leaf, Value.oneCell', splice, AV.kill, AV.clean, cleanL, AV.only])) ?_
   refine d_pure [(0, _)] rfl rfl ⟨⟨rfl, rfl⟩, trivial⟩ rfl (p_move rfl) ?_
   refine d_pure [(9, _)] rfl rfl ⟨⟨rfl, rfl⟩, trivial⟩ rfl (p_move rfl) ?_
   refine d_pure [(29, _), (30, _)] rfl rfl ⟨⟨rfl, rfl⟩, ⟨rfl, rfl⟩, trivial⟩ rfl (p_slice_sl rfl Try.e26 Try.c63 (bnd_z rfl (by omega)) rfl (by simp only [List.length_map, Int.toNat_natCast] <;> omega) (by omega) (slice_from (k := k) (by omega))) ?_
   refine d_rstep [(26, _), (28, _), (31, _)] rfl rfl ⟨⟨rfl, rfl⟩, ⟨rfl, rfl⟩, ⟨rfl, rfl⟩, trivial⟩ rfl (r_buildSlice Try.ap86 rfl rfl rfl rfl (by simp [enC, prC, AV.cells, AV.leaf, Value.oneCell', splice, AV.kill, AV.clean, cleanL, AV.only])) ?_
   refine d_rstep [(32, _)] rfl rfl ⟨⟨rfl, rfl⟩, trivial⟩ rfl (r_call rfl rfl Try.ent39 rfl ((show Den Try.prog _ _ (· = .sl 4 ((l.take k ++ (p, (t, 1099511627776)) :: l.drop k).map enC)) from (den_of_deno' (eConcat_den [l.take k, [(p, (t, 1099511627776))], l.drop k] (by simp) (by simp only [List.flatten_cons, List.flatten_nil, List.length_append, List.length_take, List.length_drop, List.length_cons, List.length_nil]; omega))).mono fun r h => h.trans (by simp)))) ?_
   refine d_pure [(33, _)] rfl rfl ⟨⟨rfl, rfl⟩, trivial⟩ rfl (p_assign rfl) ?_
   refine d_pure [] rfl rfl trivial rfl (p_assign rfl) ?_
   refine lex_end (sl' := [(6, _), (7, _)]) rfl ⟨rfl, rfl, trivial⟩ rfl ?_
   refine hK10 _ ?_
   refine aw_ret ?_
   refine ⟨_, rfl, ?_⟩
   rw [show onB l p = false from by first | assumption | (simp at *; assumption), ← hins]; rfl
end Go.Proofs.Ytblbkjdfgpffpaa
