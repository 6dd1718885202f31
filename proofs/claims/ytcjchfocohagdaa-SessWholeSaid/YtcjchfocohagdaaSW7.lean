import Derived.Test.YtcjchfocohagdaaSW1
import Derived.Test.YtcjchfocohagdaaHW3
import Derived.Test.YtcjchfocohagdaaNW5
set_option linter.unusedVariables false
set_option linter.unusedSimpArgs false
namespace Go.Proofs.Ytcjchfocohagdaa
open Go Go.Abs

set_option maxRecDepth 20000 in
set_option maxHeartbeats 2000000 in
theorem stays10_den (l : List Se) (u : ByteArray) (t : Int) (hl : l.length * 40 ≤ 140737488351232)  : Den Try.prog 27 [.sl 4 (l.map seC), .s (.string u), .s (.int .i64 t)]  (· = .sl 4 ((staysL l u t).map stC)) := by
 refine den_of_aw Try.func27 rfl (Nat.le_of_ble_eq_true rfl) (fun w0 A hf => ?_)
 refine aw_seq_k (fun K1 hK1 => ?_)
 refine aw_region ?_
 refine x_pure rfl (p_assign_bad) ?_
 first | refine aops_end ?_ | refine aops_nil ?_
 refine hK1 _ ?_
 refine aw_seq_k (fun K2 hK2 => ?_)
 refine aw_region ?_
 refine x_nil hf 4 rfl rfl rfl ?_
 first | refine aops_end ?_ | refine aops_nil ?_
 refine hK2 _ ?_
 refine aw_seq_k (fun K3 hK3 => ?_)
 refine aw_seq_k (fun K4 hK4 => ?_)
 refine aw_region ?_
 refine x_pure rfl (p_move rfl) ?_
 first | refine x_pure rfl (p_len_sl rfl Try.e26) ?_ | refine x_pure rfl (p_len_own rfl Try.e26) ?_ | refine x_pure rfl (p_len_nil rfl Try.e26) ?_
 refine x_pure rfl (p_move rfl) ?_
 first | refine aops_end ?_ | refine aops_nil ?_
 refine hK4 _ ?_
 refine aw_block ?_
 refine aw_loop (ι := Nat × List Stay) (fun (⟨k, out⟩ : Nat × List Stay) => ⟨38, [(1, .s (.string u)), (2, .s (.int .i64 t)), (7, .own 7 4 0 out.length), (11, .sl 4 (l.map seC)), (12, .s (.int .i64 ((l.map seC).length : Nat))), (13, .s (.int .i64 (k : Nat)))], [(7, .buf 4 (out.map stC))]⟩) (fun (⟨k, out⟩ : Nat × List Stay) => k ≤ l.length ∧ out = staysRaw (l.take k) u t ∧ out.length ≤ k) (fun (⟨k, out⟩ : Nat × List Stay) => l.length - k) (0, []) ?_ ?_ ?_
 · exact ⟨Nat.zero_le _, rfl, Nat.le_refl _⟩
 · exact le_of ⟨rfl, rfl, rfl, rfl, rfl, rfl, trivial⟩
 ·
  rintro ⟨k, out⟩ hC
  obtain ⟨h1, h2, h3⟩ := hC
  refine aw_seq_k (fun K5 hK5 => ?_)
  refine aw_region ?_
  refine x_pure rfl (p_bin rfl rfl rfl) ?_
  first | refine aops_end ?_ | refine aops_nil ?_
  refine hK5 _ ?_
  refine aw_seq_k (fun K6 hK6 => ?_)
  refine aw_cond_s rfl (fun hc1 => ?_) (fun hc1 => ?_)
  ·
   try simp only [bs, stayOf] at hc1
   refine aw_skip ?_
   refine hK6 _ ?_
   refine aw_seq_k (fun K7 hK7 => ?_)
   refine aw_block ?_
   refine aw_seq_k (fun K8 hK8 => ?_)
   refine aw_region ?_
   first | refine x_pure rfl (p_idx_sl rfl rfl Try.e26 Try.c31 (by first | assumption | (refine ⟨by omega, ?_⟩; first | assumption | exact strs_at (by omega) | exact strs_at (by simp only [List.length_cons] at *; omega) | exact ints_at (by omega) | exact map_at (by omega) | exact list_at (by omega)) | exact ⟨by decide, rfl⟩)) ?_ | refine x_pure rfl (p_idx_own rfl rfl Try.e26 Try.c31 (by omega)) ?_
   first | refine x_pure rfl (p_loads rfl Try.g31 Try.c31 rfl rfl) ?_ | refine x_pure rfl (p_loadsr rfl Try.g31 Try.c31 rfl rfl rfl) ?_
   refine x_allocst hf rfl Try.z31 rfl Try.c31 rfl rfl rfl rfl (by simp [seC, stC, spC, AV.cells, AV.leaf, Value.oneCell', splice, AV.kill, AV.clean, cleanL, AV.only]) ?_
   first | refine aops_end ?_ | refine aops_nil ?_
   refine hK8 _ ?_
   refine aw_seq_k (fun K9 hK9 => ?_)
   refine aw_region ?_
   first | refine x_pure rfl (p_loads rfl Try.g31 Try.c31 rfl rfl) ?_ | refine x_pure rfl (p_loadsr rfl Try.g31 Try.c31 rfl rfl rfl) ?_
   refine x_pure rfl (p_move rfl) ?_
   refine x_step hf rfl (r_call rfl rfl Try.ent48 rfl (stay10_den l[k] t)) ?_
   refine x_allocst hf rfl Try.z44 rfl Try.c44 rfl rfl rfl rfl (by simp [seC, stC, spC, AV.cells, AV.leaf, Value.oneCell', splice, AV.kill, AV.clean, cleanL, AV.only]) ?_
   first | refine aops_end ?_ | refine aops_nil ?_
   refine hK9 _ ?_
   refine aw_seq_k (fun K10 hK10 => ?_)
   refine aw_region ?_
   first | refine x_pure rfl (p_fld_adr rfl Try.fd31_1 Try.c9 rfl) ?_ | refine x_pure rfl (p_fld_ref rfl Try.fd31_1 Try.c9 rfl) ?_
   first | refine x_pure rfl (p_load1 rfl Try.g9 rfl) ?_ | refine x_pure rfl (p_load1r rfl Try.g9 rfl rfl) ?_ | refine x_pure rfl (p_load1r rfl Try.g9 rfl (strs_ref (by simp only [List.length_cons] at *; omega))) ?_ | refine x_pure rfl (p_load1r rfl Try.g9 rfl (strs_ref (by omega))) ?_
   refine x_pure rfl (p_move rfl) ?_
   refine x_pure rfl (p_bin rfl rfl rfl) ?_
   refine x_pure rfl (p_move rfl) ?_
   refine y_guard_s rfl rfl rfl (fun hg2 => ?_) (fun hg2 => ?_)
   ·
    try simp only [bs, stayOf] at hg2
    first | refine x_pure rfl (p_fld_adr rfl Try.fd44_0 Try.c42 rfl) ?_ | refine x_pure rfl (p_fld_ref rfl Try.fd44_0 Try.c42 rfl) ?_
    refine x_guard_t rfl rfl rfl ?_
    first | refine x_pure rfl (p_loads rfl Try.g42 Try.c42 rfl rfl) ?_ | refine x_pure rfl (p_loadsr rfl Try.g42 Try.c42 rfl rfl rfl) ?_
    refine x_guard_t rfl rfl rfl ?_
    refine x_step hf rfl (r_call rfl rfl Try.ent35 rfl (none_den (stayOf l[k] t).1)) ?_
    refine x_guard_t rfl rfl rfl ?_
    refine x_pure rfl (p_not rfl) ?_
    refine x_pure rfl (p_pick_t rfl rfl) ?_
    first | refine aops_end ?_ | refine aops_nil ?_
    refine hK10 _ ?_
    refine aw_cond_s rfl (fun hc3 => ?_) (fun hc3 => ?_)
    ·
     try simp only [bs, stayOf] at hc3
     refine aw_region ?_
     refine x_pure rfl (p_move rfl) ?_
     first | refine x_pure rfl (p_loads rfl Try.g44 Try.c44 rfl rfl) ?_ | refine x_pure rfl (p_loadsr rfl Try.g44 Try.c44 rfl rfl rfl) ?_
     refine x_step hf rfl (r_buildSlice Try.ap63 rfl rfl rfl rfl (by simp [seC, stC, spC, AV.cells, AV.leaf, Value.oneCell', splice, AV.kill, AV.clean, cleanL, AV.only])) ?_
     refine x_append hf rfl Try.ap63 rfl rfl rfl (.inl rfl) (by rw [List.length_map]) rfl (by first | rfl | simp [asrc, look]) (by first | (simp only [maxLen, List.length_map, List.length_append, List.length_cons, List.length_nil]; omega) | (simp [maxLen] <;> omega)) (by first | (simp only [List.length_map, List.length_append, List.length_cons, List.length_nil]; omega) | (simp <;> omega)) ?_
     refine aops_le (le_of (sl' := [(1, _), (2, _), (11, _), (12, _), (13, _), (33, _)]) ⟨rfl, rfl, rfl, rfl, rfl, rfl, trivial⟩) ?_
     refine x_pure rfl (p_assign rfl) ?_
     first | refine aops_end ?_ | refine aops_nil ?_
     refine hK7 _ ?_
     refine aw_region ?_
     first | refine x_pure rfl (p_add rfl rfl (by omega) (by omega)) ?_ | refine x_pure rfl (p_bin rfl rfl rfl) ?_
     refine x_pure rfl (p_move rfl) ?_
     first | refine aops_end ?_ | refine aops_nil ?_
     first
     | exact ⟨(k + 1, out ++ [stayOf l[k] t]), ⟨by omega, by rw [h2, staysRaw, staysRaw, take_flatM _ _ k (by omega), if_pos ⟨(show hisB u l[k] = true from by simp_all [hisB, toList_inj]), by first | omega | exact of_decide_eq_false hc3⟩], by rw [List.length_append]; simp only [List.length_cons, List.length_nil]; omega⟩, by simp only; omega, le_to ⟨rfl, rfl, (by first | rfl | (rw [List.length_append]; rfl)), rfl, rfl, rfl, trivial⟩ (by rw [List.map_append]; rfl)⟩
     | exact ⟨(k + 1, out), ⟨by omega, by rw [h2, staysRaw, staysRaw, take_flatM _ _ k (by omega), if_neg (by first | exact (fun hh => (show ¬ hisB u l[k] = true from by simp_all [hisB, toList_inj]) hh.1) | (rintro ⟨_, hh⟩; exact hh (by first | omega | exact of_decide_eq_true hc3))), List.append_nil], by omega⟩, by simp only; omega, le_to ⟨rfl, rfl, (by first | rfl | (rw [List.length_append]; rfl)), rfl, rfl, rfl, trivial⟩ rfl⟩
    ·
     try simp only [bs, stayOf] at hc3
     refine aw_skip ?_
     refine hK7 _ ?_
     refine aw_region ?_
     first | refine x_pure rfl (p_add rfl rfl (by omega) (by omega)) ?_ | refine x_pure rfl (p_bin rfl rfl rfl) ?_
     refine x_pure rfl (p_move rfl) ?_
     first | refine aops_end ?_ | refine aops_nil ?_
     first
     | exact ⟨(k + 1, out ++ [stayOf l[k] t]), ⟨by omega, by rw [h2, staysRaw, staysRaw, take_flatM _ _ k (by omega), if_pos ⟨(show hisB u l[k] = true from by simp_all [hisB, toList_inj]), by first | omega | exact of_decide_eq_false hc3⟩], by rw [List.length_append]; simp only [List.length_cons, List.length_nil]; omega⟩, by simp only; omega, le_to ⟨rfl, rfl, (by first | rfl | (rw [List.length_append]; rfl)), rfl, rfl, rfl, trivial⟩ (by rw [List.map_append]; rfl)⟩
     | exact ⟨(k + 1, out), ⟨by omega, by rw [h2, staysRaw, staysRaw, take_flatM _ _ k (by omega), if_neg (by first | exact (fun hh => (show ¬ hisB u l[k] = true from by simp_all [hisB, toList_inj]) hh.1) | (rintro ⟨_, hh⟩; exact hh (by first | omega | exact of_decide_eq_true hc3))), List.append_nil], by omega⟩, by simp only; omega, le_to ⟨rfl, rfl, (by first | rfl | (rw [List.length_append]; rfl)), rfl, rfl, rfl, trivial⟩ rfl⟩
   ·
    try simp only [bs, stayOf] at hg2
    refine x_guard_f rfl rfl rfl ?_
    refine x_guard_f rfl rfl rfl ?_
    refine x_guard_f rfl rfl rfl ?_
    refine x_pure rfl (p_pick_f rfl rfl) ?_
    first | refine aops_end ?_ | refine aops_nil ?_
    refine hK10 _ ?_
    refine aw_cond_f rfl ?_
    refine aw_skip ?_
    refine hK7 _ ?_
    refine aw_region ?_
    first | refine x_pure rfl (p_add rfl rfl (by omega) (by omega)) ?_ | refine x_pure rfl (p_bin rfl rfl rfl) ?_
    refine x_pure rfl (p_move rfl) ?_
    first | refine aops_end ?_ | refine aops_nil ?_
    first
    | exact ⟨(k + 1, out ++ [stayOf l[k] t]), ⟨by omega, by rw [h2, staysRaw, staysRaw, take_flatM _ _ k (by omega), if_pos ⟨(show hisB u l[k] = true from by simp_all [hisB, toList_inj]), by first | omega | exact of_decide_eq_false hc3⟩], by rw [List.length_append]; simp only [List.length_cons, List.length_nil]; omega⟩, by simp only; omega, le_to ⟨rfl, rfl, (by first | rfl | (rw [List.length_append]; rfl)), rfl, rfl, rfl, trivial⟩ (by rw [List.map_append]; rfl)⟩
    | exact ⟨(k + 1, out), ⟨by omega, by rw [h2, staysRaw, staysRaw, take_flatM _ _ k (by omega), if_neg (by first | exact (fun hh => (show ¬ hisB u l[k] = true from by simp_all [hisB, toList_inj]) hh.1) | (rintro ⟨_, hh⟩; exact hh (by first | omega | exact of_decide_eq_true hc3))), List.append_nil], by omega⟩, by simp only; omega, le_to ⟨rfl, rfl, (by first | rfl | (rw [List.length_append]; rfl)), rfl, rfl, rfl, trivial⟩ rfl⟩
  ·
   try simp only [bs, stayOf] at hc1
   refine aw_exit ?_
   refine hK3 _ ?_
   refine aw_seq_k (fun K11 hK11 => ?_)
   refine aw_region ?_
   refine x_pure rfl (p_move rfl) ?_
   refine y_callM hf 7 rfl rfl rfl rfl rfl Try.ent50 (st_sortStable_den Try.ent51 cmpS_tri (fun x y => cmpS_den x y) out _ rfl (by omega)) ?_
   rintro r zs ⟨t0, ht1, ht2, rfl⟩
   first | refine aops_end ?_ | refine aops_nil ?_
   refine hK11 _ ?_
   refine aw_seq_k (fun K12 hK12 => ?_)
   refine aw_region ?_
   refine x_pure rfl (p_move rfl) ?_
   refine x_pure rfl (p_assign rfl) ?_
   first | refine aops_end ?_ | refine aops_nil ?_
   refine hK12 _ ?_
   refine aw_ret ?_
   refine ⟨_, rfl, ?_⟩
   refine (conv_whole (g := 7) rfl (by rw [List.length_map, ht1.length_eq])).trans ?_
   rw [staysL, sortS_of ht1 ht2, h2, List.take_of_length_le (by omega)]

set_option maxRecDepth 20000 in
set_option maxHeartbeats 2000000 in
theorem refStays10_den (l : List Se) (u : ByteArray) (t : Int) (hl : l.length * 40 ≤ 140737488351232)  : Den Try.prog 28 [.sl 4 (l.map seC), .s (.string u), .s (.int .i64 t)]  (· = .sl 4 ((staysL l u t).map stC)) := by
 refine den_of_aw Try.func28 rfl (Nat.le_of_ble_eq_true rfl) (fun w0 A hf => ?_)
 refine aw_seq_k (fun K1 hK1 => ?_)
 refine aw_region ?_
 refine x_pure rfl (p_assign_bad) ?_
 first | refine aops_end ?_ | refine aops_nil ?_
 refine hK1 _ ?_
 refine aw_seq_k (fun K2 hK2 => ?_)
 refine aw_region ?_
 refine x_pure rfl (p_nil (k := 4)) ?_
 first | refine aops_end ?_ | refine aops_nil ?_
 refine hK2 _ ?_
 refine aw_seq_k (fun K3 hK3 => ?_)
 refine aw_seq_k (fun K4 hK4 => ?_)
 refine aw_region ?_
 refine x_pure rfl (p_assign rfl) ?_
 first | refine aops_end ?_ | refine aops_nil ?_
 refine hK4 _ ?_
 refine aw_block ?_
 refine aw_loop (ι := Nat × List Stay) (fun (⟨k, out⟩ : Nat × List Stay) => ⟨31, [(0, .sl 4 (l.map seC)), (1, .s (.string u)), (2, .s (.int .i64 t)), (7, .sl 4 (out.map stC)), (8, .s (.int .i64 (k : Nat)))], []⟩) (fun (⟨k, out⟩ : Nat × List Stay) => k ≤ l.length ∧ out = (l.take k).foldl (staysStep u t) [] ∧ out.length ≤ k) (fun (⟨k, out⟩ : Nat × List Stay) => l.length - k) (0, []) ?_ ?_ ?_
 · exact ⟨Nat.zero_le _, rfl, Nat.le_refl _⟩
 · exact le_of ⟨rfl, rfl, rfl, rfl, rfl, trivial⟩
 ·
  rintro ⟨k, out⟩ hC
  obtain ⟨h1, h2, h3⟩ := hC
  refine aw_seq_k (fun K5 hK5 => ?_)
  refine aw_seq_k (fun K6 hK6 => ?_)
  refine aw_region ?_
  refine x_pure rfl (p_move rfl) ?_
  refine x_pure rfl (p_move rfl) ?_
  first | refine x_pure rfl (p_len_sl rfl Try.e22) ?_ | refine x_pure rfl (p_len_own rfl Try.e22) ?_ | refine x_pure rfl (p_len_nil rfl Try.e22) ?_
  refine x_pure rfl (p_bin rfl rfl rfl) ?_
  first | refine aops_end ?_ | refine aops_nil ?_
  refine hK6 _ ?_
  refine aw_cond_s rfl (fun hc1 => ?_) (fun hc1 => ?_)
  ·
   try simp only [bs] at hc1
   refine aw_skip ?_
   refine hK5 _ ?_
   refine aw_seq_k (fun K7 hK7 => ?_)
   refine aw_block ?_
   refine aw_seq_k (fun K8 hK8 => ?_)
   refine aw_region ?_
   refine x_pure rfl (p_move rfl) ?_
   refine x_pure rfl (p_move rfl) ?_
   first | refine x_pure rfl (p_idx_sl rfl rfl Try.e22 Try.c24 (by first | assumption | (refine ⟨by omega, ?_⟩; first | assumption | exact strs_at (by omega) | exact strs_at (by simp only [List.length_cons] at *; omega) | exact ints_at (by omega) | exact map_at (by omega) | exact list_at (by omega)) | exact ⟨by decide, rfl⟩)) ?_ | refine x_pure rfl (p_idx_own rfl rfl Try.e22 Try.c24 (by omega)) ?_
   first | refine x_pure rfl (p_fld_adr rfl Try.fd24_1 Try.c9 rfl) ?_ | refine x_pure rfl (p_fld_ref rfl Try.fd24_1 Try.c9 rfl) ?_
   first | refine x_pure rfl (p_load1 rfl Try.g9 rfl) ?_ | refine x_pure rfl (p_load1r rfl Try.g9 rfl rfl) ?_ | refine x_pure rfl (p_load1r rfl Try.g9 rfl (strs_ref (by simp only [List.length_cons] at *; omega))) ?_ | refine x_pure rfl (p_load1r rfl Try.g9 rfl (strs_ref (by omega))) ?_
   refine x_pure rfl (p_move rfl) ?_
   refine x_pure rfl (p_bin rfl rfl rfl) ?_
   first | refine aops_end ?_ | refine aops_nil ?_
   refine hK8 _ ?_
   refine aw_cond_s rfl (fun hc2 => ?_) (fun hc2 => ?_)
   ·
    try simp only [bs] at hc2
    refine aw_region ?_
    refine x_pure rfl (p_move rfl) ?_
    refine x_pure rfl (p_move rfl) ?_
    refine x_pure rfl (p_move rfl) ?_
    first | refine x_pure rfl (p_idx_sl rfl rfl Try.e22 Try.c24 (by first | assumption | (refine ⟨by omega, ?_⟩; first | assumption | exact strs_at (by omega) | exact strs_at (by simp only [List.length_cons] at *; omega) | exact ints_at (by omega) | exact map_at (by omega) | exact list_at (by omega)) | exact ⟨by decide, rfl⟩)) ?_ | refine x_pure rfl (p_idx_own rfl rfl Try.e22 Try.c24 (by omega)) ?_
    first | refine x_pure rfl (p_loads rfl Try.g24 Try.c24 rfl rfl) ?_ | refine x_pure rfl (p_loadsr rfl Try.g24 Try.c24 rfl rfl rfl) ?_
    refine x_pure rfl (p_move rfl) ?_
    refine x_step hf rfl (r_call rfl rfl Try.ent49 rfl (refStay10_den l[k] t)) ?_
    refine x_step hf rfl (r_call rfl rfl Try.ent52 rfl (refAddS_den out (stayOf l[k] t) (by omega))) ?_
    refine x_pure rfl (p_assign rfl) ?_
    first | refine aops_end ?_ | refine aops_nil ?_
    refine hK7 _ ?_
    refine aw_region ?_
    refine x_pure rfl (p_move rfl) ?_
    first | refine x_pure rfl (p_add rfl rfl (by omega) (by omega)) ?_ | refine x_pure rfl (p_bin rfl rfl rfl) ?_
    refine x_pure rfl (p_assign rfl) ?_
    first | refine aops_end ?_ | refine aops_nil ?_
    first
    | exact ⟨(k + 1, addS out (stayOf l[k] t)), ⟨by omega, by rw [take_foldl l (staysStep u t) [] k (by omega), ← h2, staysStep, if_pos (show hisB u l[k] = true from by simp_all [hisB, toList_inj])], by have := addS_len out (stayOf l[k] t); show (addS out (stayOf l[k] t)).length ≤ k + 1; omega⟩, by simp only; omega, le_of ⟨rfl, rfl, rfl, rfl, rfl, trivial⟩⟩
    | exact ⟨(k + 1, out), ⟨by omega, by rw [take_foldl l (staysStep u t) [] k (by omega), ← h2, staysStep, if_neg (show ¬ hisB u l[k] = true from by simp_all [hisB, toList_inj])], by omega⟩, by simp only; omega, le_of ⟨rfl, rfl, rfl, rfl, rfl, trivial⟩⟩
   ·
    try simp only [bs] at hc2
    refine aw_skip ?_
    refine hK7 _ ?_
    refine aw_region ?_
    refine x_pure rfl (p_move rfl) ?_
    first | refine x_pure rfl (p_add rfl rfl (by omega) (by omega)) ?_ | refine x_pure rfl (p_bin rfl rfl rfl) ?_
    refine x_pure rfl (p_assign rfl) ?_
    first | refine aops_end ?_ | refine aops_nil ?_
    first
    | exact ⟨(k + 1, addS out (stayOf l[k] t)), ⟨by omega, by rw [take_foldl l (staysStep u t) [] k (by omega), ← h2, staysStep, if_pos (show hisB u l[k] = true from by simp_all [hisB, toList_inj])], by have := addS_len out (stayOf l[k] t); show (addS out (stayOf l[k] t)).length ≤ k + 1; omega⟩, by simp only; omega, le_of ⟨rfl, rfl, rfl, rfl, rfl, trivial⟩⟩
    | exact ⟨(k + 1, out), ⟨by omega, by rw [take_foldl l (staysStep u t) [] k (by omega), ← h2, staysStep, if_neg (show ¬ hisB u l[k] = true from by simp_all [hisB, toList_inj])], by omega⟩, by simp only; omega, le_of ⟨rfl, rfl, rfl, rfl, rfl, trivial⟩⟩
  ·
   try simp only [bs] at hc1
   refine aw_exit ?_
   refine hK3 _ ?_
   refine aw_seq_k (fun K9 hK9 => ?_)
   refine aw_region ?_
   refine x_pure rfl (p_move rfl) ?_
   refine x_pure rfl (p_assign rfl) ?_
   first | refine aops_end ?_ | refine aops_nil ?_
   refine hK9 _ ?_
   refine aw_ret ?_
   refine ⟨_, rfl, ?_⟩
   show AV.sl 4 (out.map stC) = _
   rw [h2, List.take_of_length_le (by omega), stays_fold]

set_option maxRecDepth 20000 in
set_option maxHeartbeats 1000000 in
theorem users10_den (l : List Se) (hl : l.length ≤ 100000)  : Den Try.prog 30 [.sl 4 (l.map seC)]  (· = .sl 1 (strs (sortedL (l.map fun e => e.1.2)))) := by
 refine den_of_aw Try.func30 rfl (Nat.le_of_ble_eq_true rfl) (fun w0 A hf => ?_)
 refine aw_seq_k (fun K1 hK1 => ?_)
 refine aw_region ?_
 refine x_pure rfl (p_assign_bad) ?_
 first | refine aops_end ?_ | refine aops_nil ?_
 refine hK1 _ ?_
 refine aw_seq_k (fun K2 hK2 => ?_)
 refine aw_region ?_
 refine x_nil hf 1 rfl rfl rfl ?_
 first | refine aops_end ?_ | refine aops_nil ?_
 refine hK2 _ ?_
 refine aw_seq_k (fun K3 hK3 => ?_)
 refine aw_seq_k (fun K4 hK4 => ?_)
 refine aw_region ?_
 refine x_pure rfl (p_move rfl) ?_
 first | refine x_pure rfl (p_len_sl rfl Try.e26) ?_ | refine x_pure rfl (p_len_own rfl Try.e26) ?_ | refine x_pure rfl (p_len_nil rfl Try.e26) ?_
 refine x_pure rfl (p_move rfl) ?_
 first | refine aops_end ?_ | refine aops_nil ?_
 refine hK4 _ ?_
 refine aw_block ?_
 refine aw_loop (ι := Nat) (fun k => ⟨20, [(3, .own 3 1 0 (l.take k).length), (6, .sl 4 (l.map seC)), (7, .s (.int .i64 ((l.map seC).length : Nat))), (8, .s (.int .i64 (k : Nat)))], [(3, .buf 1 (strs ((l.take k).map fun e => e.1.2)))]⟩) (fun k => k ≤ l.length) (fun k => l.length - k) 0 ?_ ?_ ?_
 · exact Nat.zero_le _
 · exact le_of ⟨rfl, rfl, rfl, rfl, trivial⟩
 ·
  rintro k hC
  refine aw_seq_k (fun K5 hK5 => ?_)
  refine aw_region ?_
  refine x_pure rfl (p_bin rfl rfl rfl) ?_
  first | refine aops_end ?_ | refine aops_nil ?_
  refine hK5 _ ?_
  refine aw_seq_k (fun K6 hK6 => ?_)
  refine aw_cond_s rfl (fun hc1 => ?_) (fun hc1 => ?_)
  ·
   try simp only [bs] at hc1
   refine aw_skip ?_
   refine hK6 _ ?_
   refine aw_seq_k (fun K7 hK7 => ?_)
   refine aw_block ?_
   refine aw_seq_k (fun K8 hK8 => ?_)
   refine aw_region ?_
   first | refine x_pure rfl (p_idx_sl rfl rfl Try.e26 Try.c31 (by first | assumption | (refine ⟨by omega, ?_⟩; first | assumption | exact strs_at (by omega) | exact strs_at (by simp only [List.length_cons] at *; omega) | exact ints_at (by omega) | exact map_at (by omega) | exact list_at (by omega)) | exact ⟨by decide, rfl⟩)) ?_ | refine x_pure rfl (p_idx_own rfl rfl Try.e26 Try.c31 (by omega)) ?_
   first | refine x_pure rfl (p_loads rfl Try.g31 Try.c31 rfl rfl) ?_ | refine x_pure rfl (p_loadsr rfl Try.g31 Try.c31 rfl rfl rfl) ?_
   refine x_allocst hf rfl Try.z31 rfl Try.c31 rfl rfl rfl rfl (by simp [seC, strs, AV.cells, AV.leaf, Value.oneCell', splice, AV.kill, AV.clean, cleanL, AV.only]) ?_
   first | refine aops_end ?_ | refine aops_nil ?_
   refine hK8 _ ?_
   refine aw_region ?_
   have htl : (l.take k).length = k := by rw [List.length_take]; omega
   refine x_pure rfl (p_move rfl) ?_
   first | refine x_pure rfl (p_fld_adr rfl Try.fd31_1 Try.c9 rfl) ?_ | refine x_pure rfl (p_fld_ref rfl Try.fd31_1 Try.c9 rfl) ?_
   first | refine x_pure rfl (p_load1 rfl Try.g9 rfl) ?_ | refine x_pure rfl (p_load1r rfl Try.g9 rfl rfl) ?_ | refine x_pure rfl (p_load1r rfl Try.g9 rfl (strs_ref (by simp only [List.length_cons] at *; omega))) ?_ | refine x_pure rfl (p_load1r rfl Try.g9 rfl (strs_ref (by omega))) ?_
   refine x_step hf rfl (r_buildSlice Try.ap67 rfl rfl rfl rfl (by simp [seC, strs, AV.cells, AV.leaf, Value.oneCell', splice, AV.kill, AV.clean, cleanL, AV.only])) ?_
   refine x_append hf rfl Try.ap67 rfl rfl rfl (.inl rfl) (by simp only [strs, List.length_map]) rfl (by first | rfl | simp [asrc, look]) (by first | (simp only [maxLen, List.length_map, List.length_append, List.length_cons, List.length_nil]; omega) | (simp [maxLen] <;> omega)) (by first | (simp only [List.length_map, List.length_append, List.length_cons, List.length_nil]; omega) | (simp <;> omega)) ?_
   refine aops_le (le_of (sl' := [(6, _), (7, _), (8, _), (16, _)]) ⟨rfl, rfl, rfl, rfl, trivial⟩) ?_
   refine x_pure rfl (p_assign rfl) ?_
   first | refine aops_end ?_ | refine aops_nil ?_
   refine hK7 _ ?_
   refine aw_region ?_
   first | refine x_pure rfl (p_add rfl rfl (by omega) (by omega)) ?_ | refine x_pure rfl (p_bin rfl rfl rfl) ?_
   refine x_pure rfl (p_move rfl) ?_
   first | refine aops_end ?_ | refine aops_nil ?_
   exact ⟨k + 1, by omega, by omega, le_to ⟨(by rw [take_len1 l k (by omega)]; rfl), rfl, rfl, rfl, trivial⟩ (by rw [strs, strs, List.map_map, List.map_map, take_map l _ k (by omega)]; rfl)⟩
  ·
   try simp only [bs] at hc1
   refine aw_exit ?_
   refine hK3 _ ?_
   refine aw_seq_k (fun K9 hK9 => ?_)
   refine aw_region ?_
   have hk0 : l.take k = l := List.take_of_length_le (by omega)
   rw [hk0]
   refine aops_le (le_freeze (sl' := [(3, .sl 1 (strs (l.map fun e => e.1.2)))]) ⟨⟨_, rfl, only_whole (g := 3) rfl (by simp only [strs, List.length_map])⟩, trivial⟩) ?_
   refine x_pure rfl (p_move rfl) ?_
   refine x_step hf rfl (r_call rfl rfl Try.ent53 rfl (Nm.sorted_den (l.map fun e => e.1.2) (by rw [List.length_map]; omega))) ?_
   refine x_pure rfl (p_assign rfl) ?_
   first | refine aops_end ?_ | refine aops_nil ?_
   refine hK9 _ ?_
   refine aw_ret ?_
   refine ⟨_, rfl, ?_⟩
   rfl

set_option maxRecDepth 20000 in
set_option maxHeartbeats 1000000 in
theorem refUsers10_den (l : List Se) (hl : l.length ≤ 100000) (ht : ∀ e ∈ l, TS e.1.2)  : Den Try.prog 31 [.sl 4 (l.map seC)]  (· = .sl 1 (strs (sortedL (l.map fun e => e.1.2)))) := by
 refine den_of_aw Try.func31 rfl (Nat.le_of_ble_eq_true rfl) (fun w0 A hf => ?_)
 refine aw_seq_k (fun K1 hK1 => ?_)
 refine aw_region ?_
 refine x_pure rfl (p_assign_bad) ?_
 first | refine aops_end ?_ | refine aops_nil ?_
 refine hK1 _ ?_
 refine aw_seq_k (fun K2 hK2 => ?_)
 refine aw_region ?_
 refine x_pure rfl (p_nil (k := 1)) ?_
 first | refine aops_end ?_ | refine aops_nil ?_
 refine hK2 _ ?_
 refine aw_seq_k (fun K3 hK3 => ?_)
 refine aw_seq_k (fun K4 hK4 => ?_)
 refine aw_region ?_
 refine x_pure rfl (p_assign rfl) ?_
 first | refine aops_end ?_ | refine aops_nil ?_
 refine hK4 _ ?_
 refine aw_block ?_
 refine aw_loop (ι := Nat × List ByteArray) (fun (⟨k, out⟩ : Nat × List ByteArray) => ⟨19, [(0, .sl 4 (l.map seC)), (3, .sl 1 (strs out)), (4, .s (.int .i64 (k : Nat)))], []⟩) (fun (⟨k, out⟩ : Nat × List ByteArray) => k ≤ l.length ∧ out = sortedL ((l.map fun e => e.1.2).take k) ∧ out.length ≤ k ∧ ∀ x ∈ out, TS x) (fun (⟨k, out⟩ : Nat × List ByteArray) => l.length - k) (0, []) ?_ ?_ ?_
 · exact ⟨Nat.zero_le _, rfl, Nat.le_refl _, by simp⟩
 · exact le_of ⟨rfl, rfl, rfl, trivial⟩
 ·
  rintro ⟨k, out⟩ hC
  obtain ⟨h1, h2, h3, h4⟩ := hC
  refine aw_seq_k (fun K5 hK5 => ?_)
  refine aw_seq_k (fun K6 hK6 => ?_)
  refine aw_region ?_
  refine x_pure rfl (p_move rfl) ?_
  refine x_pure rfl (p_move rfl) ?_
  first | refine x_pure rfl (p_len_sl rfl Try.e22) ?_ | refine x_pure rfl (p_len_own rfl Try.e22) ?_ | refine x_pure rfl (p_len_nil rfl Try.e22) ?_
  refine x_pure rfl (p_bin rfl rfl rfl) ?_
  first | refine aops_end ?_ | refine aops_nil ?_
  refine hK6 _ ?_
  refine aw_cond_s rfl (fun hc1 => ?_) (fun hc1 => ?_)
  ·
   try simp only [bs] at hc1
   refine aw_skip ?_
   refine hK5 _ ?_
   refine aw_seq_k (fun K7 hK7 => ?_)
   refine aw_block ?_
   refine aw_region ?_
   refine x_pure rfl (p_move rfl) ?_
   refine x_pure rfl (p_move rfl) ?_
   refine x_pure rfl (p_move rfl) ?_
   first | refine x_pure rfl (p_idx_sl rfl rfl Try.e22 Try.c24 (by first | assumption | (refine ⟨by omega, ?_⟩; first | assumption | exact strs_at (by omega) | exact strs_at (by simp only [List.length_cons] at *; omega) | exact ints_at (by omega) | exact map_at (by omega) | exact list_at (by omega)) | exact ⟨by decide, rfl⟩)) ?_ | refine x_pure rfl (p_idx_own rfl rfl Try.e22 Try.c24 (by omega)) ?_
   first | refine x_pure rfl (p_fld_adr rfl Try.fd24_1 Try.c9 rfl) ?_ | refine x_pure rfl (p_fld_ref rfl Try.fd24_1 Try.c9 rfl) ?_
   first | refine x_pure rfl (p_load1 rfl Try.g9 rfl) ?_ | refine x_pure rfl (p_load1r rfl Try.g9 rfl rfl) ?_ | refine x_pure rfl (p_load1r rfl Try.g9 rfl (strs_ref (by simp only [List.length_cons] at *; omega))) ?_ | refine x_pure rfl (p_load1r rfl Try.g9 rfl (strs_ref (by omega))) ?_
   refine x_step hf rfl (r_call rfl rfl Try.ent54 rfl (Nm.put_den out l[k].1.2 (by omega) h4 (ht _ (List.getElem_mem _)))) ?_
   refine x_pure rfl (p_assign rfl) ?_
   first | refine aops_end ?_ | refine aops_nil ?_
   refine hK7 _ ?_
   refine aw_region ?_
   refine x_pure rfl (p_move rfl) ?_
   first | refine x_pure rfl (p_add rfl rfl (by omega) (by omega)) ?_ | refine x_pure rfl (p_bin rfl rfl rfl) ?_
   refine x_pure rfl (p_assign rfl) ?_
   first | refine aops_end ?_ | refine aops_nil ?_
   exact ⟨(k + 1, putL out l[k].1.2), (by
    have hk : k < l.length := by omega
    have hk2 : k < (l.map fun e => e.1.2).length := by rw [List.length_map]; exact hk
    refine ⟨hk, by rw [h2, take_sorted _ k hk2, List.getElem_map], by have := putL_len out l[k].1.2; show (putL out l[k].1.2).length ≤ k + 1; omega, fun x hx => ?_⟩
    rcases putRest_mem _ _ _ _ hx with e | e
    · rw [e]; exact ht _ (List.getElem_mem _)
    · exact h4 x e), by simp only; omega, le_of ⟨rfl, rfl, rfl, trivial⟩⟩
  ·
   try simp only [bs] at hc1
   refine aw_exit ?_
   refine hK3 _ ?_
   refine aw_seq_k (fun K8 hK8 => ?_)
   refine aw_region ?_
   refine x_pure rfl (p_move rfl) ?_
   refine x_pure rfl (p_assign rfl) ?_
   first | refine aops_end ?_ | refine aops_nil ?_
   refine hK8 _ ?_
   refine aw_ret ?_
   refine ⟨_, rfl, ?_⟩
   show AV.sl 1 (strs out) = _
   rw [h2, List.take_of_length_le (by rw [List.length_map]; omega)]

set_option maxRecDepth 20000 in
set_option maxHeartbeats 400000 in
theorem refSame2_den (a b : List ByteArray) (ha : a.length ≤ 9223372036854775807) (hb : b.length ≤ 9223372036854775807)  : Den Try.prog 29 [.sl 1 (strs a), .sl 1 (strs b)]  (· = .s (.bool (decide (a = b)))) := by
 have hsa := strs_len a
 have hsb := strs_len b
 refine den_of_aw Try.func29 rfl (Nat.le_of_ble_eq_true rfl) (fun w0 A hf => ?_)
 refine aw_seq_k (fun K1 hK1 => ?_)
 refine aw_region ?_
 refine x_pure rfl (p_assign_bad) ?_
 first | refine aops_end ?_ | refine aops_nil ?_
 refine hK1 _ ?_
 refine aw_seq_k (fun K2 hK2 => ?_)
 refine aw_seq_k (fun K3 hK3 => ?_)
 refine aw_region ?_
 refine x_pure rfl (p_move rfl) ?_
 first | refine x_pure rfl (p_len_sl rfl Try.e67) ?_ | refine x_pure rfl (p_len_own rfl Try.e67) ?_ | refine x_pure rfl (p_len_nil rfl Try.e67) ?_
 refine x_pure rfl (p_move rfl) ?_
 first | refine x_pure rfl (p_len_sl rfl Try.e67) ?_ | refine x_pure rfl (p_len_own rfl Try.e67) ?_ | refine x_pure rfl (p_len_nil rfl Try.e67) ?_
 refine x_pure rfl (p_bin rfl rfl rfl) ?_
 first | refine aops_end ?_ | refine aops_nil ?_
 refine hK3 _ ?_
 refine aw_cond_s rfl (fun hc1 => ?_) (fun hc1 => ?_)
 ·
  try simp only [bs] at hc1
  refine aw_seq_k (fun K4 hK4 => ?_)
  refine aw_region ?_
  refine x_pure rfl (p_assign rfl) ?_
  first | refine aops_end ?_ | refine aops_nil ?_
  refine hK4 _ ?_
  refine aw_ret ?_
  refine ⟨_, rfl, ?_⟩
  refine ret_bool ?_
  rw [eqrow_len (by omega)]
 ·
  try simp only [bs] at hc1
  refine aw_skip ?_
  refine hK2 _ ?_
  refine aw_seq_k (fun K5 hK5 => ?_)
  refine aw_seq_k (fun K6 hK6 => ?_)
  refine aw_region ?_
  refine x_pure rfl (p_assign rfl) ?_
  first | refine aops_end ?_ | refine aops_nil ?_
  refine hK6 _ ?_
  refine aw_block ?_
  refine aw_loop (ι := Nat) (fun k => ⟨26, [(0, .sl 1 (strs a)), (1, .sl 1 (strs b)), (5, .s (.int .i64 (k : Nat)))], []⟩) (fun k => k ≤ a.length ∧ a.take k = b.take k) (fun k => a.length - k) 0 ?_ ?_ ?_
  · exact ⟨Nat.zero_le _, rfl⟩
  · exact le_of ⟨rfl, rfl, rfl, trivial⟩
  ·
   rintro k hC
   obtain ⟨h1, h2⟩ := hC
   refine aw_seq_k (fun K7 hK7 => ?_)
   refine aw_seq_k (fun K8 hK8 => ?_)
   refine aw_region ?_
   refine x_pure rfl (p_move rfl) ?_
   refine x_pure rfl (p_move rfl) ?_
   first | refine x_pure rfl (p_len_sl rfl Try.e67) ?_ | refine x_pure rfl (p_len_own rfl Try.e67) ?_ | refine x_pure rfl (p_len_nil rfl Try.e67) ?_
   refine x_pure rfl (p_bin rfl rfl rfl) ?_
   first | refine aops_end ?_ | refine aops_nil ?_
   refine hK8 _ ?_
   refine aw_cond_s rfl (fun hc2 => ?_) (fun hc2 => ?_)
   ·
    try simp only [bs] at hc2
    refine aw_skip ?_
    refine hK7 _ ?_
    refine aw_seq_k (fun K9 hK9 => ?_)
    refine aw_block ?_
    refine aw_seq_k (fun K10 hK10 => ?_)
    refine aw_draw hf Try.mixed (by kernel_rfl) rfl ?_
    refine d_pure [(0, _)] rfl rfl ⟨⟨rfl, rfl⟩, trivial⟩ rfl (p_move rfl) ?_
    refine d_pure [(5, _)] rfl rfl ⟨⟨rfl, rfl⟩, trivial⟩ rfl (p_move rfl) ?_
    first | refine d_pure [(17, _), (18, _)] rfl rfl ⟨⟨rfl, rfl⟩, ⟨rfl, rfl⟩, trivial⟩ rfl (p_idx_sl rfl rfl Try.e67 Try.c9 (by first | assumption | (refine ⟨by omega, ?_⟩; first | assumption | exact strs_at (by omega) | exact strs_at (by simp only [List.length_cons] at *; omega) | exact ints_at (by omega) | exact map_at (by omega) | exact list_at (by omega)) | exact ⟨by decide, rfl⟩)) ?_ | refine d_pure [(17, _), (18, _)] rfl rfl ⟨⟨rfl, rfl⟩, ⟨rfl, rfl⟩, trivial⟩ rfl (p_idx_own rfl rfl Try.e67 Try.c9 (by omega)) ?_
    first | refine d_pure [(19, _)] rfl rfl ⟨⟨rfl, rfl⟩, trivial⟩ rfl (p_load1 rfl Try.g9 rfl) ?_ | refine d_pure [(19, _)] rfl rfl ⟨⟨rfl, rfl⟩, trivial⟩ rfl (p_load1r rfl Try.g9 rfl rfl) ?_ | refine d_pure [(19, _)] rfl rfl ⟨⟨rfl, rfl⟩, trivial⟩ rfl (p_load1r rfl Try.g9 rfl (strs_ref (by simp only [List.length_cons] at *; omega))) ?_ | refine d_pure [(19, _)] rfl rfl ⟨⟨rfl, rfl⟩, trivial⟩ rfl (p_load1r rfl Try.g9 rfl (strs_ref (by omega))) ?_
    refine d_pure [(1, _)] rfl rfl ⟨⟨rfl, rfl⟩, trivial⟩ rfl (p_move rfl) ?_
    refine d_pure [(5, _)] rfl rfl ⟨⟨rfl, rfl⟩, trivial⟩ rfl (p_move rfl) ?_
    first | refine d_pure [(21, _), (22, _)] rfl rfl ⟨⟨rfl, rfl⟩, ⟨rfl, rfl⟩, trivial⟩ rfl (p_idx_sl rfl rfl Try.e67 Try.c9 (by first | assumption | (refine ⟨by omega, ?_⟩; first | assumption | exact strs_at (by omega) | exact strs_at (by simp only [List.length_cons] at *; omega) | exact ints_at (by omega) | exact map_at (by omega) | exact list_at (by omega)) | exact ⟨by decide, rfl⟩)) ?_ | refine d_pure [(21, _), (22, _)] rfl rfl ⟨⟨rfl, rfl⟩, ⟨rfl, rfl⟩, trivial⟩ rfl (p_idx_own rfl rfl Try.e67 Try.c9 (by omega)) ?_
    first | refine d_pure [(23, _)] rfl rfl ⟨⟨rfl, rfl⟩, trivial⟩ rfl (p_load1 rfl Try.g9 rfl) ?_ | refine d_pure [(23, _)] rfl rfl ⟨⟨rfl, rfl⟩, trivial⟩ rfl (p_load1r rfl Try.g9 rfl rfl) ?_ | refine d_pure [(23, _)] rfl rfl ⟨⟨rfl, rfl⟩, trivial⟩ rfl (p_load1r rfl Try.g9 rfl (strs_ref (by simp only [List.length_cons] at *; omega))) ?_ | refine d_pure [(23, _)] rfl rfl ⟨⟨rfl, rfl⟩, trivial⟩ rfl (p_load1r rfl Try.g9 rfl (strs_ref (by omega))) ?_
    refine d_pure [(20, _), (24, _)] rfl rfl ⟨⟨rfl, rfl⟩, ⟨rfl, rfl⟩, trivial⟩ rfl (p_bin rfl rfl rfl) ?_
    refine lex_end (sl' := [(0, _), (1, _), (5, _), (25, _)]) rfl ⟨rfl, rfl, rfl, rfl, trivial⟩ rfl ?_
    refine hK10 _ ?_
    refine aw_cond_s rfl (fun hc3 => ?_) (fun hc3 => ?_)
    ·
     try simp only [bs] at hc3
     refine aw_seq_k (fun K11 hK11 => ?_)
     refine aw_region ?_
     refine x_pure rfl (p_assign rfl) ?_
     first | refine aops_end ?_ | refine aops_nil ?_
     refine hK11 _ ?_
     refine aw_ret ?_
     refine ⟨_, rfl, ?_⟩
     refine ret_bool ?_
     rw [eqrow_diff (k := k) (by omega) (by omega) (by first | assumption | simp_all [toList_inj])]
    ·
     try simp only [bs] at hc3
     refine aw_skip ?_
     refine hK9 _ ?_
     refine aw_region ?_
     refine x_pure rfl (p_move rfl) ?_
     first | refine x_pure rfl (p_add rfl rfl (by omega) (by omega)) ?_ | refine x_pure rfl (p_bin rfl rfl rfl) ?_
     refine x_pure rfl (p_assign rfl) ?_
     first | refine aops_end ?_ | refine aops_nil ?_
     exact ⟨k+1, ⟨by omega, eqrow_next (by omega) (by omega) h2 (by first | assumption | simp_all [toList_inj])⟩, by omega, le_of ⟨rfl, rfl, rfl, trivial⟩⟩
   ·
    try simp only [bs] at hc2
    refine aw_exit ?_
    refine hK5 _ ?_
    refine aw_seq_k (fun K12 hK12 => ?_)
    refine aw_region ?_
    refine x_pure rfl (p_assign rfl) ?_
    first | refine aops_end ?_ | refine aops_nil ?_
    refine hK12 _ ?_
    refine aw_ret ?_
    refine ⟨_, rfl, ?_⟩
    refine ret_bool ?_
    rw [eqrow_end (by omega) (by omega) h2]
end Go.Proofs.Ytcjchfocohagdaa
