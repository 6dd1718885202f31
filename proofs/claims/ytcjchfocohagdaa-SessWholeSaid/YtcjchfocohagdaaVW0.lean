import Derived.Test.YtcjchfocohagdaaF
import Derived.Test.YtcjchfocohagdaaV1
import Derived.Test.YtcjchfocohagdaaH1
import Derived.Test.YtcjchfocohagdaaS2
set_option linter.unusedVariables false
set_option linter.unusedSimpArgs false
namespace Go.Proofs.Ytcjchfocohagdaa
open Go Go.Abs

set_option maxRecDepth 20000 in
set_option maxHeartbeats 2000000 in
theorem st_swap_den (g : Nat) (a1 u b1 v c1 : List Stay) (N : Nat) (za zb zn : Int) (hN : N = a1.length + u.length + b1.length + v.length + c1.length) (huv : v.length = u.length) (hza : za = (a1.length : Nat)) (hzb : zb = ((a1.length + u.length + b1.length : Nat) : Int)) (hzn : zn = (u.length : Nat)) (hM : N < 4611686018427387904)  : DenM Try.prog 107 [.own E0 4 0 N, .s (.int .i64 za), .s (.int .i64 zb), .s (.int .i64 zn), .fn g []] 4 ((List.map stC (a1 ++ (u ++ (b1 ++ (v ++ c1)))))) (fun r ys => ys = (List.map stC (a1 ++ (v ++ (b1 ++ (u ++ c1)))))) := by
 subst hza
 subst hzb
 subst hzn
 refine denm_of_aw Try.func107 rfl (Nat.le_of_ble_eq_true rfl) (fun w0 x0 A hf => ?_)
 refine aw_seq_k (fun K1 hK1 => ?_)
 refine aw_region ?_
 refine x_pure rfl (p_assign rfl) ?_
 first | refine aops_end ?_ | refine aops_nil ?_
 refine hK1 _ ?_
 refine aw_block ?_
 refine aw_loop (ι := Nat) (fun i => ⟨38, [(0, .own E0 4 0 N), (1, .s (.int .i64 (a1.length : Nat))), (2, .s (.int .i64 ((a1.length + u.length + b1.length : Nat) : Int))), (3, .s (.int .i64 (u.length : Nat))), (10, .s (.int .i64 (i : Nat)))], [(E0, .buf 4 (List.map stC (swr a1 u b1 v c1 i)))]⟩) (fun i => i ≤ u.length) (fun i => u.length - i) 0 ?_ ?_ ?_
 · exact Nat.zero_le _
 · exact le_to ⟨rfl, rfl, rfl, rfl, rfl, trivial⟩ (by simp [swr])
 ·
  rintro i hC
  have hsl := swr_len (A := a1) (B := b1) (C := c1) (i := i) huv
  refine aw_seq_k (fun K2 hK2 => ?_)
  refine aw_seq_k (fun K3 hK3 => ?_)
  refine aw_region ?_
  refine x_pure rfl (p_move rfl) ?_
  refine x_pure rfl (p_move rfl) ?_
  refine x_pure rfl (p_bin rfl rfl rfl) ?_
  first | refine aops_end ?_ | refine aops_nil ?_
  refine hK3 _ ?_
  refine aw_cond_s rfl (fun hc1 => ?_) (fun hc1 => ?_)
  ·
   try simp only [bs] at hc1
   refine aw_skip ?_
   refine hK2 _ ?_
   refine aw_seq_k (fun K4 hK4 => ?_)
   refine aw_block ?_
   refine aw_region_any Try.mixed ?_
   refine af_step (listed' := #[true, false, false, false, false, false, false, false, false, false, false, false, false, false, false, false, false, false, false, false, false, false, false, false]) 0 rfl (by kernel_rfl) (by kernel_rfl) (by kernel_rfl) rfl (fun _ _ h => h) (w_move rfl) ?_
   refine af_step (listed' := #[true, true, false, false, false, false, false, false, false, false, false, false, false, false, false, false, false, false, false, false, false, false, false, false]) 1 rfl (by kernel_rfl) (by kernel_rfl) (by kernel_rfl) rfl (fun _ _ h => h) (w_move rfl) ?_
   refine af_step (listed' := #[true, true, true, false, false, false, false, false, false, false, false, false, false, false, false, false, false, false, false, false, false, false, false, false]) 2 rfl (by kernel_rfl) (by kernel_rfl) (by kernel_rfl) rfl (fun _ _ h => h) (w_move rfl) ?_
   first | refine af_step (listed' := #[true, true, true, true, false, false, false, false, false, false, false, false, false, false, false, false, false, false, false, false, false, false, false, false]) 3 rfl (by kernel_rfl) (by kernel_rfl) (by kernel_rfl) rfl (fun _ _ h => h) (w_add rfl rfl (by omega) (by omega)) ?_ | refine af_step (listed' := #[true, true, true, true, false, false, false, false, false, false, false, false, false, false, false, false, false, false, false, false, false, false, false, false]) 3 rfl (by kernel_rfl) (by kernel_rfl) (by kernel_rfl) rfl (fun _ _ h => h) (w_bin rfl rfl rfl) ?_
   refine af_step (listed' := #[true, true, true, true, true, false, false, false, false, false, false, false, false, false, false, false, false, false, false, false, false, false, false, false]) 4 rfl (by kernel_rfl) (by kernel_rfl) (by kernel_rfl) rfl (fun _ _ h => h) (w_move rfl) ?_
   refine af_step (listed' := #[true, true, true, true, true, true, false, false, false, false, false, false, false, false, false, false, false, false, false, false, false, false, false, false]) 5 rfl (by kernel_rfl) (by kernel_rfl) (by kernel_rfl) rfl (fun _ _ h => h) (w_move rfl) ?_
   refine af_step (listed' := #[true, true, true, true, true, true, true, false, false, false, false, false, false, false, false, false, false, false, false, false, false, false, false, false]) 6 rfl (by kernel_rfl) (by kernel_rfl) (by kernel_rfl) rfl (fun _ _ h => h) (w_move rfl) ?_
   first | refine af_step (listed' := #[true, true, true, true, true, true, true, true, false, false, false, false, false, false, false, false, false, false, false, false, false, false, false, false]) 7 rfl (by kernel_rfl) (by kernel_rfl) (by kernel_rfl) rfl (fun _ _ h => h) (w_add rfl rfl (by omega) (by omega)) ?_ | refine af_step (listed' := #[true, true, true, true, true, true, true, true, false, false, false, false, false, false, false, false, false, false, false, false, false, false, false, false]) 7 rfl (by kernel_rfl) (by kernel_rfl) (by kernel_rfl) rfl (fun _ _ h => h) (w_bin rfl rfl rfl) ?_
   refine af_step (listed' := #[true, true, true, true, true, true, true, true, true, false, false, false, false, false, false, false, false, false, false, false, false, false, false, false]) 8 rfl (by kernel_rfl) (by kernel_rfl) (by kernel_rfl) rfl (fun _ _ h => h) (w_move rfl) ?_
   refine af_step (listed' := #[true, true, true, true, true, true, true, true, true, true, false, false, false, false, false, false, false, false, false, false, false, false, false, false]) 9 rfl (by kernel_rfl) (by kernel_rfl) (by kernel_rfl) rfl (fun _ _ h => h) (w_move rfl) ?_
   refine af_step (listed' := #[true, true, true, true, true, true, true, true, true, true, true, false, false, false, false, false, false, false, false, false, false, false, false, false]) 10 rfl (by kernel_rfl) (by kernel_rfl) (by kernel_rfl) rfl (fun _ _ h => h) (w_move rfl) ?_
   first | refine af_step (listed' := #[true, true, true, true, true, true, true, true, true, true, true, true, false, false, false, false, false, false, false, false, false, false, false, false]) 11 rfl (by kernel_rfl) (by kernel_rfl) (by kernel_rfl) rfl (fun _ _ h => h) (w_add rfl rfl (by omega) (by omega)) ?_ | refine af_step (listed' := #[true, true, true, true, true, true, true, true, true, true, true, true, false, false, false, false, false, false, false, false, false, false, false, false]) 11 rfl (by kernel_rfl) (by kernel_rfl) (by kernel_rfl) rfl (fun _ _ h => h) (w_bin rfl rfl rfl) ?_
   first | refine af_step (listed' := #[true, true, true, true, true, true, true, true, true, true, true, true, true, false, false, false, false, false, false, false, false, false, false, false]) 12 rfl (by kernel_rfl) (by kernel_rfl) (by kernel_rfl) rfl (fun _ _ h => h) (w_idx_sl rfl rfl Try.e63 Try.c44 (by first | assumption | (refine ⟨by omega, ?_⟩; first | assumption | exact strs_at (by omega) | exact strs_at (by simp only [List.length_cons] at *; omega) | exact ints_at (by omega) | exact map_at (by omega) | exact list_at (by omega)) | exact ⟨by decide, rfl⟩)) ?_ | refine af_step (listed' := #[true, true, true, true, true, true, true, true, true, true, true, true, true, false, false, false, false, false, false, false, false, false, false, false]) 12 rfl (by kernel_rfl) (by kernel_rfl) (by kernel_rfl) rfl (fun _ _ h => h) (w_idx_own rfl rfl Try.e63 Try.c44 (by omega)) ?_
   refine af_step (listed' := #[true, true, true, true, true, true, true, true, true, true, true, true, true, false, true, false, false, false, false, false, false, false, false, false]) 14 rfl (by kernel_rfl) (by kernel_rfl) (by kernel_rfl) rfl (fun _ _ h => h) (w_move rfl) ?_
   refine af_step (listed' := #[true, true, true, true, true, true, true, true, true, true, true, true, true, false, true, true, false, false, false, false, false, false, false, false]) 15 rfl (by kernel_rfl) (by kernel_rfl) (by kernel_rfl) rfl (fun _ _ h => h) (w_move rfl) ?_
   refine af_step (listed' := #[true, true, true, true, true, true, true, true, true, true, true, true, true, false, true, true, true, false, false, false, false, false, false, false]) 16 rfl (by kernel_rfl) (by kernel_rfl) (by kernel_rfl) rfl (fun _ _ h => h) (w_move rfl) ?_
   first | refine af_step (listed' := #[true, true, true, true, true, true, true, true, true, true, true, true, true, false, true, true, true, true, false, false, false, false, false, false]) 17 rfl (by kernel_rfl) (by kernel_rfl) (by kernel_rfl) rfl (fun _ _ h => h) (w_add rfl rfl (by omega) (by omega)) ?_ | refine af_step (listed' := #[true, true, true, true, true, true, true, true, true, true, true, true, true, false, true, true, true, true, false, false, false, false, false, false]) 17 rfl (by kernel_rfl) (by kernel_rfl) (by kernel_rfl) rfl (fun _ _ h => h) (w_bin rfl rfl rfl) ?_
   first | refine af_step (listed' := #[true, true, true, true, true, true, true, true, true, true, true, true, true, false, true, true, true, true, true, false, false, false, false, false]) 18 rfl (by kernel_rfl) (by kernel_rfl) (by kernel_rfl) rfl (fun _ _ h => h) (w_idx_sl rfl rfl Try.e63 Try.c44 (by first | assumption | (refine ⟨by omega, ?_⟩; first | assumption | exact strs_at (by omega) | exact strs_at (by simp only [List.length_cons] at *; omega) | exact ints_at (by omega) | exact map_at (by omega) | exact list_at (by omega)) | exact ⟨by decide, rfl⟩)) ?_ | refine af_step (listed' := #[true, true, true, true, true, true, true, true, true, true, true, true, true, false, true, true, true, true, true, false, false, false, false, false]) 18 rfl (by kernel_rfl) (by kernel_rfl) (by kernel_rfl) rfl (fun _ _ h => h) (w_idx_own rfl rfl Try.e63 Try.c44 (by omega)) ?_
   refine aany_le (le_of (sl' := [(0, _), (1, _), (2, _), (3, _), (10, _), (16, _), (19, _), (20, _), (23, _), (28, _), (34, _)]) ⟨rfl, rfl, rfl, rfl, rfl, rfl, rfl, rfl, rfl, rfl, rfl, trivial⟩) ?_
   refine aany_step 13 [19] (by kernel_rfl) ⟨?_, ?_, trivial⟩
   ·
    refine ⟨_, rfl, rfl, ?_⟩
    refine aop_of_aops (ops := #[]) rfl ?_
    refine x_pure rfl (p_loadsr rfl Try.g44 Try.c44 rfl (own_bleQ (k := 4) (enc := stC) (z := a1.length + u.length + b1.length + i) (by omega) (swr_at2 huv (by omega)) rfl) (own_takeQ (k := 4) (enc := stC) (z := a1.length + u.length + b1.length + i) (by omega) (swr_at2 huv (by omega)) rfl)) ?_
    refine aops_any ?_
    refine aany_step 19 [] (by kernel_rfl) ⟨?_, trivial⟩
    ·
     refine ⟨_, rfl, rfl, ?_⟩
     refine aop_of_aops (ops := #[]) rfl ?_
     refine x_pure rfl (p_loadsr rfl Try.g44 Try.c44 rfl (own_bleQ (k := 4) (enc := stC) (z := a1.length + i) (by omega) (swr_at1 huv (by omega)) rfl) (own_takeQ (k := 4) (enc := stC) (z := a1.length + i) (by omega) (swr_at1 huv (by omega)) rfl)) ?_
     refine aops_any ?_
     refine aany_step 20 [] (by kernel_rfl) ⟨?_, trivial⟩
     ·
      refine ⟨_, rfl, rfl, ?_⟩
      refine aop_of_aops (ops := #[]) rfl ?_
      first | refine x_pure rfl (p_idx_sl rfl rfl Try.e63 Try.c44 (by first | assumption | (refine ⟨by omega, ?_⟩; first | assumption | exact strs_at (by omega) | exact strs_at (by simp only [List.length_cons] at *; omega) | exact ints_at (by omega) | exact map_at (by omega) | exact list_at (by omega)) | exact ⟨by decide, rfl⟩)) ?_ | refine x_pure rfl (p_idx_own rfl rfl Try.e63 Try.c44 (by omega)) ?_
      refine aops_any ?_
      refine aany_step 21 [] (by kernel_rfl) ⟨?_, trivial⟩
      ·
       refine ⟨_, rfl, rfl, ?_⟩
       refine aop_of_aops (ops := #[]) rfl ?_
       refine x_store hf rfl rfl Try.c44 rfl rfl (by simp [stC, AV.cells, AV.one, Value.oneCell']) (by simp [stC, AV.cells, AV.leaf, Value.oneCell']) (own_storeQ (k := 4) (enc := stC) (z := a1.length + i) (v := v[i]) (by omega) (by rw [hsl]; omega) rfl rfl rfl) ?_
       refine aops_any ?_
       refine aany_step 22 [] (by kernel_rfl) ⟨?_, trivial⟩
       ·
        refine ⟨_, rfl, rfl, ?_⟩
        refine aop_of_aops (ops := #[]) rfl ?_
        first | refine x_pure rfl (p_idx_sl rfl rfl Try.e63 Try.c44 (by first | assumption | (refine ⟨by omega, ?_⟩; first | assumption | exact strs_at (by omega) | exact strs_at (by simp only [List.length_cons] at *; omega) | exact ints_at (by omega) | exact map_at (by omega) | exact list_at (by omega)) | exact ⟨by decide, rfl⟩)) ?_ | refine x_pure rfl (p_idx_own rfl rfl Try.e63 Try.c44 (by omega)) ?_
        refine aops_any ?_
        refine aany_step 23 [] (by kernel_rfl) ⟨?_, trivial⟩
        ·
         refine ⟨_, rfl, rfl, ?_⟩
         refine aop_of_aops (ops := #[]) rfl ?_
         refine x_store hf rfl rfl Try.c44 rfl rfl (by simp [stC, AV.cells, AV.one, Value.oneCell']) (by simp [stC, AV.cells, AV.leaf, Value.oneCell']) (own_storeQ (k := 4) (enc := stC) (z := a1.length + u.length + b1.length + i) (v := u[i]) (by omega) (by rw [List.length_set, hsl]; omega) rfl rfl rfl) ?_
         refine aops_any ?_
         refine aany_end (by kernel_rfl) ?_
         refine hK4 _ ?_
         refine aw_region ?_
         refine x_pure rfl (p_move rfl) ?_
         first | refine x_pure rfl (p_add rfl rfl (by omega) (by omega)) ?_ | refine x_pure rfl (p_bin rfl rfl rfl) ?_
         refine x_pure rfl (p_assign rfl) ?_
         first | refine aops_end ?_ | refine aops_nil ?_
         exact ⟨i + 1, by omega, by omega, le_to ⟨rfl, rfl, rfl, rfl, rfl, trivial⟩ (by rw [← swr_step huv (by omega)]; rfl)⟩
   ·
    refine ⟨_, rfl, rfl, ?_⟩
    refine aop_of_aops (ops := #[]) rfl ?_
    refine x_pure rfl (p_loadsr rfl Try.g44 Try.c44 rfl (own_bleQ (k := 4) (enc := stC) (z := a1.length + i) (by omega) (swr_at1 huv (by omega)) rfl) (own_takeQ (k := 4) (enc := stC) (z := a1.length + i) (by omega) (swr_at1 huv (by omega)) rfl)) ?_
    refine aops_any ?_
    refine aany_step 13 [] (by kernel_rfl) ⟨?_, trivial⟩
    ·
     refine ⟨_, rfl, rfl, ?_⟩
     refine aop_of_aops (ops := #[]) rfl ?_
     refine x_pure rfl (p_loadsr rfl Try.g44 Try.c44 rfl (own_bleQ (k := 4) (enc := stC) (z := a1.length + u.length + b1.length + i) (by omega) (swr_at2 huv (by omega)) rfl) (own_takeQ (k := 4) (enc := stC) (z := a1.length + u.length + b1.length + i) (by omega) (swr_at2 huv (by omega)) rfl)) ?_
     refine aops_any ?_
     refine aany_step 20 [] (by kernel_rfl) ⟨?_, trivial⟩
     ·
      refine ⟨_, rfl, rfl, ?_⟩
      refine aop_of_aops (ops := #[]) rfl ?_
      first | refine x_pure rfl (p_idx_sl rfl rfl Try.e63 Try.c44 (by first | assumption | (refine ⟨by omega, ?_⟩; first | assumption | exact strs_at (by omega) | exact strs_at (by simp only [List.length_cons] at *; omega) | exact ints_at (by omega) | exact map_at (by omega) | exact list_at (by omega)) | exact ⟨by decide, rfl⟩)) ?_ | refine x_pure rfl (p_idx_own rfl rfl Try.e63 Try.c44 (by omega)) ?_
      refine aops_any ?_
      refine aany_step 21 [] (by kernel_rfl) ⟨?_, trivial⟩
      ·
       refine ⟨_, rfl, rfl, ?_⟩
       refine aop_of_aops (ops := #[]) rfl ?_
       refine x_store hf rfl rfl Try.c44 rfl rfl (by simp [stC, AV.cells, AV.one, Value.oneCell']) (by simp [stC, AV.cells, AV.leaf, Value.oneCell']) (own_storeQ (k := 4) (enc := stC) (z := a1.length + i) (v := v[i]) (by omega) (by rw [hsl]; omega) rfl rfl rfl) ?_
       refine aops_any ?_
       refine aany_step 22 [] (by kernel_rfl) ⟨?_, trivial⟩
       ·
        refine ⟨_, rfl, rfl, ?_⟩
        refine aop_of_aops (ops := #[]) rfl ?_
        first | refine x_pure rfl (p_idx_sl rfl rfl Try.e63 Try.c44 (by first | assumption | (refine ⟨by omega, ?_⟩; first | assumption | exact strs_at (by omega) | exact strs_at (by simp only [List.length_cons] at *; omega) | exact ints_at (by omega) | exact map_at (by omega) | exact list_at (by omega)) | exact ⟨by decide, rfl⟩)) ?_ | refine x_pure rfl (p_idx_own rfl rfl Try.e63 Try.c44 (by omega)) ?_
        refine aops_any ?_
        refine aany_step 23 [] (by kernel_rfl) ⟨?_, trivial⟩
        ·
         refine ⟨_, rfl, rfl, ?_⟩
         refine aop_of_aops (ops := #[]) rfl ?_
         refine x_store hf rfl rfl Try.c44 rfl rfl (by simp [stC, AV.cells, AV.one, Value.oneCell']) (by simp [stC, AV.cells, AV.leaf, Value.oneCell']) (own_storeQ (k := 4) (enc := stC) (z := a1.length + u.length + b1.length + i) (v := u[i]) (by omega) (by rw [List.length_set, hsl]; omega) rfl rfl rfl) ?_
         refine aops_any ?_
         refine aany_end (by kernel_rfl) ?_
         refine hK4 _ ?_
         refine aw_region ?_
         refine x_pure rfl (p_move rfl) ?_
         first | refine x_pure rfl (p_add rfl rfl (by omega) (by omega)) ?_ | refine x_pure rfl (p_bin rfl rfl rfl) ?_
         refine x_pure rfl (p_assign rfl) ?_
         first | refine aops_end ?_ | refine aops_nil ?_
         exact ⟨i + 1, by omega, by omega, le_to ⟨rfl, rfl, rfl, rfl, rfl, trivial⟩ (by rw [← swr_step huv (by omega)]; rfl)⟩
  ·
   try simp only [bs] at hc1
   refine aw_exit ?_
   refine ⟨_, _, _, Le.refl _, rfl, rfl, ?_⟩
   have hi : i = u.length := by omega
   rw [hi, swr, ← huv, List.take_length, List.drop_length, huv, List.take_length, List.drop_length, List.append_nil, List.append_nil]

set_option maxRecDepth 20000 in
set_option maxHeartbeats 2000000 in
theorem st_rot_den (g : Nat) (p s1 s2 q : List Stay) (N : Nat) (za zm zb : Int) (hN : N = p.length + s1.length + s2.length + q.length) (hza : za = (p.length : Nat)) (hzm : zm = ((p.length + s1.length : Nat) : Int)) (hzb : zb = ((p.length + s1.length + s2.length : Nat) : Int)) (h01 : 0 < s1.length) (h02 : 0 < s2.length) (hM : N < 4611686018427387904)  : DenM Try.prog 92 [.own E0 4 0 N, .s (.int .i64 za), .s (.int .i64 zm), .s (.int .i64 zb), .fn g []] 4 ((List.map stC (p ++ (s1 ++ (s2 ++ q))))) (fun r ys => ys = (List.map stC (p ++ (s2 ++ (s1 ++ q))))) := by
 subst hza
 subst hzm
 subst hzb
 refine denm_of_aw Try.func92 rfl (Nat.le_of_ble_eq_true rfl) (fun w0 x0 A hf => ?_)
 refine aw_seq_k (fun K1 hK1 => ?_)
 refine aw_region ?_
 refine x_pure rfl (p_move rfl) ?_
 refine x_pure rfl (p_move rfl) ?_
 first | refine x_pure rfl (p_sub rfl rfl (by omega) (by omega)) ?_ | refine x_pure rfl (p_bin rfl rfl rfl) ?_
 refine x_pure rfl (p_assign rfl) ?_
 first | refine aops_end ?_ | refine aops_nil ?_
 refine hK1 _ ?_
 refine aw_seq_k (fun K2 hK2 => ?_)
 refine aw_region ?_
 refine x_pure rfl (p_move rfl) ?_
 refine x_pure rfl (p_move rfl) ?_
 first | refine x_pure rfl (p_sub rfl rfl (by omega) (by omega)) ?_ | refine x_pure rfl (p_bin rfl rfl rfl) ?_
 refine x_pure rfl (p_assign rfl) ?_
 first | refine aops_end ?_ | refine aops_nil ?_
 refine hK2 _ ?_
 refine aw_seq_k (fun K3 hK3 => ?_)
 refine aw_block ?_
 refine aw_loop (ι := (List Stay × List Stay) × (List Stay × List Stay)) (fun (⟨⟨L, u⟩, ⟨v, R⟩⟩ : (List Stay × List Stay) × (List Stay × List Stay)) => ⟨58, [(0, .own E0 4 0 N), (2, .s (.int .i64 ((p.length + s1.length : Nat) : Int))), (4, .fn g []), (10, .s (.int .i64 (u.length : Nat))), (11, .s (.int .i64 (v.length : Nat)))], [(E0, .buf 4 (List.map stC (L ++ (u ++ (v ++ R)))))]⟩) (fun (⟨⟨L, u⟩, ⟨v, R⟩⟩ : (List Stay × List Stay) × (List Stay × List Stay)) => L.length + u.length = p.length + s1.length ∧ 0 < u.length ∧ 0 < v.length ∧ L ++ (v ++ (u ++ R)) = p ++ (s2 ++ (s1 ++ q))) (fun (⟨⟨L, u⟩, ⟨v, R⟩⟩ : (List Stay × List Stay) × (List Stay × List Stay)) => u.length + v.length) ((p, s1), (s2, q)) ?_ ?_ ?_
 · exact ⟨rfl, h01, h02, rfl⟩
 · exact le_to ⟨rfl, rfl, rfl, slot_int (by omega), slot_int (by omega), trivial⟩ rfl
 ·
  rintro ⟨⟨L, u⟩, ⟨v, R⟩⟩ hC
  obtain ⟨hl, hu, hv, ht⟩ := hC
  have htl := congrArg List.length ht
  simp only [List.length_append] at htl
  have hf1 := List.length_take (i := v.length) (l := u)
  have hf2 := List.length_drop (i := v.length) (l := u)
  have hf3 := List.length_take (i := v.length - u.length) (l := v)
  have hf4 := List.length_drop (i := v.length - u.length) (l := v)
  refine aw_seq_k (fun K4 hK4 => ?_)
  refine aw_seq_k (fun K5 hK5 => ?_)
  refine aw_region ?_
  refine x_pure rfl (p_move rfl) ?_
  refine x_pure rfl (p_move rfl) ?_
  refine x_pure rfl (p_bin rfl rfl rfl) ?_
  first | refine aops_end ?_ | refine aops_nil ?_
  refine hK5 _ ?_
  refine aw_cond_s rfl (fun hc1 => ?_) (fun hc1 => ?_)
  ·
   try simp only [bs] at hc1
   refine aw_skip ?_
   refine hK4 _ ?_
   refine aw_block ?_
   refine aw_seq_k (fun K6 hK6 => ?_)
   refine aw_region ?_
   refine x_pure rfl (p_move rfl) ?_
   refine x_pure rfl (p_move rfl) ?_
   refine x_pure rfl (p_bin rfl rfl rfl) ?_
   first | refine aops_end ?_ | refine aops_nil ?_
   refine hK6 _ ?_
   refine aw_cond_s rfl (fun hc2 => ?_) (fun hc2 => ?_)
   ·
    try simp only [bs] at hc2
    refine aw_seq_k (fun K7 hK7 => ?_)
    refine aw_region ?_
    rw [show L ++ (u ++ (v ++ R)) = L ++ (u.take v.length ++ (u.drop v.length ++ (v ++ R))) from by rw [← List.append_assoc (u.take v.length), List.take_append_drop]]
    refine x_pure rfl (p_move rfl) ?_
    refine x_pure rfl (p_move rfl) ?_
    refine x_pure rfl (p_move rfl) ?_
    first | refine x_pure rfl (p_sub rfl rfl (by omega) (by omega)) ?_ | refine x_pure rfl (p_bin rfl rfl rfl) ?_
    refine x_pure rfl (p_move rfl) ?_
    refine x_pure rfl (p_move rfl) ?_
    refine x_pure rfl (p_move rfl) ?_
    refine y_callM hf E0 rfl rfl rfl rfl rfl Try.ent107 (st_swap_den g L (u.take v.length) (u.drop v.length) v R N _ _ _ (by omega) (by omega) (by omega) (by omega) (by omega) hM) ?_
    rintro r zs rfl
    first | refine aops_end ?_ | refine aops_nil ?_
    refine hK7 _ ?_
    refine aw_region ?_
    refine x_pure rfl (p_move rfl) ?_
    refine x_pure rfl (p_move rfl) ?_
    first | refine x_pure rfl (p_sub rfl rfl (by omega) (by omega)) ?_ | refine x_pure rfl (p_bin rfl rfl rfl) ?_
    refine x_pure rfl (p_assign rfl) ?_
    first | refine aops_end ?_ | refine aops_nil ?_
    first
    | exact ⟨((L ++ v, u.drop v.length), (u.take v.length, R)), ⟨by rw [List.length_append]; omega, by omega, by omega, by rw [← ht]; simp [← List.append_assoc (u.take v.length)]⟩, by simp only; omega, le_to ⟨rfl, rfl, rfl, slot_int (by omega), slot_int (by omega), trivial⟩ (by rw [List.append_assoc L v]; rfl)⟩
    | exact ⟨((L, v.drop (v.length - u.length)), (v.take (v.length - u.length), u ++ R)), ⟨by omega, by omega, by omega, by rw [← ht]; simp [← List.append_assoc (v.take (v.length - u.length))]⟩, by simp only; omega, le_to ⟨rfl, rfl, rfl, slot_int (by omega), slot_int (by omega), trivial⟩ rfl⟩
   ·
    try simp only [bs] at hc2
    refine aw_seq_k (fun K8 hK8 => ?_)
    refine aw_region ?_
    rw [show L ++ (u ++ (v ++ R)) = L ++ (u ++ (v.take (v.length - u.length) ++ (v.drop (v.length - u.length) ++ R))) from by rw [← List.append_assoc (v.take (v.length - u.length)), List.take_append_drop]]
    refine x_pure rfl (p_move rfl) ?_
    refine x_pure rfl (p_move rfl) ?_
    refine x_pure rfl (p_move rfl) ?_
    first | refine x_pure rfl (p_sub rfl rfl (by omega) (by omega)) ?_ | refine x_pure rfl (p_bin rfl rfl rfl) ?_
    refine x_pure rfl (p_move rfl) ?_
    refine x_pure rfl (p_move rfl) ?_
    first | refine x_pure rfl (p_add rfl rfl (by omega) (by omega)) ?_ | refine x_pure rfl (p_bin rfl rfl rfl) ?_
    refine x_pure rfl (p_move rfl) ?_
    first | refine x_pure rfl (p_sub rfl rfl (by omega) (by omega)) ?_ | refine x_pure rfl (p_bin rfl rfl rfl) ?_
    refine x_pure rfl (p_move rfl) ?_
    refine x_pure rfl (p_move rfl) ?_
    refine y_callM hf E0 rfl rfl rfl rfl rfl Try.ent107 (st_swap_den g L u (v.take (v.length - u.length)) (v.drop (v.length - u.length)) R N _ _ _ (by omega) (by omega) (by omega) (by omega) (by omega) hM) ?_
    rintro r zs rfl
    first | refine aops_end ?_ | refine aops_nil ?_
    refine hK8 _ ?_
    refine aw_region ?_
    refine x_pure rfl (p_move rfl) ?_
    refine x_pure rfl (p_move rfl) ?_
    first | refine x_pure rfl (p_sub rfl rfl (by omega) (by omega)) ?_ | refine x_pure rfl (p_bin rfl rfl rfl) ?_
    refine x_pure rfl (p_assign rfl) ?_
    first | refine aops_end ?_ | refine aops_nil ?_
    first
    | exact ⟨((L ++ v, u.drop v.length), (u.take v.length, R)), ⟨by rw [List.length_append]; omega, by omega, by omega, by rw [← ht]; simp [← List.append_assoc (u.take v.length)]⟩, by simp only; omega, le_to ⟨rfl, rfl, rfl, slot_int (by omega), slot_int (by omega), trivial⟩ (by rw [List.append_assoc L v]; rfl)⟩
    | exact ⟨((L, v.drop (v.length - u.length)), (v.take (v.length - u.length), u ++ R)), ⟨by omega, by omega, by omega, by rw [← ht]; simp [← List.append_assoc (v.take (v.length - u.length))]⟩, by simp only; omega, le_to ⟨rfl, rfl, rfl, slot_int (by omega), slot_int (by omega), trivial⟩ rfl⟩
  ·
   try simp only [bs] at hc1
   refine aw_exit ?_
   refine hK3 _ ?_
   refine aw_region ?_
   rw [show L ++ (u ++ (v ++ R)) = L ++ (u ++ ([] ++ (v ++ R))) from rfl]
   refine x_pure rfl (p_move rfl) ?_
   refine x_pure rfl (p_move rfl) ?_
   refine x_pure rfl (p_move rfl) ?_
   first | refine x_pure rfl (p_sub rfl rfl (by omega) (by omega)) ?_ | refine x_pure rfl (p_bin rfl rfl rfl) ?_
   refine x_pure rfl (p_move rfl) ?_
   refine x_pure rfl (p_move rfl) ?_
   refine x_pure rfl (p_move rfl) ?_
   refine y_callM hf E0 rfl rfl rfl rfl rfl Try.ent107 (st_swap_den g L u [] v R N _ _ _ (by simp only [List.length_nil]; omega) (by omega) (by omega) (by simp only [List.length_nil]; omega) (by omega) hM) ?_
   rintro r zs rfl
   first | refine aops_end ?_ | refine aops_nil ?_
   refine ⟨_, _, _, Le.refl _, rfl, rfl, ?_⟩
   rw [← ht]; rfl

set_option maxRecDepth 20000 in
set_option maxHeartbeats 4000000 in
theorem st_ins_den {g : Nat} (hent : ∀ args w, (callFunc g args).run Try.prog w = .ok (.enter g args) w) {c : Stay → Stay → Int} (hc : Tri c) (hcmp : ∀ x y : Stay, Den Try.prog g [.agg (stC x), .agg (stC y)] (· = .s (.int .i64 (c x y)))) (p s0 q : List Stay) (N : Nat) (za zb : Int) (hN : N = p.length + s0.length + q.length) (hza : za = (p.length : Nat)) (hzb : zb = ((p.length + s0.length : Nat) : Int)) (hM : N < 4611686018427387904)  : DenM Try.prog 78 [.own E0 4 0 N, .s (.int .i64 za), .s (.int .i64 zb), .fn g []] 4 ((List.map stC (p ++ (s0 ++ q)))) (fun r ys => ∃ t : List Stay, t.Perm s0 ∧ Srt c t ∧ ys = (List.map stC (p ++ (t ++ q)))) := by
 subst hza
 subst hzb
 refine denm_of_aw Try.func78 rfl (Nat.le_of_ble_eq_true rfl) (fun w0 x0 A hf => ?_)
 refine aw_seq_k (fun K1 hK1 => ?_)
 refine aw_region ?_
 refine x_pure rfl (p_move rfl) ?_
 first | refine x_pure rfl (p_add rfl rfl (by omega) (by omega)) ?_ | refine x_pure rfl (p_bin rfl rfl rfl) ?_
 refine x_pure rfl (p_assign rfl) ?_
 first | refine aops_end ?_ | refine aops_nil ?_
 refine hK1 _ ?_
 refine aw_block ?_
 refine aw_loop (ι := List Stay × List Stay) (fun (⟨s1, s2⟩ : List Stay × List Stay) => ⟨53, [(0, .own E0 4 0 N), (1, .s (.int .i64 (p.length : Nat))), (2, .s (.int .i64 ((p.length + s0.length : Nat) : Int))), (3, .fn g []), (8, .s (.int .i64 ((p.length + 1 + (s1.length - 1) : Nat) : Int)))], [(E0, .buf 4 (List.map stC (p ++ (s1 ++ (s2 ++ q)))))]⟩) (fun (⟨s1, s2⟩ : List Stay × List Stay) => Srt c s1 ∧ (s1 ++ s2).Perm s0 ∧ (0 < s1.length ∨ s0 = [])) (fun (⟨s1, s2⟩ : List Stay × List Stay) => s2.length) (s0.take 1, s0.drop 1) ?_ ?_ ?_
 · exact ⟨srt_one (by simp; omega), by rw [List.take_append_drop], by cases s0 <;> simp⟩
 · exact le_to ⟨rfl, rfl, rfl, rfl, slot_int (by have := List.length_take (i := 1) (l := s0); omega), trivial⟩ (by rw [← List.append_assoc (s0.take 1), List.take_append_drop])
 ·
  rintro ⟨s1, s2⟩ hC
  obtain ⟨hs1, hp12, hne⟩ := hC
  have hpl := hp12.length_eq
  rw [List.length_append] at hpl
  have hnl : s0 = [] → s0.length = 0 := fun h => by rw [h]; rfl
  refine aw_seq_k (fun K2 hK2 => ?_)
  refine aw_seq_k (fun K3 hK3 => ?_)
  refine aw_region ?_
  refine x_pure rfl (p_move rfl) ?_
  refine x_pure rfl (p_move rfl) ?_
  refine x_pure rfl (p_bin rfl rfl rfl) ?_
  first | refine aops_end ?_ | refine aops_nil ?_
  refine hK3 _ ?_
  refine aw_cond_s rfl (fun hc1 => ?_) (fun hc1 => ?_)
  ·
   try simp only [bs] at hc1
   refine aw_skip ?_
   refine hK2 _ ?_
   refine aw_seq_k (fun K4 hK4 => ?_)
   refine aw_block ?_
   refine aw_seq_k (fun K5 hK5 => ?_)
   refine aw_region ?_
   have h0 : 0 < s1.length := by rcases hne with h | h; exact h; exfalso; have := hnl h; omega
   obtain ⟨e, s3, rfl⟩ : ∃ e s3, s2 = e :: s3 := by
    cases s2 with
    | nil => exfalso; simp only [List.length_nil] at hpl; omega
    | cons e r => exact ⟨e, r, rfl⟩
   simp only [List.length_cons] at hpl
   refine x_pure rfl (p_move rfl) ?_
   refine x_pure rfl (p_assign rfl) ?_
   first | refine aops_end ?_ | refine aops_nil ?_
   refine hK5 _ ?_
   refine aw_block ?_
   refine aw_loop (ι := List Stay × List Stay) (fun (⟨u, v⟩ : List Stay × List Stay) => ⟨53, [(0, .own E0 4 0 N), (1, .s (.int .i64 (p.length : Nat))), (2, .s (.int .i64 ((p.length + s0.length : Nat) : Int))), (3, .fn g []), (8, .s (.int .i64 ((p.length + 1 + (s1.length - 1) : Nat) : Int))), (9, .s (.int .i64 ((p.length + u.length : Nat) : Int)))], [(E0, .buf 4 (List.map stC (p ++ (u ++ (e :: (v ++ (s3 ++ q)))))))]⟩) (fun (⟨u, v⟩ : List Stay × List Stay) => u ++ v = s1 ∧ ∀ y ∈ v, c e y ≤ 0) (fun (⟨u, v⟩ : List Stay × List Stay) => u.length) (s1, []) ?_ ?_ ?_
   · exact ⟨List.append_nil _, by simp⟩
   · exact le_to ⟨rfl, rfl, rfl, rfl, rfl, slot_int (by omega), trivial⟩ rfl
   ·
    rintro ⟨u, v⟩ hC
    obtain ⟨huv, hv⟩ := hC
    have hul := congrArg List.length huv
    rw [List.length_append] at hul
    refine aw_seq_k (fun K6 hK6 => ?_)
    refine aw_seq_k (fun K7 hK7 => ?_)
    refine aw_draw hf Try.mixed (by kernel_rfl) rfl ?_
    refine d_pure [(9, _)] rfl rfl ⟨⟨rfl, rfl⟩, trivial⟩ rfl (p_move rfl) ?_
    refine d_pure [(1, _)] rfl rfl ⟨⟨rfl, rfl⟩, trivial⟩ rfl (p_move rfl) ?_
    refine d_pure [(18, _), (19, _)] rfl rfl ⟨⟨rfl, rfl⟩, ⟨rfl, rfl⟩, trivial⟩ rfl (p_bin rfl rfl rfl) ?_
    refine d_pure [(20, _)] rfl rfl ⟨⟨rfl, rfl⟩, trivial⟩ rfl (p_move rfl) ?_
    refine d_split 21 true rfl (fun hg2 => ?_) (fun hg2 => ?_)
    ·
     try simp only [bs] at hg2
     obtain ⟨u1, z, hu1⟩ := last_of (u := u) (by omega)
     have hu2 := congrArg List.length hu1
     simp only [List.length_append, List.length_cons, List.length_nil] at hu2
     refine d_pure [(3, _)] rfl rfl ⟨⟨rfl, rfl⟩, trivial⟩ rfl (p_move rfl) ?_
     refine d_pure [(0, _)] rfl rfl ⟨⟨rfl, rfl⟩, trivial⟩ rfl (p_move rfl) ?_
     refine d_pure [(9, _)] rfl rfl ⟨⟨rfl, rfl⟩, trivial⟩ rfl (p_move rfl) ?_
     first | refine d_pure [(23, _), (24, _)] rfl rfl ⟨⟨rfl, rfl⟩, ⟨rfl, rfl⟩, trivial⟩ rfl (p_idx_sl rfl rfl Try.e63 Try.c44 (by first | assumption | (refine ⟨by omega, ?_⟩; first | assumption | exact strs_at (by omega) | exact strs_at (by simp only [List.length_cons] at *; omega) | exact ints_at (by omega) | exact map_at (by omega) | exact list_at (by omega)) | exact ⟨by decide, rfl⟩)) ?_ | refine d_pure [(23, _), (24, _)] rfl rfl ⟨⟨rfl, rfl⟩, ⟨rfl, rfl⟩, trivial⟩ rfl (p_idx_own rfl rfl Try.e63 Try.c44 (by omega)) ?_
     refine d_pure [(25, _)] rfl rfl ⟨⟨rfl, rfl⟩, trivial⟩ rfl (p_loadsr rfl Try.g44 Try.c44 rfl (own_bleQ (k := 4) (enc := stC) (z := p.length + u.length) (by omega) (atQ (p := p ++ u) (q := v ++ (s3 ++ q)) (x := e) (by simp) (by simp)) rfl) (own_takeQ (k := 4) (enc := stC) (z := p.length + u.length) (by omega) (atQ (p := p ++ u) (q := v ++ (s3 ++ q)) (x := e) (by simp) (by simp)) rfl)) ?_
     refine d_pure [(0, _)] rfl rfl ⟨⟨rfl, rfl⟩, trivial⟩ rfl (p_move rfl) ?_
     refine d_pure [(9, _)] rfl rfl ⟨⟨rfl, rfl⟩, trivial⟩ rfl (p_move rfl) ?_
     first | refine d_pure [(28, _)] rfl rfl ⟨⟨rfl, rfl⟩, trivial⟩ rfl (p_sub rfl rfl (by omega) (by omega)) ?_ | refine d_pure [(28, _)] rfl rfl ⟨⟨rfl, rfl⟩, trivial⟩ rfl (p_bin rfl rfl rfl) ?_
     first | refine d_pure [(27, _), (29, _)] rfl rfl ⟨⟨rfl, rfl⟩, ⟨rfl, rfl⟩, trivial⟩ rfl (p_idx_sl rfl rfl Try.e63 Try.c44 (by first | assumption | (refine ⟨by omega, ?_⟩; first | assumption | exact strs_at (by omega) | exact strs_at (by simp only [List.length_cons] at *; omega) | exact ints_at (by omega) | exact map_at (by omega) | exact list_at (by omega)) | exact ⟨by decide, rfl⟩)) ?_ | refine d_pure [(27, _), (29, _)] rfl rfl ⟨⟨rfl, rfl⟩, ⟨rfl, rfl⟩, trivial⟩ rfl (p_idx_own rfl rfl Try.e63 Try.c44 (by omega)) ?_
     refine d_pure [(30, _)] rfl rfl ⟨⟨rfl, rfl⟩, trivial⟩ rfl (p_loadsr rfl Try.g44 Try.c44 rfl (own_bleQ (k := 4) (enc := stC) (z := p.length + u1.length) (by omega) (atQ (p := p ++ u1) (q := e :: (v ++ (s3 ++ q))) (x := z) (by rw [hu1]; simp) (by simp)) rfl) (own_takeQ (k := 4) (enc := stC) (z := p.length + u1.length) (by omega) (atQ (p := p ++ u1) (q := e :: (v ++ (s3 ++ q))) (x := z) (by rw [hu1]; simp) (by simp)) rfl)) ?_
     refine d_rstep [(22, _), (26, _), (31, _)] rfl rfl ⟨⟨rfl, rfl⟩, ⟨rfl, rfl⟩, ⟨rfl, rfl⟩, trivial⟩ rfl (r_call rfl rfl hent rfl (hcmp e z)) ?_
     refine d_pure [(32, _)] rfl rfl ⟨⟨rfl, rfl⟩, trivial⟩ rfl (p_bin rfl rfl rfl) ?_
     refine d_pure [(21, _), (33, _)] rfl rfl ⟨⟨rfl, rfl⟩, ⟨rfl, rfl⟩, trivial⟩ rfl (p_pick_t rfl rfl) ?_
     refine lex_end (sl' := [(0, _), (1, _), (2, _), (3, _), (8, _), (9, _), (34, _)]) rfl ⟨rfl, rfl, rfl, rfl, rfl, rfl, rfl, trivial⟩ rfl ?_
     refine hK7 _ ?_
     refine aw_cond_s rfl (fun hc3 => ?_) (fun hc3 => ?_)
     ·
      try simp only [bs] at hc3
      refine aw_skip ?_
      refine hK6 _ ?_
      refine aw_seq_k (fun K8 hK8 => ?_)
      refine aw_block ?_
      refine aw_region_any Try.mixed ?_
      refine af_step (listed' := #[true, false, false, false, false, false, false, false, false, false, false, false, false, false, false, false, false, false]) 0 rfl (by kernel_rfl) (by kernel_rfl) (by kernel_rfl) rfl (fun _ _ h => h) (w_move rfl) ?_
      refine af_step (listed' := #[true, true, false, false, false, false, false, false, false, false, false, false, false, false, false, false, false, false]) 1 rfl (by kernel_rfl) (by kernel_rfl) (by kernel_rfl) rfl (fun _ _ h => h) (w_move rfl) ?_
      refine af_step (listed' := #[true, true, true, false, false, false, false, false, false, false, false, false, false, false, false, false, false, false]) 2 rfl (by kernel_rfl) (by kernel_rfl) (by kernel_rfl) rfl (fun _ _ h => h) (w_move rfl) ?_
      refine af_step (listed' := #[true, true, true, true, false, false, false, false, false, false, false, false, false, false, false, false, false, false]) 3 rfl (by kernel_rfl) (by kernel_rfl) (by kernel_rfl) rfl (fun _ _ h => h) (w_move rfl) ?_
      first | refine af_step (listed' := #[true, true, true, true, true, false, false, false, false, false, false, false, false, false, false, false, false, false]) 4 rfl (by kernel_rfl) (by kernel_rfl) (by kernel_rfl) rfl (fun _ _ h => h) (w_sub rfl rfl (by omega) (by omega)) ?_ | refine af_step (listed' := #[true, true, true, true, true, false, false, false, false, false, false, false, false, false, false, false, false, false]) 4 rfl (by kernel_rfl) (by kernel_rfl) (by kernel_rfl) rfl (fun _ _ h => h) (w_bin rfl rfl rfl) ?_
      refine af_step (listed' := #[true, true, true, true, true, true, false, false, false, false, false, false, false, false, false, false, false, false]) 5 rfl (by kernel_rfl) (by kernel_rfl) (by kernel_rfl) rfl (fun _ _ h => h) (w_move rfl) ?_
      refine af_step (listed' := #[true, true, true, true, true, true, true, false, false, false, false, false, false, false, false, false, false, false]) 6 rfl (by kernel_rfl) (by kernel_rfl) (by kernel_rfl) rfl (fun _ _ h => h) (w_move rfl) ?_
      first | refine af_step (listed' := #[true, true, true, true, true, true, true, true, false, false, false, false, false, false, false, false, false, false]) 7 rfl (by kernel_rfl) (by kernel_rfl) (by kernel_rfl) rfl (fun _ _ h => h) (w_sub rfl rfl (by omega) (by omega)) ?_ | refine af_step (listed' := #[true, true, true, true, true, true, true, true, false, false, false, false, false, false, false, false, false, false]) 7 rfl (by kernel_rfl) (by kernel_rfl) (by kernel_rfl) rfl (fun _ _ h => h) (w_bin rfl rfl rfl) ?_
      first | refine af_step (listed' := #[true, true, true, true, true, true, true, true, true, false, false, false, false, false, false, false, false, false]) 8 rfl (by kernel_rfl) (by kernel_rfl) (by kernel_rfl) rfl (fun _ _ h => h) (w_idx_sl rfl rfl Try.e63 Try.c44 (by first | assumption | (refine ⟨by omega, ?_⟩; first | assumption | exact strs_at (by omega) | exact strs_at (by simp only [List.length_cons] at *; omega) | exact ints_at (by omega) | exact map_at (by omega) | exact list_at (by omega)) | exact ⟨by decide, rfl⟩)) ?_ | refine af_step (listed' := #[true, true, true, true, true, true, true, true, true, false, false, false, false, false, false, false, false, false]) 8 rfl (by kernel_rfl) (by kernel_rfl) (by kernel_rfl) rfl (fun _ _ h => h) (w_idx_own rfl rfl Try.e63 Try.c44 (by omega)) ?_
      refine af_step (listed' := #[true, true, true, true, true, true, true, true, true, false, true, false, false, false, false, false, false, false]) 10 rfl (by kernel_rfl) (by kernel_rfl) (by kernel_rfl) rfl (fun _ _ h => h) (w_move rfl) ?_
      refine af_step (listed' := #[true, true, true, true, true, true, true, true, true, false, true, true, false, false, false, false, false, false]) 11 rfl (by kernel_rfl) (by kernel_rfl) (by kernel_rfl) rfl (fun _ _ h => h) (w_move rfl) ?_
      first | refine af_step (listed' := #[true, true, true, true, true, true, true, true, true, false, true, true, true, false, false, false, false, false]) 12 rfl (by kernel_rfl) (by kernel_rfl) (by kernel_rfl) rfl (fun _ _ h => h) (w_idx_sl rfl rfl Try.e63 Try.c44 (by first | assumption | (refine ⟨by omega, ?_⟩; first | assumption | exact strs_at (by omega) | exact strs_at (by simp only [List.length_cons] at *; omega) | exact ints_at (by omega) | exact map_at (by omega) | exact list_at (by omega)) | exact ⟨by decide, rfl⟩)) ?_ | refine af_step (listed' := #[true, true, true, true, true, true, true, true, true, false, true, true, true, false, false, false, false, false]) 12 rfl (by kernel_rfl) (by kernel_rfl) (by kernel_rfl) rfl (fun _ _ h => h) (w_idx_own rfl rfl Try.e63 Try.c44 (by omega)) ?_
      refine aany_le (le_of (sl' := [(0, _), (1, _), (2, _), (3, _), (8, _), (9, _), (37, _), (38, _), (39, _), (41, _), (45, _), (49, _)]) ⟨rfl, rfl, rfl, rfl, rfl, rfl, rfl, rfl, rfl, rfl, rfl, rfl, trivial⟩) ?_
      refine aany_step 9 [13] (by kernel_rfl) ⟨?_, ?_, trivial⟩
      ·
       refine ⟨_, rfl, rfl, ?_⟩
       refine aop_of_aops (ops := #[]) rfl ?_
       refine x_pure rfl (p_loadsr rfl Try.g44 Try.c44 rfl (own_bleQ (k := 4) (enc := stC) (z := p.length + u1.length) (by omega) (atQ (p := p ++ u1) (q := e :: (v ++ (s3 ++ q))) (x := z) (by rw [hu1]; simp) (by simp)) rfl) (own_takeQ (k := 4) (enc := stC) (z := p.length + u1.length) (by omega) (atQ (p := p ++ u1) (q := e :: (v ++ (s3 ++ q))) (x := z) (by rw [hu1]; simp) (by simp)) rfl)) ?_
       refine aops_any ?_
       refine aany_step 13 [] (by kernel_rfl) ⟨?_, trivial⟩
       ·
        refine ⟨_, rfl, rfl, ?_⟩
        refine aop_of_aops (ops := #[]) rfl ?_
        refine x_pure rfl (p_loadsr rfl Try.g44 Try.c44 rfl (own_bleQ (k := 4) (enc := stC) (z := p.length + u.length) (by omega) (atQ (p := p ++ u) (q := v ++ (s3 ++ q)) (x := e) (by simp) (by simp)) rfl) (own_takeQ (k := 4) (enc := stC) (z := p.length + u.length) (by omega) (atQ (p := p ++ u) (q := v ++ (s3 ++ q)) (x := e) (by simp) (by simp)) rfl)) ?_
        refine aops_any ?_
        refine aany_step 14 [] (by kernel_rfl) ⟨?_, trivial⟩
        ·
         refine ⟨_, rfl, rfl, ?_⟩
         refine aop_of_aops (ops := #[]) rfl ?_
         first | refine x_pure rfl (p_idx_sl rfl rfl Try.e63 Try.c44 (by first | assumption | (refine ⟨by omega, ?_⟩; first | assumption | exact strs_at (by omega) | exact strs_at (by simp only [List.length_cons] at *; omega) | exact ints_at (by omega) | exact map_at (by omega) | exact list_at (by omega)) | exact ⟨by decide, rfl⟩)) ?_ | refine x_pure rfl (p_idx_own rfl rfl Try.e63 Try.c44 (by omega)) ?_
         refine aops_any ?_
         refine aany_step 15 [] (by kernel_rfl) ⟨?_, trivial⟩
         ·
          refine ⟨_, rfl, rfl, ?_⟩
          refine aop_of_aops (ops := #[]) rfl ?_
          refine x_store hf rfl rfl Try.c44 rfl rfl (by simp [stC, AV.cells, AV.one, Value.oneCell']) (by simp [stC, AV.cells, AV.leaf, Value.oneCell']) (own_storeQ (k := 4) (enc := stC) (z := p.length + u.length) (v := z) (by omega) (by simp only [List.length_append, List.length_cons, List.length_set]; omega) rfl rfl rfl) ?_
          refine aops_any ?_
          refine aany_step 16 [] (by kernel_rfl) ⟨?_, trivial⟩
          ·
           refine ⟨_, rfl, rfl, ?_⟩
           refine aop_of_aops (ops := #[]) rfl ?_
           first | refine x_pure rfl (p_idx_sl rfl rfl Try.e63 Try.c44 (by first | assumption | (refine ⟨by omega, ?_⟩; first | assumption | exact strs_at (by omega) | exact strs_at (by simp only [List.length_cons] at *; omega) | exact ints_at (by omega) | exact map_at (by omega) | exact list_at (by omega)) | exact ⟨by decide, rfl⟩)) ?_ | refine x_pure rfl (p_idx_own rfl rfl Try.e63 Try.c44 (by omega)) ?_
           refine aops_any ?_
           refine aany_step 17 [] (by kernel_rfl) ⟨?_, trivial⟩
           ·
            refine ⟨_, rfl, rfl, ?_⟩
            refine aop_of_aops (ops := #[]) rfl ?_
            refine x_store hf rfl rfl Try.c44 rfl rfl (by simp [stC, AV.cells, AV.one, Value.oneCell']) (by simp [stC, AV.cells, AV.leaf, Value.oneCell']) (own_storeQ (k := 4) (enc := stC) (z := p.length + u1.length) (v := e) (by omega) (by simp only [List.length_append, List.length_cons, List.length_set]; omega) rfl rfl rfl) ?_
            refine aops_any ?_
            refine aany_end (by kernel_rfl) ?_
            refine hK8 _ ?_
            refine aw_region ?_
            refine x_pure rfl (p_move rfl) ?_
            first | refine x_pure rfl (p_sub rfl rfl (by omega) (by omega)) ?_ | refine x_pure rfl (p_bin rfl rfl rfl) ?_
            refine x_pure rfl (p_assign rfl) ?_
            first | refine aops_end ?_ | refine aops_nil ?_
            exact ⟨(u1, z :: v), ⟨by rw [← huv, hu1]; simp, fun y hy => by
             rcases List.mem_cons.1 hy with rfl | hy
             · omega
             · exact hv y hy⟩, by simp only; omega, le_to ⟨rfl, rfl, rfl, rfl, rfl, slot_int (by omega), trivial⟩ (congrArg (fun l => [(E0, AM.buf 4 (List.map stC l))]) ((swap_down (p := p ++ u1) (x := z) (y := e) (q := v ++ (s3 ++ q)) (by rw [hu1]; simp) (by simp; omega) (by simp)).trans (by simp)))⟩
      ·
       refine ⟨_, rfl, rfl, ?_⟩
       refine aop_of_aops (ops := #[]) rfl ?_
       refine x_pure rfl (p_loadsr rfl Try.g44 Try.c44 rfl (own_bleQ (k := 4) (enc := stC) (z := p.length + u.length) (by omega) (atQ (p := p ++ u) (q := v ++ (s3 ++ q)) (x := e) (by simp) (by simp)) rfl) (own_takeQ (k := 4) (enc := stC) (z := p.length + u.length) (by omega) (atQ (p := p ++ u) (q := v ++ (s3 ++ q)) (x := e) (by simp) (by simp)) rfl)) ?_
       refine aops_any ?_
       refine aany_step 9 [] (by kernel_rfl) ⟨?_, trivial⟩
       ·
        refine ⟨_, rfl, rfl, ?_⟩
        refine aop_of_aops (ops := #[]) rfl ?_
        refine x_pure rfl (p_loadsr rfl Try.g44 Try.c44 rfl (own_bleQ (k := 4) (enc := stC) (z := p.length + u1.length) (by omega) (atQ (p := p ++ u1) (q := e :: (v ++ (s3 ++ q))) (x := z) (by rw [hu1]; simp) (by simp)) rfl) (own_takeQ (k := 4) (enc := stC) (z := p.length + u1.length) (by omega) (atQ (p := p ++ u1) (q := e :: (v ++ (s3 ++ q))) (x := z) (by rw [hu1]; simp) (by simp)) rfl)) ?_
        refine aops_any ?_
        refine aany_step 14 [] (by kernel_rfl) ⟨?_, trivial⟩
        ·
         refine ⟨_, rfl, rfl, ?_⟩
         refine aop_of_aops (ops := #[]) rfl ?_
         first | refine x_pure rfl (p_idx_sl rfl rfl Try.e63 Try.c44 (by first | assumption | (refine ⟨by omega, ?_⟩; first | assumption | exact strs_at (by omega) | exact strs_at (by simp only [List.length_cons] at *; omega) | exact ints_at (by omega) | exact map_at (by omega) | exact list_at (by omega)) | exact ⟨by decide, rfl⟩)) ?_ | refine x_pure rfl (p_idx_own rfl rfl Try.e63 Try.c44 (by omega)) ?_
         refine aops_any ?_
         refine aany_step 15 [] (by kernel_rfl) ⟨?_, trivial⟩
         ·
          refine ⟨_, rfl, rfl, ?_⟩
          refine aop_of_aops (ops := #[]) rfl ?_
          refine x_store hf rfl rfl Try.c44 rfl rfl (by simp [stC, AV.cells, AV.one, Value.oneCell']) (by simp [stC, AV.cells, AV.leaf, Value.oneCell']) (own_storeQ (k := 4) (enc := stC) (z := p.length + u.length) (v := z) (by omega) (by simp only [List.length_append, List.length_cons, List.length_set]; omega) rfl rfl rfl) ?_
          refine aops_any ?_
          refine aany_step 16 [] (by kernel_rfl) ⟨?_, trivial⟩
          ·
           refine ⟨_, rfl, rfl, ?_⟩
           refine aop_of_aops (ops := #[]) rfl ?_
           first | refine x_pure rfl (p_idx_sl rfl rfl Try.e63 Try.c44 (by first | assumption | (refine ⟨by omega, ?_⟩; first | assumption | exact strs_at (by omega) | exact strs_at (by simp only [List.length_cons] at *; omega) | exact ints_at (by omega) | exact map_at (by omega) | exact list_at (by omega)) | exact ⟨by decide, rfl⟩)) ?_ | refine x_pure rfl (p_idx_own rfl rfl Try.e63 Try.c44 (by omega)) ?_
           refine aops_any ?_
           refine aany_step 17 [] (by kernel_rfl) ⟨?_, trivial⟩
           ·
            refine ⟨_, rfl, rfl, ?_⟩
            refine aop_of_aops (ops := #[]) rfl ?_
            refine x_store hf rfl rfl Try.c44 rfl rfl (by simp [stC, AV.cells, AV.one, Value.oneCell']) (by simp [stC, AV.cells, AV.leaf, Value.oneCell']) (own_storeQ (k := 4) (enc := stC) (z := p.length + u1.length) (v := e) (by omega) (by simp only [List.length_append, List.length_cons, List.length_set]; omega) rfl rfl rfl) ?_
            refine aops_any ?_
            refine aany_end (by kernel_rfl) ?_
            refine hK8 _ ?_
            refine aw_region ?_
            refine x_pure rfl (p_move rfl) ?_
            first | refine x_pure rfl (p_sub rfl rfl (by omega) (by omega)) ?_ | refine x_pure rfl (p_bin rfl rfl rfl) ?_
            refine x_pure rfl (p_assign rfl) ?_
            first | refine aops_end ?_ | refine aops_nil ?_
            exact ⟨(u1, z :: v), ⟨by rw [← huv, hu1]; simp, fun y hy => by
             rcases List.mem_cons.1 hy with rfl | hy
             · omega
             · exact hv y hy⟩, by simp only; omega, le_to ⟨rfl, rfl, rfl, rfl, rfl, slot_int (by omega), trivial⟩ (congrArg (fun l => [(E0, AM.buf 4 (List.map stC l))]) ((swap_down (p := p ++ u1) (x := z) (y := e) (q := v ++ (s3 ++ q)) (by rw [hu1]; simp) (by simp; omega) (by simp)).trans (by simp)))⟩
     ·
      try simp only [bs] at hc3
      refine aw_exit ?_
      refine hK4 _ ?_
      refine aw_region ?_
      refine x_pure rfl (p_move rfl) ?_
      first | refine x_pure rfl (p_add rfl rfl (by omega) (by omega)) ?_ | refine x_pure rfl (p_bin rfl rfl rfl) ?_
      refine x_pure rfl (p_assign rfl) ?_
      first | refine aops_end ?_ | refine aops_nil ?_
      first
      | exact ⟨(u ++ e :: v, s3), ⟨ins_done hc (by rw [huv]; exact hs1) hv (fun z' hz' => by rw [hu1] at hz'; simp at hz'; subst hz'; have := hc.swap e z; omega), ins_perm huv hp12, .inl (by simp only [List.length_append, List.length_cons]; omega)⟩, by simp, le_to ⟨rfl, rfl, rfl, rfl, slot_int (by simp only [List.length_append, List.length_cons]; omega), trivial⟩ (by simp)⟩
      | exact ⟨(u ++ e :: v, s3), ⟨ins_done hc (by rw [huv]; exact hs1) hv (fun z' hz' => by rw [List.eq_nil_of_length_eq_zero (show u.length = 0 by omega)] at hz'; simp at hz'), ins_perm huv hp12, .inl (by simp only [List.length_append, List.length_cons]; omega)⟩, by simp, le_to ⟨rfl, rfl, rfl, rfl, slot_int (by simp only [List.length_append, List.length_cons]; omega), trivial⟩ (by simp)⟩
    ·
     try simp only [bs] at hg2
     refine d_skip rfl rfl ?_
     refine d_skip rfl rfl ?_
     refine d_skip rfl rfl ?_
     refine d_skip rfl rfl ?_
     refine d_skip rfl rfl ?_
     refine d_skip rfl rfl ?_
     refine d_skip rfl rfl ?_
     refine d_skip rfl rfl ?_
     refine d_skip rfl rfl ?_
     refine d_skip rfl rfl ?_
     refine d_skip rfl rfl ?_
     refine d_skip rfl rfl ?_
     refine d_pure [(21, _), (33, _)] rfl rfl ⟨⟨rfl, rfl⟩, ⟨rfl, rfl⟩, trivial⟩ rfl (p_pick_f rfl rfl) ?_
     refine lex_end (sl' := [(0, _), (1, _), (2, _), (3, _), (8, _), (9, _), (34, _)]) rfl ⟨rfl, rfl, rfl, rfl, rfl, rfl, rfl, trivial⟩ rfl ?_
     refine hK7 _ ?_
     refine aw_cond_f rfl ?_
     refine aw_exit ?_
     refine hK4 _ ?_
     refine aw_region ?_
     refine x_pure rfl (p_move rfl) ?_
     first | refine x_pure rfl (p_add rfl rfl (by omega) (by omega)) ?_ | refine x_pure rfl (p_bin rfl rfl rfl) ?_
     refine x_pure rfl (p_assign rfl) ?_
     first | refine aops_end ?_ | refine aops_nil ?_
     first
     | exact ⟨(u ++ e :: v, s3), ⟨ins_done hc (by rw [huv]; exact hs1) hv (fun z' hz' => by rw [hu1] at hz'; simp at hz'; subst hz'; have := hc.swap e z; omega), ins_perm huv hp12, .inl (by simp only [List.length_append, List.length_cons]; omega)⟩, by simp, le_to ⟨rfl, rfl, rfl, rfl, slot_int (by simp only [List.length_append, List.length_cons]; omega), trivial⟩ (by simp)⟩
     | exact ⟨(u ++ e :: v, s3), ⟨ins_done hc (by rw [huv]; exact hs1) hv (fun z' hz' => by rw [List.eq_nil_of_length_eq_zero (show u.length = 0 by omega)] at hz'; simp at hz'), ins_perm huv hp12, .inl (by simp only [List.length_append, List.length_cons]; omega)⟩, by simp, le_to ⟨rfl, rfl, rfl, rfl, slot_int (by simp only [List.length_append, List.length_cons]; omega), trivial⟩ (by simp)⟩
  ·
   try simp only [bs] at hc1
   refine aw_exit ?_
   have hs2 : s2 = [] := List.eq_nil_of_length_eq_zero (by rcases hne with h | h; omega; have := hnl h; omega)
   subst hs2
   exact ⟨_, _, _, Le.refl _, rfl, rfl, s1, by simpa using hp12, hs1, rfl⟩

set_option maxRecDepth 20000 in
set_option maxHeartbeats 16000000 in
theorem st_symStep_den {g : Nat} (hent : ∀ args w, (callFunc g args).run Try.prog w = .ok (.enter g args) w) {c : Stay → Stay → Int} (hc : Tri c) (hcmp : ∀ x y : Stay, Den Try.prog g [.agg (stC x), .agg (stC y)] (· = .s (.int .i64 (c x y)))) (NN : Nat) (ih : ∀ (p s1 s2 q : List Stay) (N : Nat) (za zm zb : Int), s1.length + s2.length ≤ NN → N = p.length + s1.length + s2.length + q.length → za = (p.length : Nat) → zm = ((p.length + s1.length : Nat) : Int) → zb = ((p.length + s1.length + s2.length : Nat) : Int) → 0 < s1.length → 0 < s2.length → Srt c s1 → Srt c s2 → N < 4611686018427387904 → DenM Try.prog 79 [.own E0 4 0 N, .s (.int .i64 za), .s (.int .i64 zm), .s (.int .i64 zb), .fn g []] 4 (List.map stC (p ++ (s1 ++ (s2 ++ q)))) (fun r ys => ∃ t : List Stay, t.Perm (s1 ++ s2) ∧ Srt c t ∧ ys = (List.map stC (p ++ (t ++ q))))) (p s1 s2 q : List Stay) (N : Nat) (za zm zb : Int) (hle : s1.length + s2.length ≤ NN + 1) (hN : N = p.length + s1.length + s2.length + q.length) (hza : za = (p.length : Nat)) (hzm : zm = ((p.length + s1.length : Nat) : Int)) (hzb : zb = ((p.length + s1.length + s2.length : Nat) : Int)) (h01 : 0 < s1.length) (h02 : 0 < s2.length) (hs1 : Srt c s1) (hs2 : Srt c s2) (hM : N < 4611686018427387904)  : DenM Try.prog 79 [.own E0 4 0 N, .s (.int .i64 za), .s (.int .i64 zm), .s (.int .i64 zb), .fn g []] 4 ((List.map stC (p ++ (s1 ++ (s2 ++ q))))) (fun r ys => ∃ t : List Stay, t.Perm (s1 ++ s2) ∧ Srt c t ∧ ys = (List.map stC (p ++ (t ++ q)))) := by
 subst hza
 subst hzm
 subst hzb
 refine denm_of_aw Try.func79 rfl (Nat.le_of_ble_eq_true rfl) (fun w0 x0 A hf => ?_)
 refine aw_seq_k (fun K1 hK1 => ?_)
 refine aw_seq_k (fun K2 hK2 => ?_)
 refine aw_region ?_
 refine x_pure rfl (p_move rfl) ?_
 refine x_pure rfl (p_move rfl) ?_
 first | refine x_pure rfl (p_sub rfl rfl (by omega) (by omega)) ?_ | refine x_pure rfl (p_bin rfl rfl rfl) ?_
 refine x_pure rfl (p_bin rfl rfl rfl) ?_
 first | refine aops_end ?_ | refine aops_nil ?_
 refine hK2 _ ?_
 refine aw_cond_s rfl (fun hc1 => ?_) (fun hc1 => ?_)
 ·
  try simp only [bs] at hc1
  obtain ⟨x, hx1⟩ : ∃ x, s1 = [x] := List.length_eq_one_iff.1 (by omega)
  have hl1 : s1.length = 1 := by rw [hx1]; rfl
  refine aw_seq_k (fun K3 hK3 => ?_)
  refine aw_region ?_
  refine x_pure rfl (p_move rfl) ?_
  refine x_pure rfl (p_assign rfl) ?_
  first | refine aops_end ?_ | refine aops_nil ?_
  refine hK3 _ ?_
  refine aw_seq_k (fun K4 hK4 => ?_)
  refine aw_region ?_
  refine x_pure rfl (p_move rfl) ?_
  refine x_pure rfl (p_assign rfl) ?_
  first | refine aops_end ?_ | refine aops_nil ?_
  refine hK4 _ ?_
  refine aw_seq_k (fun K5 hK5 => ?_)
  refine aw_block ?_
  refine aw_loop (ι := Nat × Nat) (fun (⟨i, j⟩ : Nat × Nat) => ⟨220, [(0, .own E0 4 0 N), (1, .s (.int .i64 (p.length : Nat))), (4, .fn g []), (10, .s (.int .i64 ((p.length + s1.length + i : Nat) : Int))), (11, .s (.int .i64 ((p.length + s1.length + j : Nat) : Int)))], [(E0, .buf 4 (List.map stC (p ++ (s1 ++ (s2 ++ q)))))]⟩) (fun (⟨i, j⟩ : Nat × Nat) => i ≤ j ∧ j ≤ s2.length ∧ (∀ z, s2[i - 1]? = some z → 0 < i → c z x ≤ 0) ∧ (∀ z, s2[j]? = some z → c x z ≤ 0)) (fun (⟨i, j⟩ : Nat × Nat) => j - i) (0, s2.length) ?_ ?_ ?_
  · exact ⟨Nat.zero_le _, Nat.le_refl _, fun _ _ h => absurd h (by omega), fun z hz => by rw [List.getElem?_eq_none (Nat.le_refl _)] at hz; cases hz⟩
  · exact le_to ⟨(by first | rfl | exact slot_int (by omega)), (by first | rfl | exact slot_int (by omega)), (by first | rfl | exact slot_int (by omega)), (by first | rfl | exact slot_int (by omega)), (by first | rfl | exact slot_int (by omega)), trivial⟩ rfl
  ·
   rintro ⟨i, j⟩ hC
   obtain ⟨q1, q2, q3, q4⟩ := hC
   refine aw_seq_k (fun K6 hK6 => ?_)
   refine aw_seq_k (fun K7 hK7 => ?_)
   refine aw_region ?_
   refine x_pure rfl (p_move rfl) ?_
   refine x_pure rfl (p_move rfl) ?_
   refine x_pure rfl (p_bin rfl rfl rfl) ?_
   first | refine aops_end ?_ | refine aops_nil ?_
   refine hK7 _ ?_
   refine aw_cond_s rfl (fun hc2 => ?_) (fun hc2 => ?_)
   ·
    try simp only [bs] at hc2
    refine aw_skip ?_
    refine hK6 _ ?_
    refine aw_block ?_
    refine aw_seq_k (fun K8 hK8 => ?_)
    refine aw_region ?_
    obtain ⟨h, eh⟩ : ∃ h, h = (i + j) / 2 := ⟨_, rfl⟩
    have hz := half_z (a := ((p.length + s1.length + i : Nat) : Int) + ((p.length + s1.length + j : Nat) : Int)) (b := ((p.length + s1.length + h : Nat) : Int)) (by omega) (by omega) (by omega)
    refine x_pure rfl (p_move rfl) ?_
    refine x_pure rfl (p_move rfl) ?_
    first | refine x_pure rfl (p_add rfl rfl (by omega) (by omega)) ?_ | refine x_pure rfl (p_bin rfl rfl rfl) ?_
    refine x_pure rfl (p_conv rfl Try.underlying3 Try.underlying116 hz.1) ?_
    refine x_pure rfl (p_half rfl hz.2.1 (by decide)) ?_
    refine x_pure rfl (p_conv rfl Try.underlying116 Try.underlying3 hz.2.2) ?_
    refine x_pure rfl (p_assign rfl) ?_
    first | refine aops_end ?_ | refine aops_nil ?_
    refine hK8 _ ?_
    refine aw_seq_k (fun K9 hK9 => ?_)
    refine aw_draw hf Try.mixed (by kernel_rfl) rfl ?_
    have hh2 : h < s2.length := by omega
    refine d_pure [(4, _)] rfl rfl ⟨⟨rfl, rfl⟩, trivial⟩ rfl (p_move rfl) ?_
    refine d_pure [(0, _)] rfl rfl ⟨⟨rfl, rfl⟩, trivial⟩ rfl (p_move rfl) ?_
    refine d_pure [(12, _)] rfl rfl ⟨⟨rfl, rfl⟩, trivial⟩ rfl (p_move rfl) ?_
    first | refine d_pure [(41, _), (42, _)] rfl rfl ⟨⟨rfl, rfl⟩, ⟨rfl, rfl⟩, trivial⟩ rfl (p_idx_sl rfl rfl Try.e63 Try.c44 (by first | assumption | (refine ⟨by omega, ?_⟩; first | assumption | exact strs_at (by omega) | exact strs_at (by simp only [List.length_cons] at *; omega) | exact ints_at (by omega) | exact map_at (by omega) | exact list_at (by omega)) | exact ⟨by decide, rfl⟩)) ?_ | refine d_pure [(41, _), (42, _)] rfl rfl ⟨⟨rfl, rfl⟩, ⟨rfl, rfl⟩, trivial⟩ rfl (p_idx_own rfl rfl Try.e63 Try.c44 (by omega)) ?_
    refine d_pure [(43, _)] rfl rfl ⟨⟨rfl, rfl⟩, trivial⟩ rfl (p_loadsr rfl Try.g44 Try.c44 rfl (own_bleQ (k := 4) (enc := stC) (z := p.length + s1.length + h) (by omega) (atM hh2) rfl) (own_takeQ (k := 4) (enc := stC) (z := p.length + s1.length + h) (by omega) (atM hh2) rfl)) ?_
    refine d_pure [(0, _)] rfl rfl ⟨⟨rfl, rfl⟩, trivial⟩ rfl (p_move rfl) ?_
    refine d_pure [(1, _)] rfl rfl ⟨⟨rfl, rfl⟩, trivial⟩ rfl (p_move rfl) ?_
    first | refine d_pure [(45, _), (46, _)] rfl rfl ⟨⟨rfl, rfl⟩, ⟨rfl, rfl⟩, trivial⟩ rfl (p_idx_sl rfl rfl Try.e63 Try.c44 (by first | assumption | (refine ⟨by omega, ?_⟩; first | assumption | exact strs_at (by omega) | exact strs_at (by simp only [List.length_cons] at *; omega) | exact ints_at (by omega) | exact map_at (by omega) | exact list_at (by omega)) | exact ⟨by decide, rfl⟩)) ?_ | refine d_pure [(45, _), (46, _)] rfl rfl ⟨⟨rfl, rfl⟩, ⟨rfl, rfl⟩, trivial⟩ rfl (p_idx_own rfl rfl Try.e63 Try.c44 (by omega)) ?_
    refine d_pure [(47, _)] rfl rfl ⟨⟨rfl, rfl⟩, trivial⟩ rfl (p_loadsr rfl Try.g44 Try.c44 rfl (own_bleQ (k := 4) (enc := stC) (z := p.length) (by omega) (atQ (p := p) (q := s2 ++ q) (by rw [hx1]; rfl) rfl) rfl) (own_takeQ (k := 4) (enc := stC) (z := p.length) (by omega) (atQ (p := p) (q := s2 ++ q) (by rw [hx1]; rfl) rfl) rfl)) ?_
    refine d_rstep [(40, _), (44, _), (48, _)] rfl rfl ⟨⟨rfl, rfl⟩, ⟨rfl, rfl⟩, ⟨rfl, rfl⟩, trivial⟩ rfl (r_call rfl rfl hent rfl (hcmp s2[h] x)) ?_
    refine d_pure [(49, _)] rfl rfl ⟨⟨rfl, rfl⟩, trivial⟩ rfl (p_bin rfl rfl rfl) ?_
    refine lex_end (sl' := [(0, _), (1, _), (4, _), (10, _), (11, _), (12, _), (50, _)]) rfl ⟨rfl, rfl, rfl, rfl, rfl, rfl, rfl, trivial⟩ rfl ?_
    refine hK9 _ ?_
    refine aw_cond_s rfl (fun hc3 => ?_) (fun hc3 => ?_)
    ·
     try simp only [bs] at hc3
     refine aw_region ?_
     refine x_pure rfl (p_move rfl) ?_
     first | refine x_pure rfl (p_add rfl rfl (by omega) (by omega)) ?_ | refine x_pure rfl (p_bin rfl rfl rfl) ?_
     refine x_pure rfl (p_assign rfl) ?_
     first | refine aops_end ?_ | refine aops_nil ?_
     first
     | exact ⟨(h + 1, j), ⟨by omega, by omega, fun z hz _ => by rw [Nat.add_sub_cancel, List.getElem?_eq_getElem hh2] at hz; cases hz; omega, q4⟩, by simp only; omega, le_to ⟨(by first | rfl | exact slot_int (by omega)), (by first | rfl | exact slot_int (by omega)), (by first | rfl | exact slot_int (by omega)), (by first | rfl | exact slot_int (by omega)), (by first | rfl | exact slot_int (by omega)), trivial⟩ rfl⟩
     | exact ⟨(i, h), ⟨by omega, by omega, q3, fun z hz => by rw [List.getElem?_eq_getElem hh2] at hz; cases hz; have := hc.swap s2[h] x; omega⟩, by simp only; omega, le_to ⟨(by first | rfl | exact slot_int (by omega)), (by first | rfl | exact slot_int (by omega)), (by first | rfl | exact slot_int (by omega)), (by first | rfl | exact slot_int (by omega)), (by first | rfl | exact slot_int (by omega)), trivial⟩ rfl⟩
    ·
     try simp only [bs] at hc3
     refine aw_region ?_
     refine x_pure rfl (p_move rfl) ?_
     refine x_pure rfl (p_assign rfl) ?_
     first | refine aops_end ?_ | refine aops_nil ?_
     first
     | exact ⟨(h + 1, j), ⟨by omega, by omega, fun z hz _ => by rw [Nat.add_sub_cancel, List.getElem?_eq_getElem hh2] at hz; cases hz; omega, q4⟩, by simp only; omega, le_to ⟨(by first | rfl | exact slot_int (by omega)), (by first | rfl | exact slot_int (by omega)), (by first | rfl | exact slot_int (by omega)), (by first | rfl | exact slot_int (by omega)), (by first | rfl | exact slot_int (by omega)), trivial⟩ rfl⟩
     | exact ⟨(i, h), ⟨by omega, by omega, q3, fun z hz => by rw [List.getElem?_eq_getElem hh2] at hz; cases hz; have := hc.swap s2[h] x; omega⟩, by simp only; omega, le_to ⟨(by first | rfl | exact slot_int (by omega)), (by first | rfl | exact slot_int (by omega)), (by first | rfl | exact slot_int (by omega)), (by first | rfl | exact slot_int (by omega)), (by first | rfl | exact slot_int (by omega)), trivial⟩ rfl⟩
   ·
    try simp only [bs] at hc2
    refine aw_exit ?_
    refine hK5 _ ?_
    refine aw_seq_k (fun K10 hK10 => ?_)
    refine aw_seq_k (fun K11 hK11 => ?_)
    refine aw_region ?_
    refine x_pure rfl (p_move rfl) ?_
    refine x_pure rfl (p_assign rfl) ?_
    first | refine aops_end ?_ | refine aops_nil ?_
    refine hK11 _ ?_
    refine aw_block ?_
    refine aw_loop (ι := Nat) (fun t => ⟨220, [(0, .own E0 4 0 N), (10, .s (.int .i64 ((p.length + s1.length + i : Nat) : Int))), (13, .s (.int .i64 ((p.length + t : Nat) : Int)))], [(E0, .buf 4 (List.map stC (p ++ (s2.take t ++ (x :: (s2.drop t ++ q))))))]⟩) (fun t => t ≤ i) (fun t => i - t) 0 ?_ ?_ ?_
    · exact Nat.zero_le _
    · exact le_to ⟨(by first | rfl | exact slot_int (by omega)), (by first | rfl | exact slot_int (by omega)), (by first | rfl | exact slot_int (by omega)), trivial⟩ (by rw [hx1]; rfl)
    ·
     rintro t hC
     have hq := hC
     refine aw_seq_k (fun K12 hK12 => ?_)
     refine aw_seq_k (fun K13 hK13 => ?_)
     refine aw_region ?_
     refine x_pure rfl (p_move rfl) ?_
     refine x_pure rfl (p_move rfl) ?_
     first | refine x_pure rfl (p_sub rfl rfl (by omega) (by omega)) ?_ | refine x_pure rfl (p_bin rfl rfl rfl) ?_
     refine x_pure rfl (p_bin rfl rfl rfl) ?_
     first | refine aops_end ?_ | refine aops_nil ?_
     refine hK13 _ ?_
     refine aw_cond_s rfl (fun hc4 => ?_) (fun hc4 => ?_)
     ·
      try simp only [bs] at hc4
      refine aw_skip ?_
      refine hK12 _ ?_
      refine aw_seq_k (fun K14 hK14 => ?_)
      refine aw_block ?_
      refine aw_region_any Try.mixed ?_
      refine af_step (listed' := #[true, false, false, false, false, false, false, false, false, false, false, false, false, false, false, false, false, false]) 0 rfl (by kernel_rfl) (by kernel_rfl) (by kernel_rfl) rfl (fun _ _ h => h) (w_move rfl) ?_
      refine af_step (listed' := #[true, true, false, false, false, false, false, false, false, false, false, false, false, false, false, false, false, false]) 1 rfl (by kernel_rfl) (by kernel_rfl) (by kernel_rfl) rfl (fun _ _ h => h) (w_move rfl) ?_
      refine af_step (listed' := #[true, true, true, false, false, false, false, false, false, false, false, false, false, false, false, false, false, false]) 2 rfl (by kernel_rfl) (by kernel_rfl) (by kernel_rfl) rfl (fun _ _ h => h) (w_move rfl) ?_
      refine af_step (listed' := #[true, true, true, true, false, false, false, false, false, false, false, false, false, false, false, false, false, false]) 3 rfl (by kernel_rfl) (by kernel_rfl) (by kernel_rfl) rfl (fun _ _ h => h) (w_move rfl) ?_
      first | refine af_step (listed' := #[true, true, true, true, true, false, false, false, false, false, false, false, false, false, false, false, false, false]) 4 rfl (by kernel_rfl) (by kernel_rfl) (by kernel_rfl) rfl (fun _ _ h => h) (w_add rfl rfl (by omega) (by omega)) ?_ | refine af_step (listed' := #[true, true, true, true, true, false, false, false, false, false, false, false, false, false, false, false, false, false]) 4 rfl (by kernel_rfl) (by kernel_rfl) (by kernel_rfl) rfl (fun _ _ h => h) (w_bin rfl rfl rfl) ?_
      refine af_step (listed' := #[true, true, true, true, true, true, false, false, false, false, false, false, false, false, false, false, false, false]) 5 rfl (by kernel_rfl) (by kernel_rfl) (by kernel_rfl) rfl (fun _ _ h => h) (w_move rfl) ?_
      refine af_step (listed' := #[true, true, true, true, true, true, true, false, false, false, false, false, false, false, false, false, false, false]) 6 rfl (by kernel_rfl) (by kernel_rfl) (by kernel_rfl) rfl (fun _ _ h => h) (w_move rfl) ?_
      first | refine af_step (listed' := #[true, true, true, true, true, true, true, true, false, false, false, false, false, false, false, false, false, false]) 7 rfl (by kernel_rfl) (by kernel_rfl) (by kernel_rfl) rfl (fun _ _ h => h) (w_add rfl rfl (by omega) (by omega)) ?_ | refine af_step (listed' := #[true, true, true, true, true, true, true, true, false, false, false, false, false, false, false, false, false, false]) 7 rfl (by kernel_rfl) (by kernel_rfl) (by kernel_rfl) rfl (fun _ _ h => h) (w_bin rfl rfl rfl) ?_
      first | refine af_step (listed' := #[true, true, true, true, true, true, true, true, true, false, false, false, false, false, false, false, false, false]) 8 rfl (by kernel_rfl) (by kernel_rfl) (by kernel_rfl) rfl (fun _ _ h => h) (w_idx_sl rfl rfl Try.e63 Try.c44 (by first | assumption | (refine ⟨by omega, ?_⟩; first | assumption | exact strs_at (by omega) | exact strs_at (by simp only [List.length_cons] at *; omega) | exact ints_at (by omega) | exact map_at (by omega) | exact list_at (by omega)) | exact ⟨by decide, rfl⟩)) ?_ | refine af_step (listed' := #[true, true, true, true, true, true, true, true, true, false, false, false, false, false, false, false, false, false]) 8 rfl (by kernel_rfl) (by kernel_rfl) (by kernel_rfl) rfl (fun _ _ h => h) (w_idx_own rfl rfl Try.e63 Try.c44 (by omega)) ?_
      refine af_step (listed' := #[true, true, true, true, true, true, true, true, true, false, true, false, false, false, false, false, false, false]) 10 rfl (by kernel_rfl) (by kernel_rfl) (by kernel_rfl) rfl (fun _ _ h => h) (w_move rfl) ?_
      refine af_step (listed' := #[true, true, true, true, true, true, true, true, true, false, true, true, false, false, false, false, false, false]) 11 rfl (by kernel_rfl) (by kernel_rfl) (by kernel_rfl) rfl (fun _ _ h => h) (w_move rfl) ?_
      first | refine af_step (listed' := #[true, true, true, true, true, true, true, true, true, false, true, true, true, false, false, false, false, false]) 12 rfl (by kernel_rfl) (by kernel_rfl) (by kernel_rfl) rfl (fun _ _ h => h) (w_idx_sl rfl rfl Try.e63 Try.c44 (by first | assumption | (refine ⟨by omega, ?_⟩; first | assumption | exact strs_at (by omega) | exact strs_at (by simp only [List.length_cons] at *; omega) | exact ints_at (by omega) | exact map_at (by omega) | exact list_at (by omega)) | exact ⟨by decide, rfl⟩)) ?_ | refine af_step (listed' := #[true, true, true, true, true, true, true, true, true, false, true, true, true, false, false, false, false, false]) 12 rfl (by kernel_rfl) (by kernel_rfl) (by kernel_rfl) rfl (fun _ _ h => h) (w_idx_own rfl rfl Try.e63 Try.c44 (by omega)) ?_
      refine aany_le (le_of (sl' := [(0, _), (10, _), (13, _), (61, _), (62, _), (63, _), (65, _), (69, _), (73, _)]) ⟨rfl, rfl, rfl, rfl, rfl, rfl, rfl, rfl, rfl, trivial⟩) ?_
      refine aany_step 9 [13] (by kernel_rfl) ⟨?_, ?_, trivial⟩
      ·
       refine ⟨_, rfl, rfl, ?_⟩
       refine aop_of_aops (ops := #[]) rfl ?_
       refine x_pure rfl (p_loadsr rfl Try.g44 Try.c44 rfl (own_bleQ (k := 4) (enc := stC) (z := p.length + t + 1) (by omega) (atQ (p := p ++ (s2.take t ++ [x])) (q := s2.drop (t + 1) ++ q) (x := s2[t]) (by rw [List.drop_eq_getElem_cons (show t < s2.length by omega)]; simp only [List.append_assoc, List.cons_append, List.nil_append]) (by simp only [List.length_append, List.length_take, List.length_cons, List.length_nil]; omega)) rfl) (own_takeQ (k := 4) (enc := stC) (z := p.length + t + 1) (by omega) (atQ (p := p ++ (s2.take t ++ [x])) (q := s2.drop (t + 1) ++ q) (x := s2[t]) (by rw [List.drop_eq_getElem_cons (show t < s2.length by omega)]; simp only [List.append_assoc, List.cons_append, List.nil_append]) (by simp only [List.length_append, List.length_take, List.length_cons, List.length_nil]; omega)) rfl)) ?_
       refine aops_any ?_
       refine aany_step 13 [] (by kernel_rfl) ⟨?_, trivial⟩
       ·
        refine ⟨_, rfl, rfl, ?_⟩
        refine aop_of_aops (ops := #[]) rfl ?_
        refine x_pure rfl (p_loadsr rfl Try.g44 Try.c44 rfl (own_bleQ (k := 4) (enc := stC) (z := p.length + t) (by omega) (atQ (p := p ++ s2.take t) (q := s2.drop t ++ q) (x := x) (by simp only [List.append_assoc]) (by (try simp only [List.length_take, List.length_drop, List.length_append]); omega)) rfl) (own_takeQ (k := 4) (enc := stC) (z := p.length + t) (by omega) (atQ (p := p ++ s2.take t) (q := s2.drop t ++ q) (x := x) (by simp only [List.append_assoc]) (by (try simp only [List.length_take, List.length_drop, List.length_append]); omega)) rfl)) ?_
        refine aops_any ?_
        refine aany_step 14 [] (by kernel_rfl) ⟨?_, trivial⟩
        ·
         refine ⟨_, rfl, rfl, ?_⟩
         refine aop_of_aops (ops := #[]) rfl ?_
         first | refine x_pure rfl (p_idx_sl rfl rfl Try.e63 Try.c44 (by first | assumption | (refine ⟨by omega, ?_⟩; first | assumption | exact strs_at (by omega) | exact strs_at (by simp only [List.length_cons] at *; omega) | exact ints_at (by omega) | exact map_at (by omega) | exact list_at (by omega)) | exact ⟨by decide, rfl⟩)) ?_ | refine x_pure rfl (p_idx_own rfl rfl Try.e63 Try.c44 (by omega)) ?_
         refine aops_any ?_
         refine aany_step 15 [] (by kernel_rfl) ⟨?_, trivial⟩
         ·
          refine ⟨_, rfl, rfl, ?_⟩
          refine aop_of_aops (ops := #[]) rfl ?_
          refine x_store hf rfl rfl Try.c44 rfl rfl (by simp [stC, AV.cells, AV.one, Value.oneCell']) (by simp [stC, AV.cells, AV.leaf, Value.oneCell']) (own_storeQ (k := 4) (enc := stC) (z := p.length + t) (v := s2[t]) (by omega) (by simp only [List.length_append, List.length_cons, List.length_set, List.length_take, List.length_drop]; omega) rfl rfl rfl) ?_
          refine aops_any ?_
          refine aany_step 16 [] (by kernel_rfl) ⟨?_, trivial⟩
          ·
           refine ⟨_, rfl, rfl, ?_⟩
           refine aop_of_aops (ops := #[]) rfl ?_
           first | refine x_pure rfl (p_idx_sl rfl rfl Try.e63 Try.c44 (by first | assumption | (refine ⟨by omega, ?_⟩; first | assumption | exact strs_at (by omega) | exact strs_at (by simp only [List.length_cons] at *; omega) | exact ints_at (by omega) | exact map_at (by omega) | exact list_at (by omega)) | exact ⟨by decide, rfl⟩)) ?_ | refine x_pure rfl (p_idx_own rfl rfl Try.e63 Try.c44 (by omega)) ?_
           refine aops_any ?_
           refine aany_step 17 [] (by kernel_rfl) ⟨?_, trivial⟩
           ·
            refine ⟨_, rfl, rfl, ?_⟩
            refine aop_of_aops (ops := #[]) rfl ?_
            refine x_store hf rfl rfl Try.c44 rfl rfl (by simp [stC, AV.cells, AV.one, Value.oneCell']) (by simp [stC, AV.cells, AV.leaf, Value.oneCell']) (own_storeQ (k := 4) (enc := stC) (z := p.length + t + 1) (v := x) (by omega) (by simp only [List.length_append, List.length_cons, List.length_set, List.length_take, List.length_drop]; omega) rfl rfl rfl) ?_
            refine aops_any ?_
            refine aany_end (by kernel_rfl) ?_
            refine hK14 _ ?_
            refine aw_region ?_
            refine x_pure rfl (p_move rfl) ?_
            first | refine x_pure rfl (p_add rfl rfl (by omega) (by omega)) ?_ | refine x_pure rfl (p_bin rfl rfl rfl) ?_
            refine x_pure rfl (p_assign rfl) ?_
            first | refine aops_end ?_ | refine aops_nil ?_
            exact ⟨t + 1, by omega, by omega, le_to ⟨(by first | rfl | exact slot_int (by omega)), (by first | rfl | exact slot_int (by omega)), (by first | rfl | exact slot_int (by omega)), trivial⟩ (congrArg (fun l => [(E0, AM.buf 4 (List.map stC l))]) ((swap_up (p := p ++ s2.take t) (x := x) (y := s2[t]) (q := s2.drop (t + 1) ++ q) (by rw [List.drop_eq_getElem_cons (show t < s2.length by omega)]; simp only [List.append_assoc, List.cons_append]) (by (try simp only [List.length_take, List.length_drop, List.length_append]); omega) (by (try simp only [List.length_take, List.length_drop, List.length_append]); omega)).trans (by rw [← List.take_append_getElem (show t < s2.length by omega)]; simp only [List.append_assoc, List.cons_append, List.nil_append])))⟩
      ·
       refine ⟨_, rfl, rfl, ?_⟩
       refine aop_of_aops (ops := #[]) rfl ?_
       refine x_pure rfl (p_loadsr rfl Try.g44 Try.c44 rfl (own_bleQ (k := 4) (enc := stC) (z := p.length + t) (by omega) (atQ (p := p ++ s2.take t) (q := s2.drop t ++ q) (x := x) (by simp only [List.append_assoc]) (by (try simp only [List.length_take, List.length_drop, List.length_append]); omega)) rfl) (own_takeQ (k := 4) (enc := stC) (z := p.length + t) (by omega) (atQ (p := p ++ s2.take t) (q := s2.drop t ++ q) (x := x) (by simp only [List.append_assoc]) (by (try simp only [List.length_take, List.length_drop, List.length_append]); omega)) rfl)) ?_
       refine aops_any ?_
       refine aany_step 9 [] (by kernel_rfl) ⟨?_, trivial⟩
       ·
        refine ⟨_, rfl, rfl, ?_⟩
        refine aop_of_aops (ops := #[]) rfl ?_
        refine x_pure rfl (p_loadsr rfl Try.g44 Try.c44 rfl (own_bleQ (k := 4) (enc := stC) (z := p.length + t + 1) (by omega) (atQ (p := p ++ (s2.take t ++ [x])) (q := s2.drop (t + 1) ++ q) (x := s2[t]) (by rw [List.drop_eq_getElem_cons (show t < s2.length by omega)]; simp only [List.append_assoc, List.cons_append, List.nil_append]) (by simp only [List.length_append, List.length_take, List.length_cons, List.length_nil]; omega)) rfl) (own_takeQ (k := 4) (enc := stC) (z := p.length + t + 1) (by omega) (atQ (p := p ++ (s2.take t ++ [x])) (q := s2.drop (t + 1) ++ q) (x := s2[t]) (by rw [List.drop_eq_getElem_cons (show t < s2.length by omega)]; simp only [List.append_assoc, List.cons_append, List.nil_append]) (by simp only [List.length_append, List.length_take, List.length_cons, List.length_nil]; omega)) rfl)) ?_
        refine aops_any ?_
        refine aany_step 14 [] (by kernel_rfl) ⟨?_, trivial⟩
        ·
         refine ⟨_, rfl, rfl, ?_⟩
         refine aop_of_aops (ops := #[]) rfl ?_
         first | refine x_pure rfl (p_idx_sl rfl rfl Try.e63 Try.c44 (by first | assumption | (refine ⟨by omega, ?_⟩; first | assumption | exact strs_at (by omega) | exact strs_at (by simp only [List.length_cons] at *; omega) | exact ints_at (by omega) | exact map_at (by omega) | exact list_at (by omega)) | exact ⟨by decide, rfl⟩)) ?_ | refine x_pure rfl (p_idx_own rfl rfl Try.e63 Try.c44 (by omega)) ?_
         refine aops_any ?_
         refine aany_step 15 [] (by kernel_rfl) ⟨?_, trivial⟩
         ·
          refine ⟨_, rfl, rfl, ?_⟩
          refine aop_of_aops (ops := #[]) rfl ?_
          refine x_store hf rfl rfl Try.c44 rfl rfl (by simp [stC, AV.cells, AV.one, Value.oneCell']) (by simp [stC, AV.cells, AV.leaf, Value.oneCell']) (own_storeQ (k := 4) (enc := stC) (z := p.length + t) (v := s2[t]) (by omega) (by simp only [List.length_append, List.length_cons, List.length_set, List.length_take, List.length_drop]; omega) rfl rfl rfl) ?_
          refine aops_any ?_
          refine aany_step 16 [] (by kernel_rfl) ⟨?_, trivial⟩
          ·
           refine ⟨_, rfl, rfl, ?_⟩
           refine aop_of_aops (ops := #[]) rfl ?_
           first | refine x_pure rfl (p_idx_sl rfl rfl Try.e63 Try.c44 (by first | assumption | (refine ⟨by omega, ?_⟩; first | assumption | exact strs_at (by omega) | exact strs_at (by simp only [List.length_cons] at *; omega) | exact ints_at (by omega) | exact map_at (by omega) | exact list_at (by omega)) | exact ⟨by decide, rfl⟩)) ?_ | refine x_pure rfl (p_idx_own rfl rfl Try.e63 Try.c44 (by omega)) ?_
           refine aops_any ?_
           refine aany_step 17 [] (by kernel_rfl) ⟨?_, trivial⟩
           ·
            refine ⟨_, rfl, rfl, ?_⟩
            refine aop_of_aops (ops := #[]) rfl ?_
            refine x_store hf rfl rfl Try.c44 rfl rfl (by simp [stC, AV.cells, AV.one, Value.oneCell']) (by simp [stC, AV.cells, AV.leaf, Value.oneCell']) (own_storeQ (k := 4) (enc := stC) (z := p.length + t + 1) (v := x) (by omega) (by simp only [List.length_append, List.length_cons, List.length_set, List.length_take, List.length_drop]; omega) rfl rfl rfl) ?_
            refine aops_any ?_
            refine aany_end (by kernel_rfl) ?_
            refine hK14 _ ?_
            refine aw_region ?_
            refine x_pure rfl (p_move rfl) ?_
            first | refine x_pure rfl (p_add rfl rfl (by omega) (by omega)) ?_ | refine x_pure rfl (p_bin rfl rfl rfl) ?_
            refine x_pure rfl (p_assign rfl) ?_
            first | refine aops_end ?_ | refine aops_nil ?_
            exact ⟨t + 1, by omega, by omega, le_to ⟨(by first | rfl | exact slot_int (by omega)), (by first | rfl | exact slot_int (by omega)), (by first | rfl | exact slot_int (by omega)), trivial⟩ (congrArg (fun l => [(E0, AM.buf 4 (List.map stC l))]) ((swap_up (p := p ++ s2.take t) (x := x) (y := s2[t]) (q := s2.drop (t + 1) ++ q) (by rw [List.drop_eq_getElem_cons (show t < s2.length by omega)]; simp only [List.append_assoc, List.cons_append]) (by (try simp only [List.length_take, List.length_drop, List.length_append]); omega) (by (try simp only [List.length_take, List.length_drop, List.length_append]); omega)).trans (by rw [← List.take_append_getElem (show t < s2.length by omega)]; simp only [List.append_assoc, List.cons_append, List.nil_append])))⟩
     ·
      try simp only [bs] at hc4
      refine aw_exit ?_
      refine hK10 _ ?_
      refine aw_ret ?_
      have hti : t = i := by omega
      subst hti
      have hij : t = j := by omega
      subst hij
      exact ⟨_, _, _, Le.refl _, rfl, rfl, s2.take t ++ x :: s2.drop t, by rw [hx1]; exact put_perm, put_srtQ hc hs2 (by omega) q3 q4, by simp only [List.append_assoc, List.cons_append]⟩
 ·
  try simp only [bs] at hc1
  refine aw_skip ?_
  refine hK1 _ ?_
  refine aw_seq_k (fun K15 hK15 => ?_)
  refine aw_seq_k (fun K16 hK16 => ?_)
  refine aw_region ?_
  refine x_pure rfl (p_move rfl) ?_
  refine x_pure rfl (p_move rfl) ?_
  first | refine x_pure rfl (p_sub rfl rfl (by omega) (by omega)) ?_ | refine x_pure rfl (p_bin rfl rfl rfl) ?_
  refine x_pure rfl (p_bin rfl rfl rfl) ?_
  first | refine aops_end ?_ | refine aops_nil ?_
  refine hK16 _ ?_
  refine aw_cond_s rfl (fun hc5 => ?_) (fun hc5 => ?_)
  ·
   try simp only [bs] at hc5
   obtain ⟨x, hx2⟩ : ∃ x, s2 = [x] := List.length_eq_one_iff.1 (by omega)
   have hl2 : s2.length = 1 := by rw [hx2]; rfl
   refine aw_seq_k (fun K17 hK17 => ?_)
   refine aw_region ?_
   refine x_pure rfl (p_move rfl) ?_
   refine x_pure rfl (p_assign rfl) ?_
   first | refine aops_end ?_ | refine aops_nil ?_
   refine hK17 _ ?_
   refine aw_seq_k (fun K18 hK18 => ?_)
   refine aw_region ?_
   refine x_pure rfl (p_move rfl) ?_
   refine x_pure rfl (p_assign rfl) ?_
   first | refine aops_end ?_ | refine aops_nil ?_
   refine hK18 _ ?_
   refine aw_seq_k (fun K19 hK19 => ?_)
   refine aw_block ?_
   refine aw_loop (ι := Nat × Nat) (fun (⟨i, j⟩ : Nat × Nat) => ⟨220, [(0, .own E0 4 0 N), (2, .s (.int .i64 ((p.length + s1.length : Nat) : Int))), (4, .fn g []), (14, .s (.int .i64 ((p.length + i : Nat) : Int))), (15, .s (.int .i64 ((p.length + j : Nat) : Int)))], [(E0, .buf 4 (List.map stC (p ++ (s1 ++ (s2 ++ q)))))]⟩) (fun (⟨i, j⟩ : Nat × Nat) => i ≤ j ∧ j ≤ s1.length ∧ (∀ z, s1[i - 1]? = some z → 0 < i → c z x ≤ 0) ∧ (∀ z, s1[j]? = some z → c x z ≤ 0)) (fun (⟨i, j⟩ : Nat × Nat) => j - i) (0, s1.length) ?_ ?_ ?_
   · exact ⟨Nat.zero_le _, Nat.le_refl _, fun _ _ h => absurd h (by omega), fun z hz => by rw [List.getElem?_eq_none (Nat.le_refl _)] at hz; cases hz⟩
   · exact le_to ⟨(by first | rfl | exact slot_int (by omega)), (by first | rfl | exact slot_int (by omega)), (by first | rfl | exact slot_int (by omega)), (by first | rfl | exact slot_int (by omega)), (by first | rfl | exact slot_int (by omega)), trivial⟩ rfl
   ·
    rintro ⟨i, j⟩ hC
    obtain ⟨q1, q2, q3, q4⟩ := hC
    refine aw_seq_k (fun K20 hK20 => ?_)
    refine aw_seq_k (fun K21 hK21 => ?_)
    refine aw_region ?_
    refine x_pure rfl (p_move rfl) ?_
    refine x_pure rfl (p_move rfl) ?_
    refine x_pure rfl (p_bin rfl rfl rfl) ?_
    first | refine aops_end ?_ | refine aops_nil ?_
    refine hK21 _ ?_
    refine aw_cond_s rfl (fun hc6 => ?_) (fun hc6 => ?_)
    ·
     try simp only [bs] at hc6
     refine aw_skip ?_
     refine hK20 _ ?_
     refine aw_block ?_
     refine aw_seq_k (fun K22 hK22 => ?_)
     refine aw_region ?_
     obtain ⟨h, eh⟩ : ∃ h, h = (i + j) / 2 := ⟨_, rfl⟩
     have hz := half_z (a := ((p.length + i : Nat) : Int) + ((p.length + j : Nat) : Int)) (b := ((p.length + h : Nat) : Int)) (by omega) (by omega) (by omega)
     refine x_pure rfl (p_move rfl) ?_
     refine x_pure rfl (p_move rfl) ?_
     first | refine x_pure rfl (p_add rfl rfl (by omega) (by omega)) ?_ | refine x_pure rfl (p_bin rfl rfl rfl) ?_
     refine x_pure rfl (p_conv rfl Try.underlying3 Try.underlying116 hz.1) ?_
     refine x_pure rfl (p_half rfl hz.2.1 (by decide)) ?_
     refine x_pure rfl (p_conv rfl Try.underlying116 Try.underlying3 hz.2.2) ?_
     refine x_pure rfl (p_assign rfl) ?_
     first | refine aops_end ?_ | refine aops_nil ?_
     refine hK22 _ ?_
     refine aw_seq_k (fun K23 hK23 => ?_)
     refine aw_draw hf Try.mixed (by kernel_rfl) rfl ?_
     have hh2 : h < s1.length := by omega
     refine d_pure [(4, _)] rfl rfl ⟨⟨rfl, rfl⟩, trivial⟩ rfl (p_move rfl) ?_
     refine d_pure [(0, _)] rfl rfl ⟨⟨rfl, rfl⟩, trivial⟩ rfl (p_move rfl) ?_
     refine d_pure [(2, _)] rfl rfl ⟨⟨rfl, rfl⟩, trivial⟩ rfl (p_move rfl) ?_
     first | refine d_pure [(93, _), (94, _)] rfl rfl ⟨⟨rfl, rfl⟩, ⟨rfl, rfl⟩, trivial⟩ rfl (p_idx_sl rfl rfl Try.e63 Try.c44 (by first | assumption | (refine ⟨by omega, ?_⟩; first | assumption | exact strs_at (by omega) | exact strs_at (by simp only [List.length_cons] at *; omega) | exact ints_at (by omega) | exact map_at (by omega) | exact list_at (by omega)) | exact ⟨by decide, rfl⟩)) ?_ | refine d_pure [(93, _), (94, _)] rfl rfl ⟨⟨rfl, rfl⟩, ⟨rfl, rfl⟩, trivial⟩ rfl (p_idx_own rfl rfl Try.e63 Try.c44 (by omega)) ?_
     refine d_pure [(95, _)] rfl rfl ⟨⟨rfl, rfl⟩, trivial⟩ rfl (p_loadsr rfl Try.g44 Try.c44 rfl (own_bleQ (k := 4) (enc := stC) (z := p.length + s1.length) (by omega) (atQ (p := p ++ s1) (q := q) (x := x) (by rw [hx2]; simp) (by simp)) rfl) (own_takeQ (k := 4) (enc := stC) (z := p.length + s1.length) (by omega) (atQ (p := p ++ s1) (q := q) (x := x) (by rw [hx2]; simp) (by simp)) rfl)) ?_
     refine d_pure [(0, _)] rfl rfl ⟨⟨rfl, rfl⟩, trivial⟩ rfl (p_move rfl) ?_
     refine d_pure [(16, _)] rfl rfl ⟨⟨rfl, rfl⟩, trivial⟩ rfl (p_move rfl) ?_
     first | refine d_pure [(97, _), (98, _)] rfl rfl ⟨⟨rfl, rfl⟩, ⟨rfl, rfl⟩, trivial⟩ rfl (p_idx_sl rfl rfl Try.e63 Try.c44 (by first | assumption | (refine ⟨by omega, ?_⟩; first | assumption | exact strs_at (by omega) | exact strs_at (by simp only [List.length_cons] at *; omega) | exact ints_at (by omega) | exact map_at (by omega) | exact list_at (by omega)) | exact ⟨by decide, rfl⟩)) ?_ | refine d_pure [(97, _), (98, _)] rfl rfl ⟨⟨rfl, rfl⟩, ⟨rfl, rfl⟩, trivial⟩ rfl (p_idx_own rfl rfl Try.e63 Try.c44 (by omega)) ?_
     refine d_pure [(99, _)] rfl rfl ⟨⟨rfl, rfl⟩, trivial⟩ rfl (p_loadsr rfl Try.g44 Try.c44 rfl (own_bleQ (k := 4) (enc := stC) (z := p.length + h) (by omega) (atL hh2) rfl) (own_takeQ (k := 4) (enc := stC) (z := p.length + h) (by omega) (atL hh2) rfl)) ?_
     refine d_rstep [(92, _), (96, _), (100, _)] rfl rfl ⟨⟨rfl, rfl⟩, ⟨rfl, rfl⟩, ⟨rfl, rfl⟩, trivial⟩ rfl (r_call rfl rfl hent rfl (hcmp x s1[h])) ?_
     refine d_pure [(101, _)] rfl rfl ⟨⟨rfl, rfl⟩, trivial⟩ rfl (p_bin rfl rfl rfl) ?_
     refine d_pure [(102, _)] rfl rfl ⟨⟨rfl, rfl⟩, trivial⟩ rfl (p_not rfl) ?_
     refine lex_end (sl' := [(0, _), (2, _), (4, _), (14, _), (15, _), (16, _), (103, _)]) rfl ⟨rfl, rfl, rfl, rfl, rfl, rfl, rfl, trivial⟩ rfl ?_
     refine hK23 _ ?_
     refine aw_cond_s rfl (fun hc7 => ?_) (fun hc7 => ?_)
     ·
      try simp only [bs] at hc7
      refine aw_region ?_
      refine x_pure rfl (p_move rfl) ?_
      first | refine x_pure rfl (p_add rfl rfl (by omega) (by omega)) ?_ | refine x_pure rfl (p_bin rfl rfl rfl) ?_
      refine x_pure rfl (p_assign rfl) ?_
      first | refine aops_end ?_ | refine aops_nil ?_
      first
      | exact ⟨(h + 1, j), ⟨by omega, by omega, fun z hz _ => by rw [Nat.add_sub_cancel, List.getElem?_eq_getElem hh2] at hz; cases hz; have := hc.swap x s1[h]; omega, q4⟩, by simp only; omega, le_to ⟨(by first | rfl | exact slot_int (by omega)), (by first | rfl | exact slot_int (by omega)), (by first | rfl | exact slot_int (by omega)), (by first | rfl | exact slot_int (by omega)), (by first | rfl | exact slot_int (by omega)), trivial⟩ rfl⟩
      | exact ⟨(i, h), ⟨by omega, by omega, q3, fun z hz => by rw [List.getElem?_eq_getElem hh2] at hz; cases hz; omega⟩, by simp only; omega, le_to ⟨(by first | rfl | exact slot_int (by omega)), (by first | rfl | exact slot_int (by omega)), (by first | rfl | exact slot_int (by omega)), (by first | rfl | exact slot_int (by omega)), (by first | rfl | exact slot_int (by omega)), trivial⟩ rfl⟩
     ·
      try simp only [bs] at hc7
      refine aw_region ?_
      refine x_pure rfl (p_move rfl) ?_
      refine x_pure rfl (p_assign rfl) ?_
      first | refine aops_end ?_ | refine aops_nil ?_
      first
      | exact ⟨(h + 1, j), ⟨by omega, by omega, fun z hz _ => by rw [Nat.add_sub_cancel, List.getElem?_eq_getElem hh2] at hz; cases hz; have := hc.swap x s1[h]; omega, q4⟩, by simp only; omega, le_to ⟨(by first | rfl | exact slot_int (by omega)), (by first | rfl | exact slot_int (by omega)), (by first | rfl | exact slot_int (by omega)), (by first | rfl | exact slot_int (by omega)), (by first | rfl | exact slot_int (by omega)), trivial⟩ rfl⟩
      | exact ⟨(i, h), ⟨by omega, by omega, q3, fun z hz => by rw [List.getElem?_eq_getElem hh2] at hz; cases hz; omega⟩, by simp only; omega, le_to ⟨(by first | rfl | exact slot_int (by omega)), (by first | rfl | exact slot_int (by omega)), (by first | rfl | exact slot_int (by omega)), (by first | rfl | exact slot_int (by omega)), (by first | rfl | exact slot_int (by omega)), trivial⟩ rfl⟩
    ·
     try simp only [bs] at hc6
     refine aw_exit ?_
     refine hK19 _ ?_
     refine aw_seq_k (fun K24 hK24 => ?_)
     refine aw_seq_k (fun K25 hK25 => ?_)
     refine aw_region ?_
     refine x_pure rfl (p_move rfl) ?_
     refine x_pure rfl (p_assign rfl) ?_
     first | refine aops_end ?_ | refine aops_nil ?_
     refine hK25 _ ?_
     refine aw_block ?_
     refine aw_loop (ι := Nat) (fun t => ⟨220, [(0, .own E0 4 0 N), (14, .s (.int .i64 ((p.length + i : Nat) : Int))), (17, .s (.int .i64 ((p.length + t : Nat) : Int)))], [(E0, .buf 4 (List.map stC (p ++ (s1.take t ++ (x :: (s1.drop t ++ q))))))]⟩) (fun t => i ≤ t ∧ t ≤ s1.length) (fun t => t) s1.length ?_ ?_ ?_
     · exact ⟨by omega, Nat.le_refl _⟩
     · exact le_to ⟨(by first | rfl | exact slot_int (by omega)), (by first | rfl | exact slot_int (by omega)), (by first | rfl | exact slot_int (by omega)), trivial⟩ (by rw [hx2, List.take_length, List.drop_length]; rfl)
     ·
      rintro t hC
      obtain ⟨hq, hq2⟩ := hC
      refine aw_seq_k (fun K26 hK26 => ?_)
      refine aw_seq_k (fun K27 hK27 => ?_)
      refine aw_region ?_
      refine x_pure rfl (p_move rfl) ?_
      refine x_pure rfl (p_move rfl) ?_
      refine x_pure rfl (p_bin rfl rfl rfl) ?_
      first | refine aops_end ?_ | refine aops_nil ?_
      refine hK27 _ ?_
      refine aw_cond_s rfl (fun hc8 => ?_) (fun hc8 => ?_)
      ·
       try simp only [bs] at hc8
       refine aw_skip ?_
       refine hK26 _ ?_
       refine aw_seq_k (fun K28 hK28 => ?_)
       refine aw_block ?_
       refine aw_region_any Try.mixed ?_
       have hsp : p ++ (s1.take t ++ (x :: (s1.drop t ++ q))) = (p ++ s1.take (t - 1)) ++ s1[t - 1] :: x :: (s1.drop t ++ q) := by
        rw [show s1.take t = s1.take (t - 1) ++ [s1[t - 1]] from by rw [List.take_append_getElem (show t - 1 < s1.length by omega), show t - 1 + 1 = t by omega]]
        simp only [List.append_assoc, List.cons_append, List.nil_append]
       refine af_step (listed' := #[true, false, false, false, false, false, false, false, false, false, false, false, false, false, false, false, false, false]) 0 rfl (by kernel_rfl) (by kernel_rfl) (by kernel_rfl) rfl (fun _ _ h => h) (w_move rfl) ?_
       refine af_step (listed' := #[true, true, false, false, false, false, false, false, false, false, false, false, false, false, false, false, false, false]) 1 rfl (by kernel_rfl) (by kernel_rfl) (by kernel_rfl) rfl (fun _ _ h => h) (w_move rfl) ?_
       refine af_step (listed' := #[true, true, true, false, false, false, false, false, false, false, false, false, false, false, false, false, false, false]) 2 rfl (by kernel_rfl) (by kernel_rfl) (by kernel_rfl) rfl (fun _ _ h => h) (w_move rfl) ?_
       refine af_step (listed' := #[true, true, true, true, false, false, false, false, false, false, false, false, false, false, false, false, false, false]) 3 rfl (by kernel_rfl) (by kernel_rfl) (by kernel_rfl) rfl (fun _ _ h => h) (w_move rfl) ?_
       first | refine af_step (listed' := #[true, true, true, true, true, false, false, false, false, false, false, false, false, false, false, false, false, false]) 4 rfl (by kernel_rfl) (by kernel_rfl) (by kernel_rfl) rfl (fun _ _ h => h) (w_sub rfl rfl (by omega) (by omega)) ?_ | refine af_step (listed' := #[true, true, true, true, true, false, false, false, false, false, false, false, false, false, false, false, false, false]) 4 rfl (by kernel_rfl) (by kernel_rfl) (by kernel_rfl) rfl (fun _ _ h => h) (w_bin rfl rfl rfl) ?_
       refine af_step (listed' := #[true, true, true, true, true, true, false, false, false, false, false, false, false, false, false, false, false, false]) 5 rfl (by kernel_rfl) (by kernel_rfl) (by kernel_rfl) rfl (fun _ _ h => h) (w_move rfl) ?_
       refine af_step (listed' := #[true, true, true, true, true, true, true, false, false, false, false, false, false, false, false, false, false, false]) 6 rfl (by kernel_rfl) (by kernel_rfl) (by kernel_rfl) rfl (fun _ _ h => h) (w_move rfl) ?_
       first | refine af_step (listed' := #[true, true, true, true, true, true, true, true, false, false, false, false, false, false, false, false, false, false]) 7 rfl (by kernel_rfl) (by kernel_rfl) (by kernel_rfl) rfl (fun _ _ h => h) (w_sub rfl rfl (by omega) (by omega)) ?_ | refine af_step (listed' := #[true, true, true, true, true, true, true, true, false, false, false, false, false, false, false, false, false, false]) 7 rfl (by kernel_rfl) (by kernel_rfl) (by kernel_rfl) rfl (fun _ _ h => h) (w_bin rfl rfl rfl) ?_
       first | refine af_step (listed' := #[true, true, true, true, true, true, true, true, true, false, false, false, false, false, false, false, false, false]) 8 rfl (by kernel_rfl) (by kernel_rfl) (by kernel_rfl) rfl (fun _ _ h => h) (w_idx_sl rfl rfl Try.e63 Try.c44 (by first | assumption | (refine ⟨by omega, ?_⟩; first | assumption | exact strs_at (by omega) | exact strs_at (by simp only [List.length_cons] at *; omega) | exact ints_at (by omega) | exact map_at (by omega) | exact list_at (by omega)) | exact ⟨by decide, rfl⟩)) ?_ | refine af_step (listed' := #[true, true, true, true, true, true, true, true, true, false, false, false, false, false, false, false, false, false]) 8 rfl (by kernel_rfl) (by kernel_rfl) (by kernel_rfl) rfl (fun _ _ h => h) (w_idx_own rfl rfl Try.e63 Try.c44 (by omega)) ?_
       refine af_step (listed' := #[true, true, true, true, true, true, true, true, true, false, true, false, false, false, false, false, false, false]) 10 rfl (by kernel_rfl) (by kernel_rfl) (by kernel_rfl) rfl (fun _ _ h => h) (w_move rfl) ?_
       refine af_step (listed' := #[true, true, true, true, true, true, true, true, true, false, true, true, false, false, false, false, false, false]) 11 rfl (by kernel_rfl) (by kernel_rfl) (by kernel_rfl) rfl (fun _ _ h => h) (w_move rfl) ?_
       first | refine af_step (listed' := #[true, true, true, true, true, true, true, true, true, false, true, true, true, false, false, false, false, false]) 12 rfl (by kernel_rfl) (by kernel_rfl) (by kernel_rfl) rfl (fun _ _ h => h) (w_idx_sl rfl rfl Try.e63 Try.c44 (by first | assumption | (refine ⟨by omega, ?_⟩; first | assumption | exact strs_at (by omega) | exact strs_at (by simp only [List.length_cons] at *; omega) | exact ints_at (by omega) | exact map_at (by omega) | exact list_at (by omega)) | exact ⟨by decide, rfl⟩)) ?_ | refine af_step (listed' := #[true, true, true, true, true, true, true, true, true, false, true, true, true, false, false, false, false, false]) 12 rfl (by kernel_rfl) (by kernel_rfl) (by kernel_rfl) rfl (fun _ _ h => h) (w_idx_own rfl rfl Try.e63 Try.c44 (by omega)) ?_
       refine aany_le (le_of (sl' := [(0, _), (14, _), (17, _), (113, _), (114, _), (115, _), (117, _), (121, _), (125, _)]) ⟨rfl, rfl, rfl, rfl, rfl, rfl, rfl, rfl, rfl, trivial⟩) ?_
       refine aany_step 9 [13] (by kernel_rfl) ⟨?_, ?_, trivial⟩
       ·
        refine ⟨_, rfl, rfl, ?_⟩
        refine aop_of_aops (ops := #[]) rfl ?_
        refine x_pure rfl (p_loadsr rfl Try.g44 Try.c44 rfl (own_bleQ (k := 4) (enc := stC) (z := p.length + (t - 1)) (by omega) (atQ (p := p ++ s1.take (t - 1)) (q := x :: (s1.drop t ++ q)) (x := s1[t - 1]) hsp (by (try simp only [List.length_take, List.length_drop, List.length_append]); omega)) rfl) (own_takeQ (k := 4) (enc := stC) (z := p.length + (t - 1)) (by omega) (atQ (p := p ++ s1.take (t - 1)) (q := x :: (s1.drop t ++ q)) (x := s1[t - 1]) hsp (by (try simp only [List.length_take, List.length_drop, List.length_append]); omega)) rfl)) ?_
        refine aops_any ?_
        refine aany_step 13 [] (by kernel_rfl) ⟨?_, trivial⟩
        ·
         refine ⟨_, rfl, rfl, ?_⟩
         refine aop_of_aops (ops := #[]) rfl ?_
         refine x_pure rfl (p_loadsr rfl Try.g44 Try.c44 rfl (own_bleQ (k := 4) (enc := stC) (z := p.length + t) (by omega) (atQ (p := p ++ s1.take t) (q := s1.drop t ++ q) (x := x) (by simp only [List.append_assoc]) (by (try simp only [List.length_take, List.length_drop, List.length_append]); omega)) rfl) (own_takeQ (k := 4) (enc := stC) (z := p.length + t) (by omega) (atQ (p := p ++ s1.take t) (q := s1.drop t ++ q) (x := x) (by simp only [List.append_assoc]) (by (try simp only [List.length_take, List.length_drop, List.length_append]); omega)) rfl)) ?_
         refine aops_any ?_
         refine aany_step 14 [] (by kernel_rfl) ⟨?_, trivial⟩
         ·
          refine ⟨_, rfl, rfl, ?_⟩
          refine aop_of_aops (ops := #[]) rfl ?_
          first | refine x_pure rfl (p_idx_sl rfl rfl Try.e63 Try.c44 (by first | assumption | (refine ⟨by omega, ?_⟩; first | assumption | exact strs_at (by omega) | exact strs_at (by simp only [List.length_cons] at *; omega) | exact ints_at (by omega) | exact map_at (by omega) | exact list_at (by omega)) | exact ⟨by decide, rfl⟩)) ?_ | refine x_pure rfl (p_idx_own rfl rfl Try.e63 Try.c44 (by omega)) ?_
          refine aops_any ?_
          refine aany_step 15 [] (by kernel_rfl) ⟨?_, trivial⟩
          ·
           refine ⟨_, rfl, rfl, ?_⟩
           refine aop_of_aops (ops := #[]) rfl ?_
           refine x_store hf rfl rfl Try.c44 rfl rfl (by simp [stC, AV.cells, AV.one, Value.oneCell']) (by simp [stC, AV.cells, AV.leaf, Value.oneCell']) (own_storeQ (k := 4) (enc := stC) (z := p.length + t) (v := s1[t - 1]) (by omega) (by simp only [List.length_append, List.length_cons, List.length_set, List.length_take, List.length_drop]; omega) rfl rfl rfl) ?_
           refine aops_any ?_
           refine aany_step 16 [] (by kernel_rfl) ⟨?_, trivial⟩
           ·
            refine ⟨_, rfl, rfl, ?_⟩
            refine aop_of_aops (ops := #[]) rfl ?_
            first | refine x_pure rfl (p_idx_sl rfl rfl Try.e63 Try.c44 (by first | assumption | (refine ⟨by omega, ?_⟩; first | assumption | exact strs_at (by omega) | exact strs_at (by simp only [List.length_cons] at *; omega) | exact ints_at (by omega) | exact map_at (by omega) | exact list_at (by omega)) | exact ⟨by decide, rfl⟩)) ?_ | refine x_pure rfl (p_idx_own rfl rfl Try.e63 Try.c44 (by omega)) ?_
            refine aops_any ?_
            refine aany_step 17 [] (by kernel_rfl) ⟨?_, trivial⟩
            ·
             refine ⟨_, rfl, rfl, ?_⟩
             refine aop_of_aops (ops := #[]) rfl ?_
             refine x_store hf rfl rfl Try.c44 rfl rfl (by simp [stC, AV.cells, AV.one, Value.oneCell']) (by simp [stC, AV.cells, AV.leaf, Value.oneCell']) (own_storeQ (k := 4) (enc := stC) (z := p.length + (t - 1)) (v := x) (by omega) (by simp only [List.length_append, List.length_cons, List.length_set, List.length_take, List.length_drop]; omega) rfl rfl rfl) ?_
             refine aops_any ?_
             refine aany_end (by kernel_rfl) ?_
             refine hK28 _ ?_
             refine aw_region ?_
             refine x_pure rfl (p_move rfl) ?_
             first | refine x_pure rfl (p_sub rfl rfl (by omega) (by omega)) ?_ | refine x_pure rfl (p_bin rfl rfl rfl) ?_
             refine x_pure rfl (p_assign rfl) ?_
             first | refine aops_end ?_ | refine aops_nil ?_
             exact ⟨t - 1, ⟨by omega, by omega⟩, by omega, le_to ⟨(by first | rfl | exact slot_int (by omega)), (by first | rfl | exact slot_int (by omega)), (by first | rfl | exact slot_int (by omega)), trivial⟩ (congrArg (fun l => [(E0, AM.buf 4 (List.map stC l))]) ((swap_down (p := p ++ s1.take (t - 1)) (x := s1[t - 1]) (y := x) (q := s1.drop t ++ q) hsp (by (try simp only [List.length_take, List.length_drop, List.length_append]); omega) (by (try simp only [List.length_take, List.length_drop, List.length_append]); omega)).trans (by rw [List.drop_eq_getElem_cons (show t - 1 < s1.length by omega), show t - 1 + 1 = t by omega]; simp only [List.append_assoc, List.cons_append])))⟩
       ·
        refine ⟨_, rfl, rfl, ?_⟩
        refine aop_of_aops (ops := #[]) rfl ?_
        refine x_pure rfl (p_loadsr rfl Try.g44 Try.c44 rfl (own_bleQ (k := 4) (enc := stC) (z := p.length + t) (by omega) (atQ (p := p ++ s1.take t) (q := s1.drop t ++ q) (x := x) (by simp only [List.append_assoc]) (by (try simp only [List.length_take, List.length_drop, List.length_append]); omega)) rfl) (own_takeQ (k := 4) (enc := stC) (z := p.length + t) (by omega) (atQ (p := p ++ s1.take t) (q := s1.drop t ++ q) (x := x) (by simp only [List.append_assoc]) (by (try simp only [List.length_take, List.length_drop, List.length_append]); omega)) rfl)) ?_
        refine aops_any ?_
        refine aany_step 9 [] (by kernel_rfl) ⟨?_, trivial⟩
        ·
         refine ⟨_, rfl, rfl, ?_⟩
         refine aop_of_aops (ops := #[]) rfl ?_
         refine x_pure rfl (p_loadsr rfl Try.g44 Try.c44 rfl (own_bleQ (k := 4) (enc := stC) (z := p.length + (t - 1)) (by omega) (atQ (p := p ++ s1.take (t - 1)) (q := x :: (s1.drop t ++ q)) (x := s1[t - 1]) hsp (by (try simp only [List.length_take, List.length_drop, List.length_append]); omega)) rfl) (own_takeQ (k := 4) (enc := stC) (z := p.length + (t - 1)) (by omega) (atQ (p := p ++ s1.take (t - 1)) (q := x :: (s1.drop t ++ q)) (x := s1[t - 1]) hsp (by (try simp only [List.length_take, List.length_drop, List.length_append]); omega)) rfl)) ?_
         refine aops_any ?_
         refine aany_step 14 [] (by kernel_rfl) ⟨?_, trivial⟩
         ·
          refine ⟨_, rfl, rfl, ?_⟩
          refine aop_of_aops (ops := #[]) rfl ?_
          first | refine x_pure rfl (p_idx_sl rfl rfl Try.e63 Try.c44 (by first | assumption | (refine ⟨by omega, ?_⟩; first | assumption | exact strs_at (by omega) | exact strs_at (by simp only [List.length_cons] at *; omega) | exact ints_at (by omega) | exact map_at (by omega) | exact list_at (by omega)) | exact ⟨by decide, rfl⟩)) ?_ | refine x_pure rfl (p_idx_own rfl rfl Try.e63 Try.c44 (by omega)) ?_
          refine aops_any ?_
          refine aany_step 15 [] (by kernel_rfl) ⟨?_, trivial⟩
          ·
           refine ⟨_, rfl, rfl, ?_⟩
           refine aop_of_aops (ops := #[]) rfl ?_
           refine x_store hf rfl rfl Try.c44 rfl rfl (by simp [stC, AV.cells, AV.one, Value.oneCell']) (by simp [stC, AV.cells, AV.leaf, Value.oneCell']) (own_storeQ (k := 4) (enc := stC) (z := p.length + t) (v := s1[t - 1]) (by omega) (by simp only [List.length_append, List.length_cons, List.length_set, List.length_take, List.length_drop]; omega) rfl rfl rfl) ?_
           refine aops_any ?_
           refine aany_step 16 [] (by kernel_rfl) ⟨?_, trivial⟩
           ·
            refine ⟨_, rfl, rfl, ?_⟩
            refine aop_of_aops (ops := #[]) rfl ?_
            first | refine x_pure rfl (p_idx_sl rfl rfl Try.e63 Try.c44 (by first | assumption | (refine ⟨by omega, ?_⟩; first | assumption | exact strs_at (by omega) | exact strs_at (by simp only [List.length_cons] at *; omega) | exact ints_at (by omega) | exact map_at (by omega) | exact list_at (by omega)) | exact ⟨by decide, rfl⟩)) ?_ | refine x_pure rfl (p_idx_own rfl rfl Try.e63 Try.c44 (by omega)) ?_
            refine aops_any ?_
            refine aany_step 17 [] (by kernel_rfl) ⟨?_, trivial⟩
            ·
             refine ⟨_, rfl, rfl, ?_⟩
             refine aop_of_aops (ops := #[]) rfl ?_
             refine x_store hf rfl rfl Try.c44 rfl rfl (by simp [stC, AV.cells, AV.one, Value.oneCell']) (by simp [stC, AV.cells, AV.leaf, Value.oneCell']) (own_storeQ (k := 4) (enc := stC) (z := p.length + (t - 1)) (v := x) (by omega) (by simp only [List.length_append, List.length_cons, List.length_set, List.length_take, List.length_drop]; omega) rfl rfl rfl) ?_
             refine aops_any ?_
             refine aany_end (by kernel_rfl) ?_
             refine hK28 _ ?_
             refine aw_region ?_
             refine x_pure rfl (p_move rfl) ?_
             first | refine x_pure rfl (p_sub rfl rfl (by omega) (by omega)) ?_ | refine x_pure rfl (p_bin rfl rfl rfl) ?_
             refine x_pure rfl (p_assign rfl) ?_
             first | refine aops_end ?_ | refine aops_nil ?_
             exact ⟨t - 1, ⟨by omega, by omega⟩, by omega, le_to ⟨(by first | rfl | exact slot_int (by omega)), (by first | rfl | exact slot_int (by omega)), (by first | rfl | exact slot_int (by omega)), trivial⟩ (congrArg (fun l => [(E0, AM.buf 4 (List.map stC l))]) ((swap_down (p := p ++ s1.take (t - 1)) (x := s1[t - 1]) (y := x) (q := s1.drop t ++ q) hsp (by (try simp only [List.length_take, List.length_drop, List.length_append]); omega) (by (try simp only [List.length_take, List.length_drop, List.length_append]); omega)).trans (by rw [List.drop_eq_getElem_cons (show t - 1 < s1.length by omega), show t - 1 + 1 = t by omega]; simp only [List.append_assoc, List.cons_append])))⟩
      ·
       try simp only [bs] at hc8
       refine aw_exit ?_
       refine hK24 _ ?_
       refine aw_ret ?_
       have hti : t = i := by omega
       subst hti
       have hij : t = j := by omega
       subst hij
       exact ⟨_, _, _, Le.refl _, rfl, rfl, s1.take t ++ x :: s1.drop t, by rw [hx2]; exact put_perm.trans (List.perm_append_comm (l₁ := [x])), put_srtQ hc hs1 (by omega) q3 q4, by simp only [List.append_assoc, List.cons_append]⟩
  ·
   try simp only [bs] at hc5
   refine aw_skip ?_
   refine hK15 _ ?_
   refine aw_seq_k (fun K29 hK29 => ?_)
   refine aw_region ?_
   obtain ⟨M, eM⟩ : ∃ M, M = (s1.length + s2.length) / 2 := ⟨_, rfl⟩
   have hz := half_z (a := ((p.length : Nat) : Int) + ((p.length + s1.length + s2.length : Nat) : Int)) (b := ((p.length + M : Nat) : Int)) (by omega) (by omega) (by omega)
   refine x_pure rfl (p_move rfl) ?_
   refine x_pure rfl (p_move rfl) ?_
   first | refine x_pure rfl (p_add rfl rfl (by omega) (by omega)) ?_ | refine x_pure rfl (p_bin rfl rfl rfl) ?_
   refine x_pure rfl (p_conv rfl Try.underlying3 Try.underlying116 hz.1) ?_
   refine x_pure rfl (p_half rfl hz.2.1 (by decide)) ?_
   refine x_pure rfl (p_conv rfl Try.underlying116 Try.underlying3 hz.2.2) ?_
   refine x_pure rfl (p_assign rfl) ?_
   first | refine aops_end ?_ | refine aops_nil ?_
   refine hK29 _ ?_
   refine aw_seq_k (fun K30 hK30 => ?_)
   refine aw_region ?_
   refine x_pure rfl (p_move rfl) ?_
   refine x_pure rfl (p_move rfl) ?_
   first | refine x_pure rfl (p_add rfl rfl (by omega) (by omega)) ?_ | refine x_pure rfl (p_bin rfl rfl rfl) ?_
   refine x_pure rfl (p_assign rfl) ?_
   first | refine aops_end ?_ | refine aops_nil ?_
   refine hK30 _ ?_
   refine aw_seq_k (fun K31 hK31 => ?_)
   refine aw_region ?_
   refine x_pure rfl (p_assign_bad) ?_
   refine x_pure rfl (p_assign_bad) ?_
   first | refine aops_end ?_ | refine aops_nil ?_
   refine hK31 _ ?_
   refine aw_join (ι := Nat × Nat) (fun w => ⟨220, [(0, .own E0 4 0 N), (1, .s (.int .i64 (p.length : Nat))), (2, .s (.int .i64 ((p.length + s1.length : Nat) : Int))), (3, .s (.int .i64 ((p.length + s1.length + s2.length : Nat) : Int))), (4, .fn g []), (18, .s (.int .i64 ((p.length + M : Nat) : Int))), (19, .s (.int .i64 ((p.length + M : Nat) + (p.length + s1.length : Nat)))), (20, .s (.int .i64 ((p.length + w.1 : Nat) : Int))), (21, .s (.int .i64 ((p.length + w.2 : Nat) : Int)))], [(E0, .buf 4 (List.map stC (p ++ (s1 ++ (s2 ++ q)))))]⟩) (fun w => (w.1 = 0 ∨ M - w.1 = s2.length) ∧ (w.2 = s1.length ∨ w.2 = M) ∧ w.1 ≤ w.2 ∧ w.2 ≤ s1.length ∧ w.2 ≤ M ∧ M - w.1 ≤ s2.length) ?_ ?_
   ·
    refine aw_seq_k (fun K33 hK33 => ?_)
    refine aw_region ?_
    refine x_pure rfl (p_move rfl) ?_
    refine x_pure rfl (p_move rfl) ?_
    refine x_pure rfl (p_bin rfl rfl rfl) ?_
    first | refine aops_end ?_ | refine aops_nil ?_
    refine hK33 _ ?_
    refine aw_cond_s rfl (fun hc9 => ?_) (fun hc9 => ?_)
    ·
     try simp only [bs] at hc9
     refine aw_seq_k (fun K34 hK34 => ?_)
     refine aw_region ?_
     refine x_pure rfl (p_move rfl) ?_
     refine x_pure rfl (p_move rfl) ?_
     first | refine x_pure rfl (p_sub rfl rfl (by omega) (by omega)) ?_ | refine x_pure rfl (p_bin rfl rfl rfl) ?_
     refine x_pure rfl (p_assign rfl) ?_
     first | refine aops_end ?_ | refine aops_nil ?_
     refine hK34 _ ?_
     refine aw_region ?_
     refine x_pure rfl (p_move rfl) ?_
     refine x_pure rfl (p_assign rfl) ?_
     first | refine aops_end ?_ | refine aops_nil ?_
     first
     | exact ⟨(M - s2.length, M), ⟨.inr (by simp only; omega), .inr rfl, by simp only; omega, by simp only; omega, Nat.le_refl _, by simp only; omega⟩, le_to ⟨(by first | rfl | exact slot_int (by omega)), (by first | rfl | exact slot_int (by omega)), (by first | rfl | exact slot_int (by omega)), (by first | rfl | exact slot_int (by omega)), (by first | rfl | exact slot_int (by omega)), (by first | rfl | exact slot_int (by omega)), (by first | rfl | exact slot_int (by omega)), (by first | rfl | exact slot_int (by omega)), (by first | rfl | exact slot_int (by omega)), trivial⟩ rfl⟩
     | exact ⟨(0, s1.length), ⟨.inl rfl, .inl rfl, Nat.zero_le _, Nat.le_refl _, by simp only; omega, by simp only; omega⟩, le_to ⟨(by first | rfl | exact slot_int (by omega)), (by first | rfl | exact slot_int (by omega)), (by first | rfl | exact slot_int (by omega)), (by first | rfl | exact slot_int (by omega)), (by first | rfl | exact slot_int (by omega)), (by first | rfl | exact slot_int (by omega)), (by first | rfl | exact slot_int (by omega)), (by first | rfl | exact slot_int (by omega)), (by first | rfl | exact slot_int (by omega)), trivial⟩ rfl⟩
    ·
     try simp only [bs] at hc9
     refine aw_seq_k (fun K35 hK35 => ?_)
     refine aw_region ?_
     refine x_pure rfl (p_move rfl) ?_
     refine x_pure rfl (p_assign rfl) ?_
     first | refine aops_end ?_ | refine aops_nil ?_
     refine hK35 _ ?_
     refine aw_region ?_
     refine x_pure rfl (p_move rfl) ?_
     refine x_pure rfl (p_assign rfl) ?_
     first | refine aops_end ?_ | refine aops_nil ?_
     first
     | exact ⟨(M - s2.length, M), ⟨.inr (by simp only; omega), .inr rfl, by simp only; omega, by simp only; omega, Nat.le_refl _, by simp only; omega⟩, le_to ⟨(by first | rfl | exact slot_int (by omega)), (by first | rfl | exact slot_int (by omega)), (by first | rfl | exact slot_int (by omega)), (by first | rfl | exact slot_int (by omega)), (by first | rfl | exact slot_int (by omega)), (by first | rfl | exact slot_int (by omega)), (by first | rfl | exact slot_int (by omega)), (by first | rfl | exact slot_int (by omega)), (by first | rfl | exact slot_int (by omega)), trivial⟩ rfl⟩
     | exact ⟨(0, s1.length), ⟨.inl rfl, .inl rfl, Nat.zero_le _, Nat.le_refl _, by simp only; omega, by simp only; omega⟩, le_to ⟨(by first | rfl | exact slot_int (by omega)), (by first | rfl | exact slot_int (by omega)), (by first | rfl | exact slot_int (by omega)), (by first | rfl | exact slot_int (by omega)), (by first | rfl | exact slot_int (by omega)), (by first | rfl | exact slot_int (by omega)), (by first | rfl | exact slot_int (by omega)), (by first | rfl | exact slot_int (by omega)), (by first | rfl | exact slot_int (by omega)), trivial⟩ rfl⟩
   ·
    intro w hj
    obtain ⟨S0, R0⟩ := w
    obtain ⟨j1, j2, j3, j4, j5, j6⟩ := hj
    simp only at j1 j2 j3 j4 j5 j6
    refine aw_seq_k (fun K36 hK36 => ?_)
    refine aw_region ?_
    refine x_pure rfl (p_move rfl) ?_
    first | refine x_pure rfl (p_sub rfl rfl (by omega) (by omega)) ?_ | refine x_pure rfl (p_bin rfl rfl rfl) ?_
    refine x_pure rfl (p_assign rfl) ?_
    first | refine aops_end ?_ | refine aops_nil ?_
    refine hK36 _ ?_
    refine aw_seq_k (fun K37 hK37 => ?_)
    refine aw_block ?_
    refine aw_loop (ι := Nat × Nat) (fun (⟨S, R⟩ : Nat × Nat) => ⟨220, [(0, .own E0 4 0 N), (1, .s (.int .i64 (p.length : Nat))), (2, .s (.int .i64 ((p.length + s1.length : Nat) : Int))), (3, .s (.int .i64 ((p.length + s1.length + s2.length : Nat) : Int))), (4, .fn g []), (18, .s (.int .i64 ((p.length + M : Nat) : Int))), (19, .s (.int .i64 ((p.length + M : Nat) + (p.length + s1.length : Nat)))), (20, .s (.int .i64 ((p.length + S : Nat) : Int))), (21, .s (.int .i64 ((p.length + R : Nat) : Int))), (22, .s (.int .i64 ((p.length + M : Nat) + (p.length + s1.length : Nat) - 1)))], [(E0, .buf 4 (List.map stC (p ++ (s1 ++ (s2 ++ q)))))]⟩) (fun (⟨S, R⟩ : Nat × Nat) => S0 ≤ S ∧ S ≤ R ∧ R ≤ R0 ∧ (S = S0 ∨ ∀ z w, s1[S - 1]? = some z → s2[M - S]? = some w → c z w ≤ 0) ∧ (R = R0 ∨ ∀ z w, s2[M - 1 - R]? = some z → s1[R]? = some w → c z w ≤ 0)) (fun (⟨S, R⟩ : Nat × Nat) => R - S) (S0, R0) ?_ ?_ ?_
    · exact ⟨Nat.le_refl _, j3, Nat.le_refl _, .inl rfl, .inl rfl⟩
    · exact le_to ⟨(by first | rfl | exact slot_int (by omega)), (by first | rfl | exact slot_int (by omega)), (by first | rfl | exact slot_int (by omega)), (by first | rfl | exact slot_int (by omega)), (by first | rfl | exact slot_int (by omega)), (by first | rfl | exact slot_int (by omega)), (by first | rfl | exact slot_int (by omega)), (by first | rfl | exact slot_int (by omega)), (by first | rfl | exact slot_int (by omega)), (by first | rfl | exact slot_int (by omega)), trivial⟩ rfl
    ·
     rintro ⟨S, R⟩ hC
     obtain ⟨q1, q2, q3, q4, q5⟩ := hC
     refine aw_seq_k (fun K38 hK38 => ?_)
     refine aw_seq_k (fun K39 hK39 => ?_)
     refine aw_region ?_
     refine x_pure rfl (p_move rfl) ?_
     refine x_pure rfl (p_move rfl) ?_
     refine x_pure rfl (p_bin rfl rfl rfl) ?_
     first | refine aops_end ?_ | refine aops_nil ?_
     refine hK39 _ ?_
     refine aw_cond_s rfl (fun hc10 => ?_) (fun hc10 => ?_)
     ·
      try simp only [bs] at hc10
      refine aw_skip ?_
      refine hK38 _ ?_
      refine aw_block ?_
      refine aw_seq_k (fun K40 hK40 => ?_)
      refine aw_region ?_
      obtain ⟨h, eh⟩ : ∃ h, h = (S + R) / 2 := ⟨_, rfl⟩
      have hz := half_z (a := ((p.length + S : Nat) : Int) + ((p.length + R : Nat) : Int)) (b := ((p.length + h : Nat) : Int)) (by omega) (by omega) (by omega)
      refine x_pure rfl (p_move rfl) ?_
      refine x_pure rfl (p_move rfl) ?_
      first | refine x_pure rfl (p_add rfl rfl (by omega) (by omega)) ?_ | refine x_pure rfl (p_bin rfl rfl rfl) ?_
      refine x_pure rfl (p_conv rfl Try.underlying3 Try.underlying116 hz.1) ?_
      refine x_pure rfl (p_half rfl hz.2.1 (by decide)) ?_
      refine x_pure rfl (p_conv rfl Try.underlying116 Try.underlying3 hz.2.2) ?_
      refine x_pure rfl (p_assign rfl) ?_
      first | refine aops_end ?_ | refine aops_nil ?_
      refine hK40 _ ?_
      refine aw_seq_k (fun K41 hK41 => ?_)
      refine aw_draw hf Try.mixed (by kernel_rfl) rfl ?_
      have hh1 : h < s1.length := by omega
      have hh2 : M - 1 - h < s2.length := by omega
      refine d_pure [(4, _)] rfl rfl ⟨⟨rfl, rfl⟩, trivial⟩ rfl (p_move rfl) ?_
      refine d_pure [(0, _)] rfl rfl ⟨⟨rfl, rfl⟩, trivial⟩ rfl (p_move rfl) ?_
      refine d_pure [(22, _)] rfl rfl ⟨⟨rfl, rfl⟩, trivial⟩ rfl (p_move rfl) ?_
      refine d_pure [(23, _)] rfl rfl ⟨⟨rfl, rfl⟩, trivial⟩ rfl (p_move rfl) ?_
      first | refine d_pure [(160, _), (161, _)] rfl rfl ⟨⟨rfl, rfl⟩, ⟨rfl, rfl⟩, trivial⟩ rfl (p_sub rfl rfl (by omega) (by omega)) ?_ | refine d_pure [(160, _), (161, _)] rfl rfl ⟨⟨rfl, rfl⟩, ⟨rfl, rfl⟩, trivial⟩ rfl (p_bin rfl rfl rfl) ?_
      first | refine d_pure [(159, _), (162, _)] rfl rfl ⟨⟨rfl, rfl⟩, ⟨rfl, rfl⟩, trivial⟩ rfl (p_idx_sl rfl rfl Try.e63 Try.c44 (by first | assumption | (refine ⟨by omega, ?_⟩; first | assumption | exact strs_at (by omega) | exact strs_at (by simp only [List.length_cons] at *; omega) | exact ints_at (by omega) | exact map_at (by omega) | exact list_at (by omega)) | exact ⟨by decide, rfl⟩)) ?_ | refine d_pure [(159, _), (162, _)] rfl rfl ⟨⟨rfl, rfl⟩, ⟨rfl, rfl⟩, trivial⟩ rfl (p_idx_own rfl rfl Try.e63 Try.c44 (by omega)) ?_
      refine d_pure [(163, _)] rfl rfl ⟨⟨rfl, rfl⟩, trivial⟩ rfl (p_loadsr rfl Try.g44 Try.c44 rfl (own_bleQ (k := 4) (enc := stC) (z := p.length + s1.length + (M - 1 - h)) (by omega) (atM hh2) rfl) (own_takeQ (k := 4) (enc := stC) (z := p.length + s1.length + (M - 1 - h)) (by omega) (atM hh2) rfl)) ?_
      refine d_pure [(0, _)] rfl rfl ⟨⟨rfl, rfl⟩, trivial⟩ rfl (p_move rfl) ?_
      refine d_pure [(23, _)] rfl rfl ⟨⟨rfl, rfl⟩, trivial⟩ rfl (p_move rfl) ?_
      first | refine d_pure [(165, _), (166, _)] rfl rfl ⟨⟨rfl, rfl⟩, ⟨rfl, rfl⟩, trivial⟩ rfl (p_idx_sl rfl rfl Try.e63 Try.c44 (by first | assumption | (refine ⟨by omega, ?_⟩; first | assumption | exact strs_at (by omega) | exact strs_at (by simp only [List.length_cons] at *; omega) | exact ints_at (by omega) | exact map_at (by omega) | exact list_at (by omega)) | exact ⟨by decide, rfl⟩)) ?_ | refine d_pure [(165, _), (166, _)] rfl rfl ⟨⟨rfl, rfl⟩, ⟨rfl, rfl⟩, trivial⟩ rfl (p_idx_own rfl rfl Try.e63 Try.c44 (by omega)) ?_
      refine d_pure [(167, _)] rfl rfl ⟨⟨rfl, rfl⟩, trivial⟩ rfl (p_loadsr rfl Try.g44 Try.c44 rfl (own_bleQ (k := 4) (enc := stC) (z := p.length + h) (by omega) (atL hh1) rfl) (own_takeQ (k := 4) (enc := stC) (z := p.length + h) (by omega) (atL hh1) rfl)) ?_
      refine d_rstep [(158, _), (164, _), (168, _)] rfl rfl ⟨⟨rfl, rfl⟩, ⟨rfl, rfl⟩, ⟨rfl, rfl⟩, trivial⟩ rfl (r_call rfl rfl hent rfl (hcmp s2[M - 1 - h] s1[h])) ?_
      refine d_pure [(169, _)] rfl rfl ⟨⟨rfl, rfl⟩, trivial⟩ rfl (p_bin rfl rfl rfl) ?_
      refine d_pure [(170, _)] rfl rfl ⟨⟨rfl, rfl⟩, trivial⟩ rfl (p_not rfl) ?_
      refine lex_end (sl' := [(0, _), (1, _), (2, _), (3, _), (4, _), (18, _), (19, _), (20, _), (21, _), (22, _), (23, _), (171, _)]) rfl ⟨rfl, rfl, rfl, rfl, rfl, rfl, rfl, rfl, rfl, rfl, rfl, rfl, trivial⟩ rfl ?_
      refine hK41 _ ?_
      refine aw_cond_s rfl (fun hc11 => ?_) (fun hc11 => ?_)
      ·
       try simp only [bs] at hc11
       refine aw_region ?_
       refine x_pure rfl (p_move rfl) ?_
       first | refine x_pure rfl (p_add rfl rfl (by omega) (by omega)) ?_ | refine x_pure rfl (p_bin rfl rfl rfl) ?_
       refine x_pure rfl (p_assign rfl) ?_
       first | refine aops_end ?_ | refine aops_nil ?_
       first
       | exact ⟨(h + 1, R), ⟨by omega, by omega, q3, .inr (fun z w hz hw => by rw [Nat.add_sub_cancel, List.getElem?_eq_getElem hh1] at hz; rw [show M - (h + 1) = M - 1 - h by omega, List.getElem?_eq_getElem hh2] at hw; cases hz; cases hw; have := hc.swap s1[h] s2[M - 1 - h]; omega), q5⟩, by simp only; omega, le_to ⟨(by first | rfl | exact slot_int (by omega)), (by first | rfl | exact slot_int (by omega)), (by first | rfl | exact slot_int (by omega)), (by first | rfl | exact slot_int (by omega)), (by first | rfl | exact slot_int (by omega)), (by first | rfl | exact slot_int (by omega)), (by first | rfl | exact slot_int (by omega)), (by first | rfl | exact slot_int (by omega)), (by first | rfl | exact slot_int (by omega)), (by first | rfl | exact slot_int (by omega)), trivial⟩ rfl⟩
       | exact ⟨(S, h), ⟨q1, by omega, by omega, q4, .inr (fun z w hz hw => by rw [List.getElem?_eq_getElem hh2] at hz; rw [List.getElem?_eq_getElem hh1] at hw; cases hz; cases hw; omega)⟩, by simp only; omega, le_to ⟨(by first | rfl | exact slot_int (by omega)), (by first | rfl | exact slot_int (by omega)), (by first | rfl | exact slot_int (by omega)), (by first | rfl | exact slot_int (by omega)), (by first | rfl | exact slot_int (by omega)), (by first | rfl | exact slot_int (by omega)), (by first | rfl | exact slot_int (by omega)), (by first | rfl | exact slot_int (by omega)), (by first | rfl | exact slot_int (by omega)), (by first | rfl | exact slot_int (by omega)), trivial⟩ rfl⟩
      ·
       try simp only [bs] at hc11
       refine aw_region ?_
       refine x_pure rfl (p_move rfl) ?_
       refine x_pure rfl (p_assign rfl) ?_
       first | refine aops_end ?_ | refine aops_nil ?_
       first
       | exact ⟨(h + 1, R), ⟨by omega, by omega, q3, .inr (fun z w hz hw => by rw [Nat.add_sub_cancel, List.getElem?_eq_getElem hh1] at hz; rw [show M - (h + 1) = M - 1 - h by omega, List.getElem?_eq_getElem hh2] at hw; cases hz; cases hw; have := hc.swap s1[h] s2[M - 1 - h]; omega), q5⟩, by simp only; omega, le_to ⟨(by first | rfl | exact slot_int (by omega)), (by first | rfl | exact slot_int (by omega)), (by first | rfl | exact slot_int (by omega)), (by first | rfl | exact slot_int (by omega)), (by first | rfl | exact slot_int (by omega)), (by first | rfl | exact slot_int (by omega)), (by first | rfl | exact slot_int (by omega)), (by first | rfl | exact slot_int (by omega)), (by first | rfl | exact slot_int (by omega)), (by first | rfl | exact slot_int (by omega)), trivial⟩ rfl⟩
       | exact ⟨(S, h), ⟨q1, by omega, by omega, q4, .inr (fun z w hz hw => by rw [List.getElem?_eq_getElem hh2] at hz; rw [List.getElem?_eq_getElem hh1] at hw; cases hz; cases hw; omega)⟩, by simp only; omega, le_to ⟨(by first | rfl | exact slot_int (by omega)), (by first | rfl | exact slot_int (by omega)), (by first | rfl | exact slot_int (by omega)), (by first | rfl | exact slot_int (by omega)), (by first | rfl | exact slot_int (by omega)), (by first | rfl | exact slot_int (by omega)), (by first | rfl | exact slot_int (by omega)), (by first | rfl | exact slot_int (by omega)), (by first | rfl | exact slot_int (by omega)), (by first | rfl | exact slot_int (by omega)), trivial⟩ rfl⟩
     ·
      try simp only [bs] at hc10
      refine aw_exit ?_
      refine hK37 _ ?_
      refine aw_seq_k (fun K42 hK42 => ?_)
      refine aw_region ?_
      obtain ⟨K, hK⟩ : ∃ K, K = M - S := ⟨_, rfl⟩
      have hA : ∀ (h0 : 0 < S) (h3 : K < s2.length), c (s1[S - 1]'(by omega)) s2[K] ≤ 0 := fun h0 h3 => by
       rcases q4 with e | e
       · exfalso; omega
       · exact e _ _ (List.getElem?_eq_getElem (by omega)) (by rw [← hK]; exact List.getElem?_eq_getElem h3)
      have hB : ∀ (h0 : 0 < K) (h3 : S < s1.length), c (s2[K - 1]'(by omega)) s1[S] ≤ 0 := fun h0 h3 => by
       have hSR : S = R := by omega
       rw [← hSR] at q5
       rcases q5 with e | e
       · exfalso; omega
       · exact e _ _ (by rw [show M - 1 - S = K - 1 by omega]; exact List.getElem?_eq_getElem (by omega)) (List.getElem?_eq_getElem h3)
      have hsep := sym_sep hc hs1 hs2 (show S ≤ s1.length by omega) (show K ≤ s2.length by omega) hA hB
      refine x_pure rfl (p_move rfl) ?_
      refine x_pure rfl (p_move rfl) ?_
      first | refine x_pure rfl (p_sub rfl rfl (by omega) (by omega)) ?_ | refine x_pure rfl (p_bin rfl rfl rfl) ?_
      rw [show (((p.length + M : Nat) : Int) + ((p.length + s1.length : Nat) : Int)) - ((p.length + S : Nat) : Int) = ((p.length + s1.length + K : Nat) : Int) from by omega]
      refine x_pure rfl (p_assign rfl) ?_
      first | refine aops_end ?_ | refine aops_nil ?_
      refine hK42 _ ?_
      refine aw_join (ι := Unit) (fun w => ⟨220, [(0, .own E0 4 0 N), (1, .s (.int .i64 (p.length : Nat))), (3, .s (.int .i64 ((p.length + s1.length + s2.length : Nat) : Int))), (4, .fn g []), (18, .s (.int .i64 ((p.length + M : Nat) : Int))), (20, .s (.int .i64 ((p.length + S : Nat) : Int))), (24, .s (.int .i64 ((p.length + s1.length + K : Nat) : Int)))], [(E0, .buf 4 (List.map stC (p ++ ((s1.take S ++ s2.take K) ++ ((s1.drop S ++ s2.drop K) ++ q)))))]⟩) (fun w => True) ?_ ?_
      ·
       refine aw_seq_k (fun K44 hK44 => ?_)
       refine aw_region ?_
       refine x_pure rfl (p_move rfl) ?_
       refine x_pure rfl (p_move rfl) ?_
       refine x_pure rfl (p_bin rfl rfl rfl) ?_
       refine x_pure rfl (p_move rfl) ?_
       refine y_guard_s rfl rfl rfl (fun hg12 => ?_) (fun hg12 => ?_)
       ·
        try simp only [bs] at hg12
        refine x_pure rfl (p_move rfl) ?_
        refine x_guard_t rfl rfl rfl ?_
        refine x_pure rfl (p_move rfl) ?_
        refine x_guard_t rfl rfl rfl ?_
        refine x_pure rfl (p_bin rfl rfl rfl) ?_
        refine x_pure rfl (p_pick_t rfl rfl) ?_
        first | refine aops_end ?_ | refine aops_nil ?_
        refine hK44 _ ?_
        refine aw_cond_s rfl (fun hc13 => ?_) (fun hc13 => ?_)
        ·
         try simp only [bs] at hc13
         refine aw_region ?_
         rw [sym_open (p := p) (s1 := s1) (s2 := s2) (q := q) S K]
         refine x_pure rfl (p_move rfl) ?_
         refine x_pure rfl (p_move rfl) ?_
         refine x_pure rfl (p_move rfl) ?_
         refine x_pure rfl (p_move rfl) ?_
         refine x_pure rfl (p_move rfl) ?_
         refine y_callM hf E0 rfl rfl rfl rfl rfl Try.ent92 (st_rot_den g (p ++ s1.take S) (s1.drop S) (s2.take K) (s2.drop K ++ q) N _ _ _ (by (try simp only [List.length_take, List.length_drop, List.length_append]); omega) (by (try simp only [List.length_take, List.length_drop, List.length_append]); omega) (by (try simp only [List.length_take, List.length_drop, List.length_append]); omega) (by (try simp only [List.length_take, List.length_drop, List.length_append]); omega) (by (try simp only [List.length_take, List.length_drop, List.length_append]); omega) (by (try simp only [List.length_take, List.length_drop, List.length_append]); omega) hM) ?_
         rintro r zs rfl
         first | refine aops_end ?_ | refine aops_nil ?_
         first
         | exact ⟨(), trivial, le_to ⟨(by first | rfl | exact slot_int (by omega)), (by first | rfl | exact slot_int (by omega)), (by first | rfl | exact slot_int (by omega)), (by first | rfl | exact slot_int (by omega)), (by first | rfl | exact slot_int (by omega)), (by first | rfl | exact slot_int (by omega)), (by first | rfl | exact slot_int (by omega)), trivial⟩ (by rw [sym_skip (p := p) (s1 := s1) (s2 := s2) (q := q) (S := S) (K := K) (by omega)])⟩
         | exact ⟨(), trivial, le_to ⟨(by first | rfl | exact slot_int (by omega)), (by first | rfl | exact slot_int (by omega)), (by first | rfl | exact slot_int (by omega)), (by first | rfl | exact slot_int (by omega)), (by first | rfl | exact slot_int (by omega)), (by first | rfl | exact slot_int (by omega)), (by first | rfl | exact slot_int (by omega)), trivial⟩ (congrArg (fun l => [(E0, AM.buf 4 (List.map stC l))]) (by simp only [List.append_assoc]))⟩
        ·
         try simp only [bs] at hc13
         refine aw_skip ?_
         first
         | exact ⟨(), trivial, le_to ⟨(by first | rfl | exact slot_int (by omega)), (by first | rfl | exact slot_int (by omega)), (by first | rfl | exact slot_int (by omega)), (by first | rfl | exact slot_int (by omega)), (by first | rfl | exact slot_int (by omega)), (by first | rfl | exact slot_int (by omega)), (by first | rfl | exact slot_int (by omega)), trivial⟩ (by rw [sym_skip (p := p) (s1 := s1) (s2 := s2) (q := q) (S := S) (K := K) (by omega)])⟩
         | exact ⟨(), trivial, le_to ⟨(by first | rfl | exact slot_int (by omega)), (by first | rfl | exact slot_int (by omega)), (by first | rfl | exact slot_int (by omega)), (by first | rfl | exact slot_int (by omega)), (by first | rfl | exact slot_int (by omega)), (by first | rfl | exact slot_int (by omega)), (by first | rfl | exact slot_int (by omega)), trivial⟩ (congrArg (fun l => [(E0, AM.buf 4 (List.map stC l))]) (by simp only [List.append_assoc]))⟩
       ·
        try simp only [bs] at hg12
        refine x_guard_f rfl rfl rfl ?_
        refine x_guard_f rfl rfl rfl ?_
        refine x_pure rfl (p_pick_f rfl rfl) ?_
        first | refine aops_end ?_ | refine aops_nil ?_
        refine hK44 _ ?_
        refine aw_cond_f rfl ?_
        refine aw_skip ?_
        first
        | exact ⟨(), trivial, le_to ⟨(by first | rfl | exact slot_int (by omega)), (by first | rfl | exact slot_int (by omega)), (by first | rfl | exact slot_int (by omega)), (by first | rfl | exact slot_int (by omega)), (by first | rfl | exact slot_int (by omega)), (by first | rfl | exact slot_int (by omega)), (by first | rfl | exact slot_int (by omega)), trivial⟩ (by rw [sym_skip (p := p) (s1 := s1) (s2 := s2) (q := q) (S := S) (K := K) (by omega)])⟩
        | exact ⟨(), trivial, le_to ⟨(by first | rfl | exact slot_int (by omega)), (by first | rfl | exact slot_int (by omega)), (by first | rfl | exact slot_int (by omega)), (by first | rfl | exact slot_int (by omega)), (by first | rfl | exact slot_int (by omega)), (by first | rfl | exact slot_int (by omega)), (by first | rfl | exact slot_int (by omega)), trivial⟩ (congrArg (fun l => [(E0, AM.buf 4 (List.map stC l))]) (by simp only [List.append_assoc]))⟩
      ·
       intro w hj
       refine aw_join (ι := List Stay) (fun l => ⟨220, [(0, .own E0 4 0 N), (3, .s (.int .i64 ((p.length + s1.length + s2.length : Nat) : Int))), (4, .fn g []), (18, .s (.int .i64 ((p.length + M : Nat) : Int))), (24, .s (.int .i64 ((p.length + s1.length + K : Nat) : Int)))], [(E0, .buf 4 (List.map stC (p ++ (l ++ ((s1.drop S ++ s2.drop K) ++ q)))))]⟩) (fun l => l.Perm (s1.take S ++ s2.take K) ∧ Srt c l) ?_ ?_
       ·
        refine aw_seq_k (fun K46 hK46 => ?_)
        refine aw_region ?_
        refine x_pure rfl (p_move rfl) ?_
        refine x_pure rfl (p_move rfl) ?_
        refine x_pure rfl (p_bin rfl rfl rfl) ?_
        refine x_pure rfl (p_move rfl) ?_
        refine y_guard_s rfl rfl rfl (fun hg15 => ?_) (fun hg15 => ?_)
        ·
         try simp only [bs] at hg15
         refine x_pure rfl (p_move rfl) ?_
         refine x_guard_t rfl rfl rfl ?_
         refine x_pure rfl (p_move rfl) ?_
         refine x_guard_t rfl rfl rfl ?_
         refine x_pure rfl (p_bin rfl rfl rfl) ?_
         refine x_pure rfl (p_pick_t rfl rfl) ?_
         first | refine aops_end ?_ | refine aops_nil ?_
         refine hK46 _ ?_
         refine aw_cond_s rfl (fun hc16 => ?_) (fun hc16 => ?_)
         ·
          try simp only [bs] at hc16
          refine aw_region ?_
          rw [List.append_assoc (s1.take S)]
          refine x_pure rfl (p_move rfl) ?_
          refine x_pure rfl (p_move rfl) ?_
          refine x_pure rfl (p_move rfl) ?_
          refine x_pure rfl (p_move rfl) ?_
          refine x_pure rfl (p_move rfl) ?_
          refine y_callM hf E0 rfl rfl rfl rfl rfl Try.ent79 (ih p (s1.take S) (s2.take K) ((s1.drop S ++ s2.drop K) ++ q) N _ _ _ (by (try simp only [List.length_take, List.length_drop, List.length_append]); omega) (by (try simp only [List.length_take, List.length_drop, List.length_append]); omega) rfl (by (try simp only [List.length_take, List.length_drop, List.length_append]); omega) (by (try simp only [List.length_take, List.length_drop, List.length_append]); omega) (by (try simp only [List.length_take, List.length_drop, List.length_append]); omega) (by (try simp only [List.length_take, List.length_drop, List.length_append]); omega) (hs1.take S) (hs2.take K) hM) ?_
          rintro r zs ⟨lq, hl1, hl2, rfl⟩
          first | refine aops_end ?_ | refine aops_nil ?_
          first
          | exact ⟨s1.take S ++ s2.take K, ⟨.refl _, srt_left hs1 hs2 (by omega)⟩, le_to ⟨(by first | rfl | exact slot_int (by omega)), (by first | rfl | exact slot_int (by omega)), (by first | rfl | exact slot_int (by omega)), (by first | rfl | exact slot_int (by omega)), (by first | rfl | exact slot_int (by omega)), trivial⟩ rfl⟩
          | exact ⟨lq, ⟨hl1, hl2⟩, le_to ⟨(by first | rfl | exact slot_int (by omega)), (by first | rfl | exact slot_int (by omega)), (by first | rfl | exact slot_int (by omega)), (by first | rfl | exact slot_int (by omega)), (by first | rfl | exact slot_int (by omega)), trivial⟩ rfl⟩
         ·
          try simp only [bs] at hc16
          refine aw_skip ?_
          first
          | exact ⟨s1.take S ++ s2.take K, ⟨.refl _, srt_left hs1 hs2 (by omega)⟩, le_to ⟨(by first | rfl | exact slot_int (by omega)), (by first | rfl | exact slot_int (by omega)), (by first | rfl | exact slot_int (by omega)), (by first | rfl | exact slot_int (by omega)), (by first | rfl | exact slot_int (by omega)), trivial⟩ rfl⟩
          | exact ⟨lq, ⟨hl1, hl2⟩, le_to ⟨(by first | rfl | exact slot_int (by omega)), (by first | rfl | exact slot_int (by omega)), (by first | rfl | exact slot_int (by omega)), (by first | rfl | exact slot_int (by omega)), (by first | rfl | exact slot_int (by omega)), trivial⟩ rfl⟩
        ·
         try simp only [bs] at hg15
         refine x_guard_f rfl rfl rfl ?_
         refine x_guard_f rfl rfl rfl ?_
         refine x_pure rfl (p_pick_f rfl rfl) ?_
         first | refine aops_end ?_ | refine aops_nil ?_
         refine hK46 _ ?_
         refine aw_cond_f rfl ?_
         refine aw_skip ?_
         first
         | exact ⟨s1.take S ++ s2.take K, ⟨.refl _, srt_left hs1 hs2 (by omega)⟩, le_to ⟨(by first | rfl | exact slot_int (by omega)), (by first | rfl | exact slot_int (by omega)), (by first | rfl | exact slot_int (by omega)), (by first | rfl | exact slot_int (by omega)), (by first | rfl | exact slot_int (by omega)), trivial⟩ rfl⟩
         | exact ⟨lq, ⟨hl1, hl2⟩, le_to ⟨(by first | rfl | exact slot_int (by omega)), (by first | rfl | exact slot_int (by omega)), (by first | rfl | exact slot_int (by omega)), (by first | rfl | exact slot_int (by omega)), (by first | rfl | exact slot_int (by omega)), trivial⟩ rfl⟩
       ·
        intro l hj
        obtain ⟨hl1, hl2⟩ := hj
        have hll := hl1.length_eq
        rw [List.length_append, List.length_take, List.length_take] at hll
        refine aw_seq_k (fun K47 hK47 => ?_)
        refine aw_region ?_
        refine x_pure rfl (p_move rfl) ?_
        refine x_pure rfl (p_move rfl) ?_
        refine x_pure rfl (p_bin rfl rfl rfl) ?_
        refine x_pure rfl (p_move rfl) ?_
        refine y_guard_s rfl rfl rfl (fun hg18 => ?_) (fun hg18 => ?_)
        ·
         try simp only [bs] at hg18
         refine x_pure rfl (p_move rfl) ?_
         refine x_guard_t rfl rfl rfl ?_
         refine x_pure rfl (p_move rfl) ?_
         refine x_guard_t rfl rfl rfl ?_
         refine x_pure rfl (p_bin rfl rfl rfl) ?_
         refine x_pure rfl (p_pick_t rfl rfl) ?_
         first | refine aops_end ?_ | refine aops_nil ?_
         refine hK47 _ ?_
         refine aw_cond_s rfl (fun hc19 => ?_) (fun hc19 => ?_)
         ·
          try simp only [bs] at hc19
          refine aw_region ?_
          rw [show p ++ (l ++ ((s1.drop S ++ s2.drop K) ++ q)) = (p ++ l) ++ (s1.drop S ++ (s2.drop K ++ q)) from by simp only [List.append_assoc]]
          refine x_pure rfl (p_move rfl) ?_
          refine x_pure rfl (p_move rfl) ?_
          refine x_pure rfl (p_move rfl) ?_
          refine x_pure rfl (p_move rfl) ?_
          refine x_pure rfl (p_move rfl) ?_
          refine y_callM hf E0 rfl rfl rfl rfl rfl Try.ent79 (ih (p ++ l) (s1.drop S) (s2.drop K) q N _ _ _ (by (try simp only [List.length_take, List.length_drop, List.length_append]); omega) (by (try simp only [List.length_take, List.length_drop, List.length_append]); omega) (by (try simp only [List.length_take, List.length_drop, List.length_append]); omega) (by (try simp only [List.length_take, List.length_drop, List.length_append]); omega) (by (try simp only [List.length_take, List.length_drop, List.length_append]); omega) (by (try simp only [List.length_take, List.length_drop, List.length_append]); omega) (by (try simp only [List.length_take, List.length_drop, List.length_append]); omega) (hs1.drop S) (hs2.drop K) hM) ?_
          rintro r zs ⟨rq, hr1, hr2, rfl⟩
          first | refine aops_end ?_ | refine aops_nil ?_
          first
          | exact ⟨_, _, _, Le.refl _, rfl, rfl, l ++ rq, halves_perm hl1 hr1, Srt.append hl2 hr2 (sep_perm hl1 hr1 hsep), by simp only [List.append_assoc]⟩
          | exact ⟨_, _, _, Le.refl _, rfl, rfl, l ++ (s1.drop S ++ s2.drop K), halves_perm hl1 (.refl _), Srt.append hl2 (srt_right hs1 hs2 (by omega)) (sep_perm hl1 (.refl _) hsep), by simp only [List.append_assoc]⟩
         ·
          try simp only [bs] at hc19
          refine aw_skip ?_
          first
          | exact ⟨_, _, _, Le.refl _, rfl, rfl, l ++ rq, halves_perm hl1 hr1, Srt.append hl2 hr2 (sep_perm hl1 hr1 hsep), by simp only [List.append_assoc]⟩
          | exact ⟨_, _, _, Le.refl _, rfl, rfl, l ++ (s1.drop S ++ s2.drop K), halves_perm hl1 (.refl _), Srt.append hl2 (srt_right hs1 hs2 (by omega)) (sep_perm hl1 (.refl _) hsep), by simp only [List.append_assoc]⟩
        ·
         try simp only [bs] at hg18
         refine x_guard_f rfl rfl rfl ?_
         refine x_guard_f rfl rfl rfl ?_
         refine x_pure rfl (p_pick_f rfl rfl) ?_
         first | refine aops_end ?_ | refine aops_nil ?_
         refine hK47 _ ?_
         refine aw_cond_f rfl ?_
         refine aw_skip ?_
         first
         | exact ⟨_, _, _, Le.refl _, rfl, rfl, l ++ rq, halves_perm hl1 hr1, Srt.append hl2 hr2 (sep_perm hl1 hr1 hsep), by simp only [List.append_assoc]⟩
         | exact ⟨_, _, _, Le.refl _, rfl, rfl, l ++ (s1.drop S ++ s2.drop K), halves_perm hl1 (.refl _), Srt.append hl2 (srt_right hs1 hs2 (by omega)) (sep_perm hl1 (.refl _) hsep), by simp only [List.append_assoc]⟩

theorem st_sym_den {g : Nat} (hent : ∀ args w, (callFunc g args).run Try.prog w = .ok (.enter g args) w) {c : Stay → Stay → Int} (hc : Tri c) (hcmp : ∀ x y : Stay, Den Try.prog g [.agg (stC x), .agg (stC y)] (· = .s (.int .i64 (c x y)))) : ∀ (NN : Nat) (p s1 s2 q : List Stay) (N : Nat) (za zm zb : Int), s1.length + s2.length ≤ NN → N = p.length + s1.length + s2.length + q.length → za = (p.length : Nat) → zm = ((p.length + s1.length : Nat) : Int) → zb = ((p.length + s1.length + s2.length : Nat) : Int) → 0 < s1.length → 0 < s2.length → Srt c s1 → Srt c s2 → N < 4611686018427387904 → DenM Try.prog 79 [.own E0 4 0 N, .s (.int .i64 za), .s (.int .i64 zm), .s (.int .i64 zb), .fn g []] 4 (List.map stC (p ++ (s1 ++ (s2 ++ q)))) (fun r ys => ∃ t : List Stay, t.Perm (s1 ++ s2) ∧ Srt c t ∧ ys = (List.map stC (p ++ (t ++ q))))
 | 0, p, s1, s2, q, N, za, zm, zb, hle, _, _, _, _, h01, _, _, _, _ => by exfalso; omega
 | NN + 1, p, s1, s2, q, N, za, zm, zb, hle, hN, hza, hzm, hzb, h01, h02, hs1, hs2, hM => st_symStep_den hent hc hcmp NN (st_sym_den hent hc hcmp NN) p s1 s2 q N za zm zb hle hN hza hzm hzb h01 h02 hs1 hs2 hM

set_option maxRecDepth 20000 in
set_option maxHeartbeats 4000000 in
theorem st_stable_den {g : Nat} (hent : ∀ args w, (callFunc g args).run Try.prog w = .ok (.enter g args) w) {c : Stay → Stay → Int} (hc : Tri c) (hcmp : ∀ x y : Stay, Den Try.prog g [.agg (stC x), .agg (stC y)] (· = .s (.int .i64 (c x y)))) (s0 : List Stay) (N : Nat) (hN : N = s0.length) (hM : N < 4611686018427387904)  : DenM Try.prog 66 [.own E0 4 0 N, .s (.int .i64 (N : Nat)), .fn g []] 4 ((List.map stC (s0))) (fun r ys => ∃ t : List Stay, t.Perm s0 ∧ Srt c t ∧ ys = (List.map stC (t))) := by
 refine denm_of_aw Try.func66 rfl (Nat.le_of_ble_eq_true rfl) (fun w0 x0 A hf => ?_)
 refine aw_seq_k (fun K1 hK1 => ?_)
 refine aw_region ?_
 refine x_pure rfl (p_assign rfl) ?_
 first | refine aops_end ?_ | refine aops_nil ?_
 refine hK1 _ ?_
 refine aw_seq_k (fun K2 hK2 => ?_)
 refine aw_region ?_
 refine x_pure rfl (p_move rfl) ?_
 refine x_pure rfl (p_assign rfl) ?_
 refine x_pure rfl (p_assign rfl) ?_
 first | refine aops_end ?_ | refine aops_nil ?_
 refine hK2 _ ?_
 refine aw_seq_k (fun K3 hK3 => ?_)
 refine aw_block ?_
 refine aw_loop (ι := List Stay × List Stay) (fun (⟨x, y⟩ : List Stay × List Stay) => ⟨63, [(0, .own E0 4 0 N), (1, .s (.int .i64 (N : Nat))), (2, .fn g []), (6, .s (.int .i64 20)), (7, .s (.int .i64 (x.length : Nat))), (8, .s (.int .i64 ((x.length + 20 : Nat) : Int)))], [(E0, .buf 4 (List.map stC (x ++ y)))]⟩) (fun (⟨x, y⟩ : List Stay × List Stay) => Fu c 20 x ∧ (x ++ y).Perm s0) (fun (⟨x, y⟩ : List Stay × List Stay) => y.length) ([], s0) ?_ ?_ ?_
 · exact ⟨.nil, .refl _⟩
 · exact le_of ⟨rfl, rfl, rfl, rfl, rfl, rfl, trivial⟩
 ·
  rintro ⟨x, y⟩ hC
  obtain ⟨hd, hp⟩ := hC
  have hpl := hp.length_eq
  rw [List.length_append] at hpl
  refine aw_seq_k (fun K4 hK4 => ?_)
  refine aw_seq_k (fun K5 hK5 => ?_)
  refine aw_region ?_
  refine x_pure rfl (p_move rfl) ?_
  refine x_pure rfl (p_move rfl) ?_
  refine x_pure rfl (p_bin rfl rfl rfl) ?_
  first | refine aops_end ?_ | refine aops_nil ?_
  refine hK5 _ ?_
  refine aw_cond_s rfl (fun hc1 => ?_) (fun hc1 => ?_)
  ·
   try simp only [bs] at hc1
   refine aw_skip ?_
   refine hK4 _ ?_
   refine aw_block ?_
   refine aw_seq_k (fun K6 hK6 => ?_)
   refine aw_region ?_
   have htk := List.length_take (i := 20) (l := y)
   have hdk := List.length_drop (i := 20) (l := y)
   rw [show x ++ y = x ++ (y.take 20 ++ y.drop 20) from by rw [List.take_append_drop]]
   refine x_pure rfl (p_move rfl) ?_
   refine x_pure rfl (p_move rfl) ?_
   refine x_pure rfl (p_move rfl) ?_
   refine x_pure rfl (p_move rfl) ?_
   refine y_callM hf E0 rfl rfl rfl rfl rfl Try.ent78 (st_ins_den hent hc hcmp x (y.take 20) (y.drop 20) N _ _ (by omega) (by omega) (by omega) hM) ?_
   rintro r zs ⟨t, ht1, ht2, rfl⟩
   have htl := ht1.length_eq
   first | refine aops_end ?_ | refine aops_nil ?_
   refine hK6 _ ?_
   refine aw_seq_k (fun K7 hK7 => ?_)
   refine aw_region ?_
   refine x_pure rfl (p_move rfl) ?_
   refine x_pure rfl (p_assign rfl) ?_
   first | refine aops_end ?_ | refine aops_nil ?_
   refine hK7 _ ?_
   refine aw_region ?_
   refine x_pure rfl (p_move rfl) ?_
   refine x_pure rfl (p_move rfl) ?_
   first | refine x_pure rfl (p_add rfl rfl (by omega) (by omega)) ?_ | refine x_pure rfl (p_bin rfl rfl rfl) ?_
   refine x_pure rfl (p_assign rfl) ?_
   first | refine aops_end ?_ | refine aops_nil ?_
   exact ⟨(x ++ t, y.drop 20), ⟨.cons hd ht2 (by have := ht1.length_eq; rw [List.length_take] at this; omega), (show ((x ++ t) ++ y.drop 20).Perm s0 from (by rw [List.append_assoc]; exact (List.Perm.append_left x ((List.Perm.append_right _ ht1).trans (by rw [List.take_append_drop]))).trans hp))⟩, by simp only [List.length_drop]; omega, le_to ⟨(by first | rfl | exact slot_int (by simp only [List.length_append]; omega)), (by first | rfl | exact slot_int (by simp only [List.length_append]; omega)), (by first | rfl | exact slot_int (by simp only [List.length_append]; omega)), (by first | rfl | exact slot_int (by simp only [List.length_append]; omega)), (by first | rfl | exact slot_int (by simp only [List.length_append]; omega)), (by first | rfl | exact slot_int (by simp only [List.length_append]; omega)), trivial⟩ (by rw [List.append_assoc]; rfl)⟩
  ·
   try simp only [bs] at hc1
   refine aw_exit ?_
   refine hK3 _ ?_
   refine aw_seq_k (fun K8 hK8 => ?_)
   refine aw_region ?_
   rw [show x ++ y = x ++ (y ++ []) from by rw [List.append_nil]]
   refine x_pure rfl (p_move rfl) ?_
   refine x_pure rfl (p_move rfl) ?_
   refine x_pure rfl (p_move rfl) ?_
   refine x_pure rfl (p_move rfl) ?_
   refine y_callM hf E0 rfl rfl rfl rfl rfl Try.ent78 (st_ins_den hent hc hcmp x y [] N _ _ (by simp only [List.length_nil]; omega) (by omega) (by omega) hM) ?_
   rintro r zs ⟨t0, ht01, ht02, rfl⟩
   first | refine aops_end ?_ | refine aops_nil ?_
   refine hK8 _ ?_
   refine aw_block ?_
   refine aw_loop (ι := Nat × List Stay) (fun (⟨bz, l⟩ : Nat × List Stay) => ⟨63, [(0, .own E0 4 0 N), (1, .s (.int .i64 (N : Nat))), (2, .fn g []), (6, .s (.int .i64 (bz : Nat)))], [(E0, .buf 4 (List.map stC (l)))]⟩) (fun (⟨bz, l⟩ : Nat × List Stay) => 0 < bz ∧ bz < 9223372036854775808 ∧ Ch c bz l ∧ l.Perm s0) (fun (⟨bz, l⟩ : Nat × List Stay) => N - bz) (20, x ++ t0) ?_ ?_ ?_
   · exact ⟨by decide, by decide, hd.ch (.last ht02 (by have := ht01.length_eq; omega)), (List.Perm.append_left x ht01).trans hp⟩
   · exact le_to ⟨rfl, rfl, rfl, rfl, trivial⟩ (by rw [List.append_nil]; rfl)
   ·
    rintro ⟨bz, l⟩ hC
    obtain ⟨hb0, hb1, hch, hlp⟩ := hC
    have hll := hlp.length_eq
    refine aw_seq_k (fun K9 hK9 => ?_)
    refine aw_seq_k (fun K10 hK10 => ?_)
    refine aw_region ?_
    refine x_pure rfl (p_move rfl) ?_
    refine x_pure rfl (p_move rfl) ?_
    refine x_pure rfl (p_bin rfl rfl rfl) ?_
    first | refine aops_end ?_ | refine aops_nil ?_
    refine hK10 _ ?_
    refine aw_cond_s rfl (fun hc2 => ?_) (fun hc2 => ?_)
    ·
     try simp only [bs] at hc2
     refine aw_skip ?_
     refine hK9 _ ?_
     refine aw_block ?_
     refine aw_seq_k (fun K11 hK11 => ?_)
     refine aw_region ?_
     refine x_pure rfl (p_move rfl) ?_
     refine x_pure rfl (p_mul rfl rfl rfl (by omega) (by omega)) ?_
     refine x_pure rfl (p_assign rfl) ?_
     refine x_pure rfl (p_assign rfl) ?_
     first | refine aops_end ?_ | refine aops_nil ?_
     refine hK11 _ ?_
     refine aw_seq_k (fun K12 hK12 => ?_)
     refine aw_block ?_
     refine aw_loop (ι := List Stay × List Stay) (fun (⟨x, y⟩ : List Stay × List Stay) => ⟨63, [(0, .own E0 4 0 N), (1, .s (.int .i64 (N : Nat))), (2, .fn g []), (6, .s (.int .i64 (bz : Nat))), (7, .s (.int .i64 (x.length : Nat))), (8, .s (.int .i64 ((x.length + 2 * bz : Nat) : Int)))], [(E0, .buf 4 (List.map stC (x ++ y)))]⟩) (fun (⟨x, y⟩ : List Stay × List Stay) => Fu c (2 * bz) x ∧ Ch c bz y ∧ (x ++ y).Perm s0) (fun (⟨x, y⟩ : List Stay × List Stay) => y.length) ([], l) ?_ ?_ ?_
     · exact ⟨.nil, hch, hlp⟩
     · exact le_to ⟨rfl, rfl, rfl, rfl, rfl, slot_int (by simp only [List.length_nil]; omega), trivial⟩ rfl
     ·
      rintro ⟨x, y⟩ hC
      obtain ⟨hd2, hr2, hp2⟩ := hC
      have hpl2 := hp2.length_eq
      rw [List.length_append] at hpl2
      refine aw_seq_k (fun K13 hK13 => ?_)
      refine aw_seq_k (fun K14 hK14 => ?_)
      refine aw_region ?_
      refine x_pure rfl (p_move rfl) ?_
      refine x_pure rfl (p_move rfl) ?_
      refine x_pure rfl (p_bin rfl rfl rfl) ?_
      first | refine aops_end ?_ | refine aops_nil ?_
      refine hK14 _ ?_
      refine aw_cond_s rfl (fun hc3 => ?_) (fun hc3 => ?_)
      ·
       try simp only [bs] at hc3
       refine aw_skip ?_
       refine hK13 _ ?_
       refine aw_block ?_
       refine aw_seq_k (fun K15 hK15 => ?_)
       refine aw_region ?_
       obtain ⟨sa, sb, r3, hy, hsa1, hsa2, hsb1, hsb2, hr3⟩ := hr2.pair hb0 (by omega)
       subst hy
       simp only [List.length_append] at hpl2
       refine x_pure rfl (p_move rfl) ?_
       refine x_pure rfl (p_move rfl) ?_
       refine x_pure rfl (p_move rfl) ?_
       refine x_pure rfl (p_move rfl) ?_
       first | refine x_pure rfl (p_add rfl rfl (by omega) (by omega)) ?_ | refine x_pure rfl (p_bin rfl rfl rfl) ?_
       refine x_pure rfl (p_move rfl) ?_
       refine x_pure rfl (p_move rfl) ?_
       refine y_callM hf E0 rfl rfl rfl rfl rfl Try.ent79 (st_sym_den hent hc hcmp (sa.length + sb.length) x sa sb r3 N _ _ _ (Nat.le_refl _) (by omega) (by omega) (by omega) (by omega) (by omega) (by omega) hsa1 hsb1 hM) ?_
       rintro r zs ⟨tt, htt1, htt2, rfl⟩
       have httl := htt1.length_eq
       rw [List.length_append] at httl
       first | refine aops_end ?_ | refine aops_nil ?_
       refine hK15 _ ?_
       refine aw_seq_k (fun K16 hK16 => ?_)
       refine aw_region ?_
       refine x_pure rfl (p_move rfl) ?_
       refine x_pure rfl (p_assign rfl) ?_
       first | refine aops_end ?_ | refine aops_nil ?_
       refine hK16 _ ?_
       refine aw_region ?_
       refine x_pure rfl (p_move rfl) ?_
       refine x_pure rfl (p_move rfl) ?_
       refine x_pure rfl (p_mul rfl rfl rfl (by omega) (by omega)) ?_
       first | refine x_pure rfl (p_add rfl rfl (by omega) (by omega)) ?_ | refine x_pure rfl (p_bin rfl rfl rfl) ?_
       refine x_pure rfl (p_assign rfl) ?_
       first | refine aops_end ?_ | refine aops_nil ?_
       exact ⟨(x ++ tt, r3), ⟨.cons hd2 htt2 (by have := htt1.length_eq; rw [List.length_append] at this; omega), hr3, (show ((x ++ tt) ++ r3).Perm s0 from (by rw [List.append_assoc]; exact (List.Perm.append_left x ((List.Perm.append_right r3 htt1).trans (by rw [List.append_assoc]))).trans hp2))⟩, by simp only [List.length_append]; omega, le_to ⟨(by first | rfl | exact slot_int (by simp only [List.length_append]; omega)), (by first | rfl | exact slot_int (by simp only [List.length_append]; omega)), (by first | rfl | exact slot_int (by simp only [List.length_append]; omega)), (by first | rfl | exact slot_int (by simp only [List.length_append]; omega)), (by first | rfl | exact slot_int (by simp only [List.length_append]; omega)), (by first | rfl | exact slot_int (by simp only [List.length_append]; omega)), trivial⟩ (by rw [List.append_assoc]; rfl)⟩
      ·
       try simp only [bs] at hc3
       refine aw_exit ?_
       refine hK12 _ ?_
       refine aw_seq_k (fun K17 hK17 => ?_)
       refine aw_seq_k (fun K18 hK18 => ?_)
       refine aw_region ?_
       refine x_pure rfl (p_move rfl) ?_
       refine x_pure rfl (p_move rfl) ?_
       first | refine x_pure rfl (p_add rfl rfl (by omega) (by omega)) ?_ | refine x_pure rfl (p_bin rfl rfl rfl) ?_
       refine x_pure rfl (p_assign rfl) ?_
       first | refine aops_end ?_ | refine aops_nil ?_
       refine hK18 _ ?_
       refine aw_seq_k (fun K19 hK19 => ?_)
       refine aw_region ?_
       refine x_pure rfl (p_move rfl) ?_
       refine x_pure rfl (p_move rfl) ?_
       refine x_pure rfl (p_bin rfl rfl rfl) ?_
       first | refine aops_end ?_ | refine aops_nil ?_
       refine hK19 _ ?_
       refine aw_cond_s rfl (fun hc4 => ?_) (fun hc4 => ?_)
       ·
        try simp only [bs] at hc4
        refine aw_region ?_
        obtain ⟨sa, sb, hy, hsa1, hsa2, hsb1, hsb2⟩ := hr2.rest (by omega) (by omega)
        subst hy
        simp only [List.length_append] at hpl2
        rw [show x ++ (sa ++ sb) = x ++ (sa ++ (sb ++ [])) from by rw [List.append_nil]]
        refine x_pure rfl (p_move rfl) ?_
        refine x_pure rfl (p_move rfl) ?_
        refine x_pure rfl (p_move rfl) ?_
        refine x_pure rfl (p_move rfl) ?_
        refine x_pure rfl (p_move rfl) ?_
        refine y_callM hf E0 rfl rfl rfl rfl rfl Try.ent79 (st_sym_den hent hc hcmp (sa.length + sb.length) x sa sb [] N _ _ _ (Nat.le_refl _) (by simp only [List.length_nil]; omega) (by omega) (by omega) (by omega) (by omega) (by omega) hsa1 hsb1 hM) ?_
        rintro r zs ⟨tq, htq1, htq2, rfl⟩
        first | refine aops_end ?_ | refine aops_nil ?_
        refine hK17 _ ?_
        refine aw_region ?_
        refine x_pure rfl (p_move rfl) ?_
        refine x_pure rfl (p_mul rfl rfl rfl (by omega) (by omega)) ?_
        refine x_pure rfl (p_assign rfl) ?_
        first | refine aops_end ?_ | refine aops_nil ?_
        first
        | exact ⟨(2 * bz, x ++ tq), ⟨by omega, by omega, hd2.ch (.last htq2 (by have := htq1.length_eq; rw [List.length_append] at this; omega)), (List.Perm.append_left x htq1).trans hp2⟩, by simp only; omega, le_to ⟨(by first | rfl | exact slot_int (by omega)), (by first | rfl | exact slot_int (by omega)), (by first | rfl | exact slot_int (by omega)), (by first | rfl | exact slot_int (by omega)), trivial⟩ (by rw [List.append_nil]; rfl)⟩
        | exact ⟨(2 * bz, x ++ y), ⟨by omega, by omega, hd2.ch (.last (hr2.short (by omega)) (by omega)), hp2⟩, by simp only; omega, le_to ⟨(by first | rfl | exact slot_int (by omega)), (by first | rfl | exact slot_int (by omega)), (by first | rfl | exact slot_int (by omega)), (by first | rfl | exact slot_int (by omega)), trivial⟩ rfl⟩
       ·
        try simp only [bs] at hc4
        refine aw_skip ?_
        refine hK17 _ ?_
        refine aw_region ?_
        refine x_pure rfl (p_move rfl) ?_
        refine x_pure rfl (p_mul rfl rfl rfl (by omega) (by omega)) ?_
        refine x_pure rfl (p_assign rfl) ?_
        first | refine aops_end ?_ | refine aops_nil ?_
        first
        | exact ⟨(2 * bz, x ++ tq), ⟨by omega, by omega, hd2.ch (.last htq2 (by have := htq1.length_eq; rw [List.length_append] at this; omega)), (List.Perm.append_left x htq1).trans hp2⟩, by simp only; omega, le_to ⟨(by first | rfl | exact slot_int (by omega)), (by first | rfl | exact slot_int (by omega)), (by first | rfl | exact slot_int (by omega)), (by first | rfl | exact slot_int (by omega)), trivial⟩ (by rw [List.append_nil]; rfl)⟩
        | exact ⟨(2 * bz, x ++ y), ⟨by omega, by omega, hd2.ch (.last (hr2.short (by omega)) (by omega)), hp2⟩, by simp only; omega, le_to ⟨(by first | rfl | exact slot_int (by omega)), (by first | rfl | exact slot_int (by omega)), (by first | rfl | exact slot_int (by omega)), (by first | rfl | exact slot_int (by omega)), trivial⟩ rfl⟩
    ·
     try simp only [bs] at hc2
     refine aw_exit ?_
     exact ⟨_, _, _, Le.refl _, rfl, rfl, l, hlp, hch.short (by omega), rfl⟩

set_option maxRecDepth 20000 in
set_option maxHeartbeats 400000 in
theorem st_sortStable_den {g : Nat} (hent : ∀ args w, (callFunc g args).run Try.prog w = .ok (.enter g args) w) {c : Stay → Stay → Int} (hc : Tri c) (hcmp : ∀ x y : Stay, Den Try.prog g [.agg (stC x), .agg (stC y)] (· = .s (.int .i64 (c x y)))) (s0 : List Stay) (N : Nat) (hN : N = s0.length) (hM : N < 4611686018427387904)  : DenM Try.prog 50 [.own E0 4 0 N, .fn g []] 4 ((List.map stC (s0))) (fun r ys => ∃ t : List Stay, t.Perm s0 ∧ Srt c t ∧ ys = (List.map stC (t))) := by
 refine denm_of_aw Try.func50 rfl (Nat.le_of_ble_eq_true rfl) (fun w0 x0 A hf => ?_)
 refine aw_region ?_
 refine x_pure rfl (p_move rfl) ?_
 refine x_pure rfl (p_move rfl) ?_
 first | refine x_pure rfl (p_len_sl rfl Try.e63) ?_ | refine x_pure rfl (p_len_own rfl Try.e63) ?_ | refine x_pure rfl (p_len_nil rfl Try.e63) ?_
 refine x_pure rfl (p_move rfl) ?_
 refine y_callM hf E0 rfl rfl rfl rfl rfl Try.ent66 (st_stable_den hent hc hcmp s0 N hN hM) ?_
 rintro r zs ⟨t, ht1, ht2, rfl⟩
 first | refine aops_end ?_ | refine aops_nil ?_
 exact ⟨_, _, _, Le.refl _, rfl, rfl, t, ht1, ht2, rfl⟩
end Go.Proofs.Ytcjchfocohagdaa
