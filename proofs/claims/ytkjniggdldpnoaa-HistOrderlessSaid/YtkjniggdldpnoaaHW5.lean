import Derived.Test.YtkjniggdldpnoaaHW4
set_option linter.unusedVariables false
set_option linter.unusedSimpArgs false
namespace Go.Proofs.Ytkjniggdldpnoaa
open Go Go.Abs

set_option maxRecDepth 20000 in
set_option maxHeartbeats 8000000 in
theorem histOrders_den (a b : Stay) (l : List Stay) (hl : l.length * 32 ≤ 140737488351232)  : Den Try.prog 7 [.agg (stC a ++ stC b), .sl 4 (l.map stC)]  (· = .s (.bool true)) := by
 refine den_of_aw Try.func7 rfl (Nat.le_of_ble_eq_true rfl) (fun w0 A hf => ?_)
 refine aw_seq_k (fun K1 hK1 => ?_)
 refine aw_region ?_
 refine x_step hf rfl (r_box rfl rfl (by simp [stC, AV.cells, AV.leaf, Value.oneCell', splice, AV.kill, AV.clean, cleanL, AV.only])) ?_
 refine x_pure rfl (p_assign_bad) ?_
 first | refine aops_end ?_ | refine aops_nil ?_
 refine hK1 _ ?_
 refine aw_seq_k (fun K2 hK2 => ?_)
 refine aw_region_any Try.mixed ?_
 refine af_step (listed' := #[true, false, false, false, false, false, false, false]) 0 rfl (by kernel_rfl) (by kernel_rfl) (by kernel_rfl) rfl (fun _ _ h => h) (w_idx_arr rfl rfl Try.ar53 Try.c52 (by first | decide | omega) rfl) ?_
 refine af_step (listed' := #[true, false, true, false, false, false, false, false]) 2 rfl (by kernel_rfl) (by kernel_rfl) (by kernel_rfl) rfl (fun _ _ h => h) (w_idx_arr rfl rfl Try.ar53 Try.c52 (by first | decide | omega) rfl) ?_
 refine aany_le (le_of (sl' := [(1, _), (8, _), (10, _)]) ⟨rfl, rfl, rfl, trivial⟩) ?_
 suffices hj : AAny _ _ _ _ _ 1 #[true, true, true, true, true, true, true, false] ⟨50, [(1, .sl 4 (l.map stC)), (11, .agg (stC b)), (5, .ref 5 0 0 0), (6, .ref 6 0 0 0)], [(5, .box (stC a)), (6, .box [.s (.int .i64 0), .s (.int .i64 0), .s (.int .i64 0), .s (.int .i64 0)])]⟩ by
  refine aany_step 1 [3, 4, 5] (by kernel_rfl) ⟨?_, ?_, ?_, ?_, trivial⟩
  ·
   refine ⟨_, rfl, rfl, ?_⟩
   refine aop_of_aops (ops := #[]) rfl ?_
   first | refine x_pure rfl (p_loads rfl Try.g52 Try.c52 rfl rfl) ?_ | refine x_pure rfl (p_loadsr rfl Try.g52 Try.c52 rfl rfl rfl) ?_
   refine aops_any ?_
   refine aany_step 3 [4, 5] (by kernel_rfl) ⟨?_, ?_, ?_, trivial⟩
   ·
    refine ⟨_, rfl, rfl, ?_⟩
    refine aop_of_aops (ops := #[]) rfl ?_
    first | refine x_pure rfl (p_loads rfl Try.g52 Try.c52 rfl rfl) ?_ | refine x_pure rfl (p_loadsr rfl Try.g52 Try.c52 rfl rfl rfl) ?_
    refine aops_any ?_
    refine aany_step 4 [5] (by kernel_rfl) ⟨?_, ?_, trivial⟩
    ·
     refine ⟨_, rfl, rfl, ?_⟩
     refine aop_of_aops (ops := #[]) rfl ?_
     refine x_alloc hf rfl rfl rfl Try.z52 ?_
     refine aops_any ?_
     refine aany_step 5 [] (by kernel_rfl) ⟨?_, trivial⟩
     ·
      refine ⟨_, rfl, rfl, ?_⟩
      refine aop_of_aops (ops := #[]) rfl ?_
      refine x_alloc hf rfl rfl rfl Try.z52 ?_
      refine aops_any ?_
      refine aany_step 6 [] (by kernel_rfl) ⟨?_, trivial⟩
      ·
       refine ⟨_, rfl, rfl, ?_⟩
       refine aop_of_aops (ops := #[]) rfl ?_
       refine x_store hf rfl rfl Try.c52 rfl rfl (by simp [stC, AV.cells, AV.one, Value.oneCell', splice, AV.kill, AV.clean, cleanL, AV.only]) (by simp [stC, AV.cells, AV.leaf, Value.oneCell', splice, AV.kill, AV.clean, cleanL, AV.only]) rfl ?_
       refine aops_any ?_
       refine aany_le ?_ hj
       exact le_mem ⟨rfl, rfl, rfl, rfl, trivial⟩ (by intro g; first | rfl | exact look_swap (by decide))
    ·
     refine ⟨_, rfl, rfl, ?_⟩
     refine aop_of_aops (ops := #[]) rfl ?_
     refine x_alloc hf rfl rfl rfl Try.z52 ?_
     refine aops_any ?_
     refine aany_step 4 [] (by kernel_rfl) ⟨?_, trivial⟩
     ·
      refine ⟨_, rfl, rfl, ?_⟩
      refine aop_of_aops (ops := #[]) rfl ?_
      refine x_alloc hf rfl rfl rfl Try.z52 ?_
      refine aops_any ?_
      refine aany_step 6 [] (by kernel_rfl) ⟨?_, trivial⟩
      ·
       refine ⟨_, rfl, rfl, ?_⟩
       refine aop_of_aops (ops := #[]) rfl ?_
       refine x_store hf rfl rfl Try.c52 rfl rfl (by simp [stC, AV.cells, AV.one, Value.oneCell', splice, AV.kill, AV.clean, cleanL, AV.only]) (by simp [stC, AV.cells, AV.leaf, Value.oneCell', splice, AV.kill, AV.clean, cleanL, AV.only]) rfl ?_
       refine aops_any ?_
       refine aany_le ?_ hj
       exact le_mem ⟨rfl, rfl, rfl, rfl, trivial⟩ (by intro g; first | rfl | exact look_swap (by decide))
   ·
    refine ⟨_, rfl, rfl, ?_⟩
    refine aop_of_aops (ops := #[]) rfl ?_
    refine x_alloc hf rfl rfl rfl Try.z52 ?_
    refine aops_any ?_
    refine aany_step 3 [5] (by kernel_rfl) ⟨?_, ?_, trivial⟩
    ·
     refine ⟨_, rfl, rfl, ?_⟩
     refine aop_of_aops (ops := #[]) rfl ?_
     first | refine x_pure rfl (p_loads rfl Try.g52 Try.c52 rfl rfl) ?_ | refine x_pure rfl (p_loadsr rfl Try.g52 Try.c52 rfl rfl rfl) ?_
     refine aops_any ?_
     refine aany_step 5 [] (by kernel_rfl) ⟨?_, trivial⟩
     ·
      refine ⟨_, rfl, rfl, ?_⟩
      refine aop_of_aops (ops := #[]) rfl ?_
      refine x_alloc hf rfl rfl rfl Try.z52 ?_
      refine aops_any ?_
      refine aany_step 6 [] (by kernel_rfl) ⟨?_, trivial⟩
      ·
       refine ⟨_, rfl, rfl, ?_⟩
       refine aop_of_aops (ops := #[]) rfl ?_
       refine x_store hf rfl rfl Try.c52 rfl rfl (by simp [stC, AV.cells, AV.one, Value.oneCell', splice, AV.kill, AV.clean, cleanL, AV.only]) (by simp [stC, AV.cells, AV.leaf, Value.oneCell', splice, AV.kill, AV.clean, cleanL, AV.only]) rfl ?_
       refine aops_any ?_
       refine aany_le ?_ hj
       exact le_mem ⟨rfl, rfl, rfl, rfl, trivial⟩ (by intro g; first | rfl | exact look_swap (by decide))
    ·
     refine ⟨_, rfl, rfl, ?_⟩
     refine aop_of_aops (ops := #[]) rfl ?_
     refine x_alloc hf rfl rfl rfl Try.z52 ?_
     refine aops_any ?_
     refine aany_step 3 [6] (by kernel_rfl) ⟨?_, ?_, trivial⟩
     ·
      refine ⟨_, rfl, rfl, ?_⟩
      refine aop_of_aops (ops := #[]) rfl ?_
      first | refine x_pure rfl (p_loads rfl Try.g52 Try.c52 rfl rfl) ?_ | refine x_pure rfl (p_loadsr rfl Try.g52 Try.c52 rfl rfl rfl) ?_
      refine aops_any ?_
      refine aany_step 6 [] (by kernel_rfl) ⟨?_, trivial⟩
      ·
       refine ⟨_, rfl, rfl, ?_⟩
       refine aop_of_aops (ops := #[]) rfl ?_
       refine x_store hf rfl rfl Try.c52 rfl rfl (by simp [stC, AV.cells, AV.one, Value.oneCell', splice, AV.kill, AV.clean, cleanL, AV.only]) (by simp [stC, AV.cells, AV.leaf, Value.oneCell', splice, AV.kill, AV.clean, cleanL, AV.only]) rfl ?_
       refine aops_any ?_
       refine aany_le ?_ hj
       exact le_mem ⟨rfl, rfl, rfl, rfl, trivial⟩ (by intro g; first | rfl | exact look_swap (by decide))
     ·
      refine ⟨_, rfl, rfl, ?_⟩
      refine aop_of_aops (ops := #[]) rfl ?_
      refine x_store hf rfl rfl Try.c52 rfl rfl (by simp [stC, AV.cells, AV.one, Value.oneCell', splice, AV.kill, AV.clean, cleanL, AV.only]) (by simp [stC, AV.cells, AV.leaf, Value.oneCell', splice, AV.kill, AV.clean, cleanL, AV.only]) rfl ?_
      refine aops_any ?_
      refine aany_step 3 [] (by kernel_rfl) ⟨?_, trivial⟩
      ·
       refine ⟨_, rfl, rfl, ?_⟩
       refine aop_of_aops (ops := #[]) rfl ?_
       first | refine x_pure rfl (p_loads rfl Try.g52 Try.c52 rfl rfl) ?_ | refine x_pure rfl (p_loadsr rfl Try.g52 Try.c52 rfl rfl rfl) ?_
       refine aops_any ?_
       refine aany_le ?_ hj
       exact le_mem ⟨rfl, rfl, rfl, rfl, trivial⟩ (by intro g; first | rfl | exact look_swap (by decide))
   ·
    refine ⟨_, rfl, rfl, ?_⟩
    refine aop_of_aops (ops := #[]) rfl ?_
    refine x_alloc hf rfl rfl rfl Try.z52 ?_
    refine aops_any ?_
    refine aany_step 3 [4] (by kernel_rfl) ⟨?_, ?_, trivial⟩
    ·
     refine ⟨_, rfl, rfl, ?_⟩
     refine aop_of_aops (ops := #[]) rfl ?_
     first | refine x_pure rfl (p_loads rfl Try.g52 Try.c52 rfl rfl) ?_ | refine x_pure rfl (p_loadsr rfl Try.g52 Try.c52 rfl rfl rfl) ?_
     refine aops_any ?_
     refine aany_step 4 [] (by kernel_rfl) ⟨?_, trivial⟩
     ·
      refine ⟨_, rfl, rfl, ?_⟩
      refine aop_of_aops (ops := #[]) rfl ?_
      refine x_alloc hf rfl rfl rfl Try.z52 ?_
      refine aops_any ?_
      refine aany_step 6 [] (by kernel_rfl) ⟨?_, trivial⟩
      ·
       refine ⟨_, rfl, rfl, ?_⟩
       refine aop_of_aops (ops := #[]) rfl ?_
       refine x_store hf rfl rfl Try.c52 rfl rfl (by simp [stC, AV.cells, AV.one, Value.oneCell', splice, AV.kill, AV.clean, cleanL, AV.only]) (by simp [stC, AV.cells, AV.leaf, Value.oneCell', splice, AV.kill, AV.clean, cleanL, AV.only]) rfl ?_
       refine aops_any ?_
       refine aany_le ?_ hj
       exact le_mem ⟨rfl, rfl, rfl, rfl, trivial⟩ (by intro g; first | rfl | exact look_swap (by decide))
    ·
     refine ⟨_, rfl, rfl, ?_⟩
     refine aop_of_aops (ops := #[]) rfl ?_
     refine x_alloc hf rfl rfl rfl Try.z52 ?_
     refine aops_any ?_
     refine aany_step 3 [6] (by kernel_rfl) ⟨?_, ?_, trivial⟩
     ·
      refine ⟨_, rfl, rfl, ?_⟩
      refine aop_of_aops (ops := #[]) rfl ?_
      first | refine x_pure rfl (p_loads rfl Try.g52 Try.c52 rfl rfl) ?_ | refine x_pure rfl (p_loadsr rfl Try.g52 Try.c52 rfl rfl rfl) ?_
      refine aops_any ?_
      refine aany_step 6 [] (by kernel_rfl) ⟨?_, trivial⟩
      ·
       refine ⟨_, rfl, rfl, ?_⟩
       refine aop_of_aops (ops := #[]) rfl ?_
       refine x_store hf rfl rfl Try.c52 rfl rfl (by simp [stC, AV.cells, AV.one, Value.oneCell', splice, AV.kill, AV.clean, cleanL, AV.only]) (by simp [stC, AV.cells, AV.leaf, Value.oneCell', splice, AV.kill, AV.clean, cleanL, AV.only]) rfl ?_
       refine aops_any ?_
       refine aany_le ?_ hj
       exact le_mem ⟨rfl, rfl, rfl, rfl, trivial⟩ (by intro g; first | rfl | exact look_swap (by decide))
     ·
      refine ⟨_, rfl, rfl, ?_⟩
      refine aop_of_aops (ops := #[]) rfl ?_
      refine x_store hf rfl rfl Try.c52 rfl rfl (by simp [stC, AV.cells, AV.one, Value.oneCell', splice, AV.kill, AV.clean, cleanL, AV.only]) (by simp [stC, AV.cells, AV.leaf, Value.oneCell', splice, AV.kill, AV.clean, cleanL, AV.only]) rfl ?_
      refine aops_any ?_
      refine aany_step 3 [] (by kernel_rfl) ⟨?_, trivial⟩
      ·
       refine ⟨_, rfl, rfl, ?_⟩
       refine aop_of_aops (ops := #[]) rfl ?_
       first | refine x_pure rfl (p_loads rfl Try.g52 Try.c52 rfl rfl) ?_ | refine x_pure rfl (p_loadsr rfl Try.g52 Try.c52 rfl rfl rfl) ?_
       refine aops_any ?_
       refine aany_le ?_ hj
       exact le_mem ⟨rfl, rfl, rfl, rfl, trivial⟩ (by intro g; first | rfl | exact look_swap (by decide))
  ·
   refine ⟨_, rfl, rfl, ?_⟩
   refine aop_of_aops (ops := #[]) rfl ?_
   first | refine x_pure rfl (p_loads rfl Try.g52 Try.c52 rfl rfl) ?_ | refine x_pure rfl (p_loadsr rfl Try.g52 Try.c52 rfl rfl rfl) ?_
   refine aops_any ?_
   refine aany_step 1 [4, 5] (by kernel_rfl) ⟨?_, ?_, ?_, trivial⟩
   ·
    refine ⟨_, rfl, rfl, ?_⟩
    refine aop_of_aops (ops := #[]) rfl ?_
    first | refine x_pure rfl (p_loads rfl Try.g52 Try.c52 rfl rfl) ?_ | refine x_pure rfl (p_loadsr rfl Try.g52 Try.c52 rfl rfl rfl) ?_
    refine aops_any ?_
    refine aany_step 4 [5] (by kernel_rfl) ⟨?_, ?_, trivial⟩
    ·
     refine ⟨_, rfl, rfl, ?_⟩
     refine aop_of_aops (ops := #[]) rfl ?_
     refine x_alloc hf rfl rfl rfl Try.z52 ?_
     refine aops_any ?_
     refine aany_step 5 [] (by kernel_rfl) ⟨?_, trivial⟩
     ·
      refine ⟨_, rfl, rfl, ?_⟩
      refine aop_of_aops (ops := #[]) rfl ?_
      refine x_alloc hf rfl rfl rfl Try.z52 ?_
      refine aops_any ?_
      refine aany_step 6 [] (by kernel_rfl) ⟨?_, trivial⟩
      ·
       refine ⟨_, rfl, rfl, ?_⟩
       refine aop_of_aops (ops := #[]) rfl ?_
       refine x_store hf rfl rfl Try.c52 rfl rfl (by simp [stC, AV.cells, AV.one, Value.oneCell', splice, AV.kill, AV.clean, cleanL, AV.only]) (by simp [stC, AV.cells, AV.leaf, Value.oneCell', splice, AV.kill, AV.clean, cleanL, AV.only]) rfl ?_
       refine aops_any ?_
       refine aany_le ?_ hj
       exact le_mem ⟨rfl, rfl, rfl, rfl, trivial⟩ (by intro g; first | rfl | exact look_swap (by decide))
    ·
     refine ⟨_, rfl, rfl, ?_⟩
     refine aop_of_aops (ops := #[]) rfl ?_
     refine x_alloc hf rfl rfl rfl Try.z52 ?_
     refine aops_any ?_
     refine aany_step 4 [] (by kernel_rfl) ⟨?_, trivial⟩
     ·
      refine ⟨_, rfl, rfl, ?_⟩
      refine aop_of_aops (ops := #[]) rfl ?_
      refine x_alloc hf rfl rfl rfl Try.z52 ?_
      refine aops_any ?_
      refine aany_step 6 [] (by kernel_rfl) ⟨?_, trivial⟩
      ·
       refine ⟨_, rfl, rfl, ?_⟩
       refine aop_of_aops (ops := #[]) rfl ?_
       refine x_store hf rfl rfl Try.c52 rfl rfl (by simp [stC, AV.cells, AV.one, Value.oneCell', splice, AV.kill, AV.clean, cleanL, AV.only]) (by simp [stC, AV.cells, AV.leaf, Value.oneCell', splice, AV.kill, AV.clean, cleanL, AV.only]) rfl ?_
       refine aops_any ?_
       refine aany_le ?_ hj
       exact le_mem ⟨rfl, rfl, rfl, rfl, trivial⟩ (by intro g; first | rfl | exact look_swap (by decide))
   ·
    refine ⟨_, rfl, rfl, ?_⟩
    refine aop_of_aops (ops := #[]) rfl ?_
    refine x_alloc hf rfl rfl rfl Try.z52 ?_
    refine aops_any ?_
    refine aany_step 1 [5] (by kernel_rfl) ⟨?_, ?_, trivial⟩
    ·
     refine ⟨_, rfl, rfl, ?_⟩
     refine aop_of_aops (ops := #[]) rfl ?_
     first | refine x_pure rfl (p_loads rfl Try.g52 Try.c52 rfl rfl) ?_ | refine x_pure rfl (p_loadsr rfl Try.g52 Try.c52 rfl rfl rfl) ?_
     refine aops_any ?_
     refine aany_step 5 [] (by kernel_rfl) ⟨?_, trivial⟩
     ·
      refine ⟨_, rfl, rfl, ?_⟩
      refine aop_of_aops (ops := #[]) rfl ?_
      refine x_alloc hf rfl rfl rfl Try.z52 ?_
      refine aops_any ?_
      refine aany_step 6 [] (by kernel_rfl) ⟨?_, trivial⟩
      ·
       refine ⟨_, rfl, rfl, ?_⟩
       refine aop_of_aops (ops := #[]) rfl ?_
       refine x_store hf rfl rfl Try.c52 rfl rfl (by simp [stC, AV.cells, AV.one, Value.oneCell', splice, AV.kill, AV.clean, cleanL, AV.only]) (by simp [stC, AV.cells, AV.leaf, Value.oneCell', splice, AV.kill, AV.clean, cleanL, AV.only]) rfl ?_
       refine aops_any ?_
       refine aany_le ?_ hj
       exact le_mem ⟨rfl, rfl, rfl, rfl, trivial⟩ (by intro g; first | rfl | exact look_swap (by decide))
    ·
     refine ⟨_, rfl, rfl, ?_⟩
     refine aop_of_aops (ops := #[]) rfl ?_
     refine x_alloc hf rfl rfl rfl Try.z52 ?_
     refine aops_any ?_
     refine aany_step 1 [] (by kernel_rfl) ⟨?_, trivial⟩
     ·
      refine ⟨_, rfl, rfl, ?_⟩
      refine aop_of_aops (ops := #[]) rfl ?_
      first | refine x_pure rfl (p_loads rfl Try.g52 Try.c52 rfl rfl) ?_ | refine x_pure rfl (p_loadsr rfl Try.g52 Try.c52 rfl rfl rfl) ?_
      refine aops_any ?_
      refine aany_step 6 [] (by kernel_rfl) ⟨?_, trivial⟩
      ·
       refine ⟨_, rfl, rfl, ?_⟩
       refine aop_of_aops (ops := #[]) rfl ?_
       refine x_store hf rfl rfl Try.c52 rfl rfl (by simp [stC, AV.cells, AV.one, Value.oneCell', splice, AV.kill, AV.clean, cleanL, AV.only]) (by simp [stC, AV.cells, AV.leaf, Value.oneCell', splice, AV.kill, AV.clean, cleanL, AV.only]) rfl ?_
       refine aops_any ?_
       refine aany_le ?_ hj
       exact le_mem ⟨rfl, rfl, rfl, rfl, trivial⟩ (by intro g; first | rfl | exact look_swap (by decide))
   ·
    refine ⟨_, rfl, rfl, ?_⟩
    refine aop_of_aops (ops := #[]) rfl ?_
    refine x_alloc hf rfl rfl rfl Try.z52 ?_
    refine aops_any ?_
    refine aany_step 1 [4] (by kernel_rfl) ⟨?_, ?_, trivial⟩
    ·
     refine ⟨_, rfl, rfl, ?_⟩
     refine aop_of_aops (ops := #[]) rfl ?_
     first | refine x_pure rfl (p_loads rfl Try.g52 Try.c52 rfl rfl) ?_ | refine x_pure rfl (p_loadsr rfl Try.g52 Try.c52 rfl rfl rfl) ?_
     refine aops_any ?_
     refine aany_step 4 [] (by kernel_rfl) ⟨?_, trivial⟩
     ·
      refine ⟨_, rfl, rfl, ?_⟩
      refine aop_of_aops (ops := #[]) rfl ?_
      refine x_alloc hf rfl rfl rfl Try.z52 ?_
      refine aops_any ?_
      refine aany_step 6 [] (by kernel_rfl) ⟨?_, trivial⟩
      ·
       refine ⟨_, rfl, rfl, ?_⟩
       refine aop_of_aops (ops := #[]) rfl ?_
       refine x_store hf rfl rfl Try.c52 rfl rfl (by simp [stC, AV.cells, AV.one, Value.oneCell', splice, AV.kill, AV.clean, cleanL, AV.only]) (by simp [stC, AV.cells, AV.leaf, Value.oneCell', splice, AV.kill, AV.clean, cleanL, AV.only]) rfl ?_
       refine aops_any ?_
       refine aany_le ?_ hj
       exact le_mem ⟨rfl, rfl, rfl, rfl, trivial⟩ (by intro g; first | rfl | exact look_swap (by decide))
    ·
     refine ⟨_, rfl, rfl, ?_⟩
     refine aop_of_aops (ops := #[]) rfl ?_
     refine x_alloc hf rfl rfl rfl Try.z52 ?_
     refine aops_any ?_
     refine aany_step 1 [] (by kernel_rfl) ⟨?_, trivial⟩
     ·
      refine ⟨_, rfl, rfl, ?_⟩
      refine aop_of_aops (ops := #[]) rfl ?_
      first | refine x_pure rfl (p_loads rfl Try.g52 Try.c52 rfl rfl) ?_ | refine x_pure rfl (p_loadsr rfl Try.g52 Try.c52 rfl rfl rfl) ?_
      refine aops_any ?_
      refine aany_step 6 [] (by kernel_rfl) ⟨?_, trivial⟩
      ·
       refine ⟨_, rfl, rfl, ?_⟩
       refine aop_of_aops (ops := #[]) rfl ?_
       refine x_store hf rfl rfl Try.c52 rfl rfl (by simp [stC, AV.cells, AV.one, Value.oneCell', splice, AV.kill, AV.clean, cleanL, AV.only]) (by simp [stC, AV.cells, AV.leaf, Value.oneCell', splice, AV.kill, AV.clean, cleanL, AV.only]) rfl ?_
       refine aops_any ?_
       refine aany_le ?_ hj
       exact le_mem ⟨rfl, rfl, rfl, rfl, trivial⟩ (by intro g; first | rfl | exact look_swap (by decide))
  ·
   refine ⟨_, rfl, rfl, ?_⟩
   refine aop_of_aops (ops := #[]) rfl ?_
   refine x_alloc hf rfl rfl rfl Try.z52 ?_
   refine aops_any ?_
   refine aany_step 1 [3, 5] (by kernel_rfl) ⟨?_, ?_, ?_, trivial⟩
   ·
    refine ⟨_, rfl, rfl, ?_⟩
    refine aop_of_aops (ops := #[]) rfl ?_
    first | refine x_pure rfl (p_loads rfl Try.g52 Try.c52 rfl rfl) ?_ | refine x_pure rfl (p_loadsr rfl Try.g52 Try.c52 rfl rfl rfl) ?_
    refine aops_any ?_
    refine aany_step 3 [5] (by kernel_rfl) ⟨?_, ?_, trivial⟩
    ·
     refine ⟨_, rfl, rfl, ?_⟩
     refine aop_of_aops (ops := #[]) rfl ?_
     first | refine x_pure rfl (p_loads rfl Try.g52 Try.c52 rfl rfl) ?_ | refine x_pure rfl (p_loadsr rfl Try.g52 Try.c52 rfl rfl rfl) ?_
     refine aops_any ?_
     refine aany_step 5 [] (by kernel_rfl) ⟨?_, trivial⟩
     ·
      refine ⟨_, rfl, rfl, ?_⟩
      refine aop_of_aops (ops := #[]) rfl ?_
      refine x_alloc hf rfl rfl rfl Try.z52 ?_
      refine aops_any ?_
      refine aany_step 6 [] (by kernel_rfl) ⟨?_, trivial⟩
      ·
       refine ⟨_, rfl, rfl, ?_⟩
       refine aop_of_aops (ops := #[]) rfl ?_
       refine x_store hf rfl rfl Try.c52 rfl rfl (by simp [stC, AV.cells, AV.one, Value.oneCell', splice, AV.kill, AV.clean, cleanL, AV.only]) (by simp [stC, AV.cells, AV.leaf, Value.oneCell', splice, AV.kill, AV.clean, cleanL, AV.only]) rfl ?_
       refine aops_any ?_
       refine aany_le ?_ hj
       exact le_mem ⟨rfl, rfl, rfl, rfl, trivial⟩ (by intro g; first | rfl | exact look_swap (by decide))
    ·
     refine ⟨_, rfl, rfl, ?_⟩
     refine aop_of_aops (ops := #[]) rfl ?_
     refine x_alloc hf rfl rfl rfl Try.z52 ?_
     refine aops_any ?_
     refine aany_step 3 [6] (by kernel_rfl) ⟨?_, ?_, trivial⟩
     ·
      refine ⟨_, rfl, rfl, ?_⟩
      refine aop_of_aops (ops := #[]) rfl ?_
      first | refine x_pure rfl (p_loads rfl Try.g52 Try.c52 rfl rfl) ?_ | refine x_pure rfl (p_loadsr rfl Try.g52 Try.c52 rfl rfl rfl) ?_
      refine aops_any ?_
      refine aany_step 6 [] (by kernel_rfl) ⟨?_, trivial⟩
      ·
       refine ⟨_, rfl, rfl, ?_⟩
       refine aop_of_aops (ops := #[]) rfl ?_
       refine x_store hf rfl rfl Try.c52 rfl rfl (by simp [stC, AV.cells, AV.one, Value.oneCell', splice, AV.kill, AV.clean, cleanL, AV.only]) (by simp [stC, AV.cells, AV.leaf, Value.oneCell', splice, AV.kill, AV.clean, cleanL, AV.only]) rfl ?_
       refine aops_any ?_
       refine aany_le ?_ hj
       exact le_mem ⟨rfl, rfl, rfl, rfl, trivial⟩ (by intro g; first | rfl | exact look_swap (by decide))
     ·
      refine ⟨_, rfl, rfl, ?_⟩
      refine aop_of_aops (ops := #[]) rfl ?_
      refine x_store hf rfl rfl Try.c52 rfl rfl (by simp [stC, AV.cells, AV.one, Value.oneCell', splice, AV.kill, AV.clean, cleanL, AV.only]) (by simp [stC, AV.cells, AV.leaf, Value.oneCell', splice, AV.kill, AV.clean, cleanL, AV.only]) rfl ?_
      refine aops_any ?_
      refine aany_step 3 [] (by kernel_rfl) ⟨?_, trivial⟩
      ·
       refine ⟨_, rfl, rfl, ?_⟩
       refine aop_of_aops (ops := #[]) rfl ?_
       first | refine x_pure rfl (p_loads rfl Try.g52 Try.c52 rfl rfl) ?_ | refine x_pure rfl (p_loadsr rfl Try.g52 Try.c52 rfl rfl rfl) ?_
       refine aops_any ?_
       refine aany_le ?_ hj
       exact le_mem ⟨rfl, rfl, rfl, rfl, trivial⟩ (by intro g; first | rfl | exact look_swap (by decide))
   ·
    refine ⟨_, rfl, rfl, ?_⟩
    refine aop_of_aops (ops := #[]) rfl ?_
    first | refine x_pure rfl (p_loads rfl Try.g52 Try.c52 rfl rfl) ?_ | refine x_pure rfl (p_loadsr rfl Try.g52 Try.c52 rfl rfl rfl) ?_
    refine aops_any ?_
    refine aany_step 1 [5] (by kernel_rfl) ⟨?_, ?_, trivial⟩
    ·
     refine ⟨_, rfl, rfl, ?_⟩
     refine aop_of_aops (ops := #[]) rfl ?_
     first | refine x_pure rfl (p_loads rfl Try.g52 Try.c52 rfl rfl) ?_ | refine x_pure rfl (p_loadsr rfl Try.g52 Try.c52 rfl rfl rfl) ?_
     refine aops_any ?_
     refine aany_step 5 [] (by kernel_rfl) ⟨?_, trivial⟩
     ·
      refine ⟨_, rfl, rfl, ?_⟩
      refine aop_of_aops (ops := #[]) rfl ?_
      refine x_alloc hf rfl rfl rfl Try.z52 ?_
      refine aops_any ?_
      refine aany_step 6 [] (by kernel_rfl) ⟨?_, trivial⟩
      ·
       refine ⟨_, rfl, rfl, ?_⟩
       refine aop_of_aops (ops := #[]) rfl ?_
       refine x_store hf rfl rfl Try.c52 rfl rfl (by simp [stC, AV.cells, AV.one, Value.oneCell', splice, AV.kill, AV.clean, cleanL, AV.only]) (by simp [stC, AV.cells, AV.leaf, Value.oneCell', splice, AV.kill, AV.clean, cleanL, AV.only]) rfl ?_
       refine aops_any ?_
       refine aany_le ?_ hj
       exact le_mem ⟨rfl, rfl, rfl, rfl, trivial⟩ (by intro g; first | rfl | exact look_swap (by decide))
    ·
     refine ⟨_, rfl, rfl, ?_⟩
     refine aop_of_aops (ops := #[]) rfl ?_
     refine x_alloc hf rfl rfl rfl Try.z52 ?_
     refine aops_any ?_
     refine aany_step 1 [] (by kernel_rfl) ⟨?_, trivial⟩
     ·
      refine ⟨_, rfl, rfl, ?_⟩
      refine aop_of_aops (ops := #[]) rfl ?_
      first | refine x_pure rfl (p_loads rfl Try.g52 Try.c52 rfl rfl) ?_ | refine x_pure rfl (p_loadsr rfl Try.g52 Try.c52 rfl rfl rfl) ?_
      refine aops_any ?_
      refine aany_step 6 [] (by kernel_rfl) ⟨?_, trivial⟩
      ·
       refine ⟨_, rfl, rfl, ?_⟩
       refine aop_of_aops (ops := #[]) rfl ?_
       refine x_store hf rfl rfl Try.c52 rfl rfl (by simp [stC, AV.cells, AV.one, Value.oneCell', splice, AV.kill, AV.clean, cleanL, AV.only]) (by simp [stC, AV.cells, AV.leaf, Value.oneCell', splice, AV.kill, AV.clean, cleanL, AV.only]) rfl ?_
       refine aops_any ?_
       refine aany_le ?_ hj
       exact le_mem ⟨rfl, rfl, rfl, rfl, trivial⟩ (by intro g; first | rfl | exact look_swap (by decide))
   ·
    refine ⟨_, rfl, rfl, ?_⟩
    refine aop_of_aops (ops := #[]) rfl ?_
    refine x_alloc hf rfl rfl rfl Try.z52 ?_
    refine aops_any ?_
    refine aany_step 1 [3] (by kernel_rfl) ⟨?_, ?_, trivial⟩
    ·
     refine ⟨_, rfl, rfl, ?_⟩
     refine aop_of_aops (ops := #[]) rfl ?_
     first | refine x_pure rfl (p_loads rfl Try.g52 Try.c52 rfl rfl) ?_ | refine x_pure rfl (p_loadsr rfl Try.g52 Try.c52 rfl rfl rfl) ?_
     refine aops_any ?_
     refine aany_step 3 [6] (by kernel_rfl) ⟨?_, ?_, trivial⟩
     ·
      refine ⟨_, rfl, rfl, ?_⟩
      refine aop_of_aops (ops := #[]) rfl ?_
      first | refine x_pure rfl (p_loads rfl Try.g52 Try.c52 rfl rfl) ?_ | refine x_pure rfl (p_loadsr rfl Try.g52 Try.c52 rfl rfl rfl) ?_
      refine aops_any ?_
      refine aany_step 6 [] (by kernel_rfl) ⟨?_, trivial⟩
      ·
       refine ⟨_, rfl, rfl, ?_⟩
       refine aop_of_aops (ops := #[]) rfl ?_
       refine x_store hf rfl rfl Try.c52 rfl rfl (by simp [stC, AV.cells, AV.one, Value.oneCell', splice, AV.kill, AV.clean, cleanL, AV.only]) (by simp [stC, AV.cells, AV.leaf, Value.oneCell', splice, AV.kill, AV.clean, cleanL, AV.only]) rfl ?_
       refine aops_any ?_
       refine aany_le ?_ hj
       exact le_mem ⟨rfl, rfl, rfl, rfl, trivial⟩ (by intro g; first | rfl | exact look_swap (by decide))
     ·
      refine ⟨_, rfl, rfl, ?_⟩
      refine aop_of_aops (ops := #[]) rfl ?_
      refine x_store hf rfl rfl Try.c52 rfl rfl (by simp [stC, AV.cells, AV.one, Value.oneCell', splice, AV.kill, AV.clean, cleanL, AV.only]) (by simp [stC, AV.cells, AV.leaf, Value.oneCell', splice, AV.kill, AV.clean, cleanL, AV.only]) rfl ?_
      refine aops_any ?_
      refine aany_step 3 [] (by kernel_rfl) ⟨?_, trivial⟩
      ·
       refine ⟨_, rfl, rfl, ?_⟩
       refine aop_of_aops (ops := #[]) rfl ?_
       first | refine x_pure rfl (p_loads rfl Try.g52 Try.c52 rfl rfl) ?_ | refine x_pure rfl (p_loadsr rfl Try.g52 Try.c52 rfl rfl rfl) ?_
       refine aops_any ?_
       refine aany_le ?_ hj
       exact le_mem ⟨rfl, rfl, rfl, rfl, trivial⟩ (by intro g; first | rfl | exact look_swap (by decide))
    ·
     refine ⟨_, rfl, rfl, ?_⟩
     refine aop_of_aops (ops := #[]) rfl ?_
     first | refine x_pure rfl (p_loads rfl Try.g52 Try.c52 rfl rfl) ?_ | refine x_pure rfl (p_loadsr rfl Try.g52 Try.c52 rfl rfl rfl) ?_
     refine aops_any ?_
     refine aany_step 1 [] (by kernel_rfl) ⟨?_, trivial⟩
     ·
      refine ⟨_, rfl, rfl, ?_⟩
      refine aop_of_aops (ops := #[]) rfl ?_
      first | refine x_pure rfl (p_loads rfl Try.g52 Try.c52 rfl rfl) ?_ | refine x_pure rfl (p_loadsr rfl Try.g52 Try.c52 rfl rfl rfl) ?_
      refine aops_any ?_
      refine aany_step 6 [] (by kernel_rfl) ⟨?_, trivial⟩
      ·
       refine ⟨_, rfl, rfl, ?_⟩
       refine aop_of_aops (ops := #[]) rfl ?_
       refine x_store hf rfl rfl Try.c52 rfl rfl (by simp [stC, AV.cells, AV.one, Value.oneCell', splice, AV.kill, AV.clean, cleanL, AV.only]) (by simp [stC, AV.cells, AV.leaf, Value.oneCell', splice, AV.kill, AV.clean, cleanL, AV.only]) rfl ?_
       refine aops_any ?_
       refine aany_le ?_ hj
       exact le_mem ⟨rfl, rfl, rfl, rfl, trivial⟩ (by intro g; first | rfl | exact look_swap (by decide))
  ·
   refine ⟨_, rfl, rfl, ?_⟩
   refine aop_of_aops (ops := #[]) rfl ?_
   refine x_alloc hf rfl rfl rfl Try.z52 ?_
   refine aops_any ?_
   refine aany_step 1 [3, 4] (by kernel_rfl) ⟨?_, ?_, ?_, trivial⟩
   ·
    refine ⟨_, rfl, rfl, ?_⟩
    refine aop_of_aops (ops := #[]) rfl ?_
    first | refine x_pure rfl (p_loads rfl Try.g52 Try.c52 rfl rfl) ?_ | refine x_pure rfl (p_loadsr rfl Try.g52 Try.c52 rfl rfl rfl) ?_
    refine aops_any ?_
    refine aany_step 3 [4] (by kernel_rfl) ⟨?_, ?_, trivial⟩
    ·
     refine ⟨_, rfl, rfl, ?_⟩
     refine aop_of_aops (ops := #[]) rfl ?_
     first | refine x_pure rfl (p_loads rfl Try.g52 Try.c52 rfl rfl) ?_ | refine x_pure rfl (p_loadsr rfl Try.g52 Try.c52 rfl rfl rfl) ?_
     refine aops_any ?_
     refine aany_step 4 [] (by kernel_rfl) ⟨?_, trivial⟩
     ·
      refine ⟨_, rfl, rfl, ?_⟩
      refine aop_of_aops (ops := #[]) rfl ?_
      refine x_alloc hf rfl rfl rfl Try.z52 ?_
      refine aops_any ?_
      refine aany_step 6 [] (by kernel_rfl) ⟨?_, trivial⟩
      ·
       refine ⟨_, rfl, rfl, ?_⟩
       refine aop_of_aops (ops := #[]) rfl ?_
       refine x_store hf rfl rfl Try.c52 rfl rfl (by simp [stC, AV.cells, AV.one, Value.oneCell', splice, AV.kill, AV.clean, cleanL, AV.only]) (by simp [stC, AV.cells, AV.leaf, Value.oneCell', splice, AV.kill, AV.clean, cleanL, AV.only]) rfl ?_
       refine aops_any ?_
       refine aany_le ?_ hj
       exact le_mem ⟨rfl, rfl, rfl, rfl, trivial⟩ (by intro g; first | rfl | exact look_swap (by decide))
    ·
     refine ⟨_, rfl, rfl, ?_⟩
     refine aop_of_aops (ops := #[]) rfl ?_
     refine x_alloc hf rfl rfl rfl Try.z52 ?_
     refine aops_any ?_
     refine aany_step 3 [6] (by kernel_rfl) ⟨?_, ?_, trivial⟩
     ·
      refine ⟨_, rfl, rfl, ?_⟩
      refine aop_of_aops (ops := #[]) rfl ?_
      first | refine x_pure rfl (p_loads rfl Try.g52 Try.c52 rfl rfl) ?_ | refine x_pure rfl (p_loadsr rfl Try.g52 Try.c52 rfl rfl rfl) ?_
      refine aops_any ?_
      refine aany_step 6 [] (by kernel_rfl) ⟨?_, trivial⟩
      ·
       refine ⟨_, rfl, rfl, ?_⟩
       refine aop_of_aops (ops := #[]) rfl ?_
       refine x_store hf rfl rfl Try.c52 rfl rfl (by simp [stC, AV.cells, AV.one, Value.oneCell', splice, AV.kill, AV.clean, cleanL, AV.only]) (by simp [stC, AV.cells, AV.leaf, Value.oneCell', splice, AV.kill, AV.clean, cleanL, AV.only]) rfl ?_
       refine aops_any ?_
       refine aany_le ?_ hj
       exact le_mem ⟨rfl, rfl, rfl, rfl, trivial⟩ (by intro g; first | rfl | exact look_swap (by decide))
     ·
      refine ⟨_, rfl, rfl, ?_⟩
      refine aop_of_aops (ops := #[]) rfl ?_
      refine x_store hf rfl rfl Try.c52 rfl rfl (by simp [stC, AV.cells, AV.one, Value.oneCell', splice, AV.kill, AV.clean, cleanL, AV.only]) (by simp [stC, AV.cells, AV.leaf, Value.oneCell', splice, AV.kill, AV.clean, cleanL, AV.only]) rfl ?_
      refine aops_any ?_
      refine aany_step 3 [] (by kernel_rfl) ⟨?_, trivial⟩
      ·
       refine ⟨_, rfl, rfl, ?_⟩
       refine aop_of_aops (ops := #[]) rfl ?_
       first | refine x_pure rfl (p_loads rfl Try.g52 Try.c52 rfl rfl) ?_ | refine x_pure rfl (p_loadsr rfl Try.g52 Try.c52 rfl rfl rfl) ?_
       refine aops_any ?_
       refine aany_le ?_ hj
       exact le_mem ⟨rfl, rfl, rfl, rfl, trivial⟩ (by intro g; first | rfl | exact look_swap (by decide))
   ·
    refine ⟨_, rfl, rfl, ?_⟩
    refine aop_of_aops (ops := #[]) rfl ?_
    first | refine x_pure rfl (p_loads rfl Try.g52 Try.c52 rfl rfl) ?_ | refine x_pure rfl (p_loadsr rfl Try.g52 Try.c52 rfl rfl rfl) ?_
    refine aops_any ?_
    refine aany_step 1 [4] (by kernel_rfl) ⟨?_, ?_, trivial⟩
    ·
     refine ⟨_, rfl, rfl, ?_⟩
     refine aop_of_aops (ops := #[]) rfl ?_
     first | refine x_pure rfl (p_loads rfl Try.g52 Try.c52 rfl rfl) ?_ | refine x_pure rfl (p_loadsr rfl Try.g52 Try.c52 rfl rfl rfl) ?_
     refine aops_any ?_
     refine aany_step 4 [] (by kernel_rfl) ⟨?_, trivial⟩
     ·
      refine ⟨_, rfl, rfl, ?_⟩
      refine aop_of_aops (ops := #[]) rfl ?_
      refine x_alloc hf rfl rfl rfl Try.z52 ?_
      refine aops_any ?_
      refine aany_step 6 [] (by kernel_rfl) ⟨?_, trivial⟩
      ·
       refine ⟨_, rfl, rfl, ?_⟩
       refine aop_of_aops (ops := #[]) rfl ?_
       refine x_store hf rfl rfl Try.c52 rfl rfl (by simp [stC, AV.cells, AV.one, Value.oneCell', splice, AV.kill, AV.clean, cleanL, AV.only]) (by simp [stC, AV.cells, AV.leaf, Value.oneCell', splice, AV.kill, AV.clean, cleanL, AV.only]) rfl ?_
       refine aops_any ?_
       refine aany_le ?_ hj
       exact le_mem ⟨rfl, rfl, rfl, rfl, trivial⟩ (by intro g; first | rfl | exact look_swap (by decide))
    ·
     refine ⟨_, rfl, rfl, ?_⟩
     refine aop_of_aops (ops := #[]) rfl ?_
     refine x_alloc hf rfl rfl rfl Try.z52 ?_
     refine aops_any ?_
     refine aany_step 1 [] (by kernel_rfl) ⟨?_, trivial⟩
     ·
      refine ⟨_, rfl, rfl, ?_⟩
      refine aop_of_aops (ops := #[]) rfl ?_
      first | refine x_pure rfl (p_loads rfl Try.g52 Try.c52 rfl rfl) ?_ | refine x_pure rfl (p_loadsr rfl Try.g52 Try.c52 rfl rfl rfl) ?_
      refine aops_any ?_
      refine aany_step 6 [] (by kernel_rfl) ⟨?_, trivial⟩
      ·
       refine ⟨_, rfl, rfl, ?_⟩
       refine aop_of_aops (ops := #[]) rfl ?_
       refine x_store hf rfl rfl Try.c52 rfl rfl (by simp [stC, AV.cells, AV.one, Value.oneCell', splice, AV.kill, AV.clean, cleanL, AV.only]) (by simp [stC, AV.cells, AV.leaf, Value.oneCell', splice, AV.kill, AV.clean, cleanL, AV.only]) rfl ?_
       refine aops_any ?_
       refine aany_le ?_ hj
       exact le_mem ⟨rfl, rfl, rfl, rfl, trivial⟩ (by intro g; first | rfl | exact look_swap (by decide))
   ·
    refine ⟨_, rfl, rfl, ?_⟩
    refine aop_of_aops (ops := #[]) rfl ?_
    refine x_alloc hf rfl rfl rfl Try.z52 ?_
    refine aops_any ?_
    refine aany_step 1 [3] (by kernel_rfl) ⟨?_, ?_, trivial⟩
    ·
     refine ⟨_, rfl, rfl, ?_⟩
     refine aop_of_aops (ops := #[]) rfl ?_
     first | refine x_pure rfl (p_loads rfl Try.g52 Try.c52 rfl rfl) ?_ | refine x_pure rfl (p_loadsr rfl Try.g52 Try.c52 rfl rfl rfl) ?_
     refine aops_any ?_
     refine aany_step 3 [6] (by kernel_rfl) ⟨?_, ?_, trivial⟩
     ·
      refine ⟨_, rfl, rfl, ?_⟩
      refine aop_of_aops (ops := #[]) rfl ?_
      first | refine x_pure rfl (p_loads rfl Try.g52 Try.c52 rfl rfl) ?_ | refine x_pure rfl (p_loadsr rfl Try.g52 Try.c52 rfl rfl rfl) ?_
      refine aops_any ?_
      refine aany_step 6 [] (by kernel_rfl) ⟨?_, trivial⟩
      ·
       refine ⟨_, rfl, rfl, ?_⟩
       refine aop_of_aops (ops := #[]) rfl ?_
       refine x_store hf rfl rfl Try.c52 rfl rfl (by simp [stC, AV.cells, AV.one, Value.oneCell', splice, AV.kill, AV.clean, cleanL, AV.only]) (by simp [stC, AV.cells, AV.leaf, Value.oneCell', splice, AV.kill, AV.clean, cleanL, AV.only]) rfl ?_
       refine aops_any ?_
       refine aany_le ?_ hj
       exact le_mem ⟨rfl, rfl, rfl, rfl, trivial⟩ (by intro g; first | rfl | exact look_swap (by decide))
     ·
      refine ⟨_, rfl, rfl, ?_⟩
      refine aop_of_aops (ops := #[]) rfl ?_
      refine x_store hf rfl rfl Try.c52 rfl rfl (by simp [stC, AV.cells, AV.one, Value.oneCell', splice, AV.kill, AV.clean, cleanL, AV.only]) (by simp [stC, AV.cells, AV.leaf, Value.oneCell', splice, AV.kill, AV.clean, cleanL, AV.only]) rfl ?_
      refine aops_any ?_
      refine aany_step 3 [] (by kernel_rfl) ⟨?_, trivial⟩
      ·
       refine ⟨_, rfl, rfl, ?_⟩
       refine aop_of_aops (ops := #[]) rfl ?_
       first | refine x_pure rfl (p_loads rfl Try.g52 Try.c52 rfl rfl) ?_ | refine x_pure rfl (p_loadsr rfl Try.g52 Try.c52 rfl rfl rfl) ?_
       refine aops_any ?_
       refine aany_le ?_ hj
       exact le_mem ⟨rfl, rfl, rfl, rfl, trivial⟩ (by intro g; first | rfl | exact look_swap (by decide))
    ·
     refine ⟨_, rfl, rfl, ?_⟩
     refine aop_of_aops (ops := #[]) rfl ?_
     first | refine x_pure rfl (p_loads rfl Try.g52 Try.c52 rfl rfl) ?_ | refine x_pure rfl (p_loadsr rfl Try.g52 Try.c52 rfl rfl rfl) ?_
     refine aops_any ?_
     refine aany_step 1 [] (by kernel_rfl) ⟨?_, trivial⟩
     ·
      refine ⟨_, rfl, rfl, ?_⟩
      refine aop_of_aops (ops := #[]) rfl ?_
      first | refine x_pure rfl (p_loads rfl Try.g52 Try.c52 rfl rfl) ?_ | refine x_pure rfl (p_loadsr rfl Try.g52 Try.c52 rfl rfl rfl) ?_
      refine aops_any ?_
      refine aany_step 6 [] (by kernel_rfl) ⟨?_, trivial⟩
      ·
       refine ⟨_, rfl, rfl, ?_⟩
       refine aop_of_aops (ops := #[]) rfl ?_
       refine x_store hf rfl rfl Try.c52 rfl rfl (by simp [stC, AV.cells, AV.one, Value.oneCell', splice, AV.kill, AV.clean, cleanL, AV.only]) (by simp [stC, AV.cells, AV.leaf, Value.oneCell', splice, AV.kill, AV.clean, cleanL, AV.only]) rfl ?_
       refine aops_any ?_
       refine aany_le ?_ hj
       exact le_mem ⟨rfl, rfl, rfl, rfl, trivial⟩ (by intro g; first | rfl | exact look_swap (by decide))
 refine aany_step 7 [] (by kernel_rfl) ⟨?_, trivial⟩
 ·
  refine ⟨_, rfl, rfl, ?_⟩
  refine aop_of_aops (ops := #[]) rfl ?_
  refine x_store hf rfl rfl Try.c52 rfl rfl (by simp [stC, AV.cells, AV.one, Value.oneCell', splice, AV.kill, AV.clean, cleanL, AV.only]) (by simp [stC, AV.cells, AV.leaf, Value.oneCell', splice, AV.kill, AV.clean, cleanL, AV.only]) rfl ?_
  refine aops_any ?_
  refine aany_end (by kernel_rfl) ?_
  refine hK2 _ ?_
  refine aw_seq_k (fun K3 hK3 => ?_)
  refine aw_seq_k (fun K4 hK4 => ?_)
  refine aw_region ?_
  refine aops_le (le_freeze (sl' := [(1, .sl 4 (l.map stC)), (5, .adr (stC a)), (6, .adr (stC b))]) ⟨⟨_, rfl, rfl⟩, ⟨_, rfl, rfl⟩, ⟨_, rfl, rfl⟩, trivial⟩) ?_
  refine x_pure rfl (p_move rfl) ?_
  first | refine x_pure rfl (p_len_sl rfl Try.e54) ?_ | refine x_pure rfl (p_len_own rfl Try.e54) ?_ | refine x_pure rfl (p_len_nil rfl Try.e54) ?_
  refine x_pure rfl (p_bin rfl rfl rfl) ?_
  first | refine aops_end ?_ | refine aops_nil ?_
  refine hK4 _ ?_
  refine aw_cond_s rfl (fun hc1 => ?_) (fun hc1 => ?_)
  ·
   try simp only [Bool.not_eq_true', Bool.not_eq_false', Bool.not_true, Bool.not_false, Bool.not_not, decide_eq_true_eq, decide_eq_false_iff_not, beq_iff_eq, beq_eq_false_iff_ne, bne_iff_ne, bne_eq_false_iff_eq, ne_eq, Int.not_lt, Int.not_le, Nat.not_lt, Nat.not_le, gt_iff_lt, ge_iff_le, Bool.and_eq_true, Bool.or_eq_true, Int.ofNat_lt, Int.ofNat_le, Int.natCast_inj, List.length_map, List.length_cons, List.length_nil, List.length_append] at hc1
   refine aw_seq_k (fun K5 hK5 => ?_)
   refine aw_region ?_
   refine x_step hf rfl (r_call rfl rfl Try.ent33 rfl (alive8_den)) ?_
   refine x_pure rfl (p_assign rfl) ?_
   first | refine aops_end ?_ | refine aops_nil ?_
   refine hK5 _ ?_
   refine aw_ret ?_
   refine ⟨_, rfl, ?_⟩
   rfl
  ·
   try simp only [Bool.not_eq_true', Bool.not_eq_false', Bool.not_true, Bool.not_false, Bool.not_not, decide_eq_true_eq, decide_eq_false_iff_not, beq_iff_eq, beq_eq_false_iff_ne, bne_iff_ne, bne_eq_false_iff_eq, ne_eq, Int.not_lt, Int.not_le, Nat.not_lt, Nat.not_le, gt_iff_lt, ge_iff_le, Bool.and_eq_true, Bool.or_eq_true, Int.ofNat_lt, Int.ofNat_le, Int.natCast_inj, List.length_map, List.length_cons, List.length_nil, List.length_append] at hc1
   refine aw_skip ?_
   refine hK3 _ ?_
   refine aw_seq_k (fun K6 hK6 => ?_)
   refine aw_region ?_
   refine x_pure rfl (p_assign rfl) ?_
   first | refine aops_end ?_ | refine aops_nil ?_
   refine hK6 _ ?_
   refine aw_seq_k (fun K7 hK7 => ?_)
   refine aw_seq_k (fun K8 hK8 => ?_)
   refine aw_region ?_
   first | refine x_pure rfl (p_loads rfl Try.g52 Try.c52 rfl rfl) ?_ | refine x_pure rfl (p_loadsr rfl Try.g52 Try.c52 rfl rfl rfl) ?_
   first | refine x_pure rfl (p_loads rfl Try.g52 Try.c52 rfl rfl) ?_ | refine x_pure rfl (p_loadsr rfl Try.g52 Try.c52 rfl rfl rfl) ?_
   refine x_step hf rfl (r_call rfl rfl Try.ent34 rfl (aheadS_den a b)) ?_
   first | refine aops_end ?_ | refine aops_nil ?_
   refine hK8 _ ?_
   refine aw_cond_s rfl (fun hc2 => ?_) (fun hc2 => ?_)
   ·
    try simp only [Bool.not_eq_true', Bool.not_eq_false', Bool.not_true, Bool.not_false, Bool.not_not, decide_eq_true_eq, decide_eq_false_iff_not, beq_iff_eq, beq_eq_false_iff_ne, bne_iff_ne, bne_eq_false_iff_eq, ne_eq, Int.not_lt, Int.not_le, Nat.not_lt, Nat.not_le, gt_iff_lt, ge_iff_le, Bool.and_eq_true, Bool.or_eq_true, Int.ofNat_lt, Int.ofNat_le, Int.natCast_inj, List.length_map, List.length_cons, List.length_nil, List.length_append] at hc2
    refine aw_region ?_
    refine x_pure rfl (p_assign rfl) ?_
    first | refine aops_end ?_ | refine aops_nil ?_
    refine hK7 _ ?_
    refine aw_seq_k (fun K9 hK9 => ?_)
    refine aw_seq_k (fun K10 hK10 => ?_)
    refine aw_region ?_
    first | refine x_pure rfl (p_loads rfl Try.g52 Try.c52 rfl rfl) ?_ | refine x_pure rfl (p_loadsr rfl Try.g52 Try.c52 rfl rfl rfl) ?_
    first | refine x_pure rfl (p_loads rfl Try.g52 Try.c52 rfl rfl) ?_ | refine x_pure rfl (p_loadsr rfl Try.g52 Try.c52 rfl rfl rfl) ?_
    refine x_step hf rfl (r_call rfl rfl Try.ent34 rfl (aheadS_den b a)) ?_
    first | refine aops_end ?_ | refine aops_nil ?_
    refine hK10 _ ?_
    refine aw_cond_s rfl (fun hc3 => ?_) (fun hc3 => ?_)
    ·
     try simp only [Bool.not_eq_true', Bool.not_eq_false', Bool.not_true, Bool.not_false, Bool.not_not, decide_eq_true_eq, decide_eq_false_iff_not, beq_iff_eq, beq_eq_false_iff_ne, bne_iff_ne, bne_eq_false_iff_eq, ne_eq, Int.not_lt, Int.not_le, Nat.not_lt, Nat.not_le, gt_iff_lt, ge_iff_le, Bool.and_eq_true, Bool.or_eq_true, Int.ofNat_lt, Int.ofNat_le, Int.natCast_inj, List.length_map, List.length_cons, List.length_nil, List.length_append] at hc3
     refine aw_region ?_
     refine x_pure rfl (p_assign rfl) ?_
     first | refine aops_end ?_ | refine aops_nil ?_
     refine hK9 _ ?_
     refine aw_seq_k (fun K11 hK11 => ?_)
     refine aw_draw hf Try.mixed (by kernel_rfl) rfl ?_
     refine d_rstep [] rfl rfl trivial rfl (r_call rfl rfl Try.ent33 rfl (alive8_den)) ?_
     refine d_pure [(22, _)] rfl rfl ⟨⟨rfl, rfl⟩, trivial⟩ rfl (p_move rfl) ?_
     first | refine d_pure [(5, _)] rfl rfl ⟨⟨rfl, rfl⟩, trivial⟩ rfl (p_loads rfl Try.g52 Try.c52 rfl rfl) ?_ | refine d_pure [(5, _)] rfl rfl ⟨⟨rfl, rfl⟩, trivial⟩ rfl (p_loadsr rfl Try.g52 Try.c52 rfl rfl rfl) ?_
     refine d_rstep [(24, _)] rfl rfl ⟨⟨rfl, rfl⟩, trivial⟩ rfl (r_call rfl rfl Try.ent35 rfl (newS_den a)) ?_
     first | refine d_pure [(6, _)] rfl rfl ⟨⟨rfl, rfl⟩, trivial⟩ rfl (p_loads rfl Try.g52 Try.c52 rfl rfl) ?_ | refine d_pure [(6, _)] rfl rfl ⟨⟨rfl, rfl⟩, trivial⟩ rfl (p_loadsr rfl Try.g52 Try.c52 rfl rfl rfl) ?_
     refine d_rstep [(26, _)] rfl rfl ⟨⟨rfl, rfl⟩, trivial⟩ rfl (r_call rfl rfl Try.ent35 rfl (newS_den b)) ?_
     refine d_rstep [(25, _), (27, _)] rfl rfl ⟨⟨rfl, rfl⟩, ⟨rfl, rfl⟩, trivial⟩ rfl (r_call rfl rfl Try.ent36 rfl (cmpS_den a b)) ?_
     refine d_pure [(7, _)] rfl rfl ⟨⟨rfl, rfl⟩, trivial⟩ rfl (p_move rfl) ?_
     refine d_pure [(28, _), (29, _)] rfl rfl ⟨⟨rfl, rfl⟩, ⟨rfl, rfl⟩, trivial⟩ rfl (p_bin rfl rfl (inteq_t (by have h5 := cmpS_tri.rng a b; have h6 := cmpS_tri.swap a b; omega))) ?_
     refine d_pure [(23, _), (30, _)] rfl rfl ⟨⟨rfl, rfl⟩, ⟨rfl, rfl⟩, trivial⟩ rfl (p_pick_t rfl rfl) ?_
     refine d_pure [(31, _)] rfl rfl ⟨⟨rfl, rfl⟩, trivial⟩ rfl (p_move rfl) ?_
     first | refine d_pure [(6, _)] rfl rfl ⟨⟨rfl, rfl⟩, trivial⟩ rfl (p_loads rfl Try.g52 Try.c52 rfl rfl) ?_ | refine d_pure [(6, _)] rfl rfl ⟨⟨rfl, rfl⟩, trivial⟩ rfl (p_loadsr rfl Try.g52 Try.c52 rfl rfl rfl) ?_
     refine d_rstep [(33, _)] rfl rfl ⟨⟨rfl, rfl⟩, trivial⟩ rfl (r_call rfl rfl Try.ent35 rfl (newS_den b)) ?_
     first | refine d_pure [(5, _)] rfl rfl ⟨⟨rfl, rfl⟩, trivial⟩ rfl (p_loads rfl Try.g52 Try.c52 rfl rfl) ?_ | refine d_pure [(5, _)] rfl rfl ⟨⟨rfl, rfl⟩, trivial⟩ rfl (p_loadsr rfl Try.g52 Try.c52 rfl rfl rfl) ?_
     refine d_rstep [(35, _)] rfl rfl ⟨⟨rfl, rfl⟩, trivial⟩ rfl (r_call rfl rfl Try.ent35 rfl (newS_den a)) ?_
     refine d_rstep [(34, _), (36, _)] rfl rfl ⟨⟨rfl, rfl⟩, ⟨rfl, rfl⟩, trivial⟩ rfl (r_call rfl rfl Try.ent36 rfl (cmpS_den b a)) ?_
     refine d_pure [(7, _)] rfl rfl ⟨⟨rfl, rfl⟩, trivial⟩ rfl (p_move rfl) ?_
     refine d_pure [(38, _)] rfl rfl ⟨⟨rfl, rfl⟩, trivial⟩ rfl (p_neg rfl) ?_
     refine d_pure [(37, _), (39, _)] rfl rfl ⟨⟨rfl, rfl⟩, ⟨rfl, rfl⟩, trivial⟩ rfl (p_bin rfl rfl (inteq_t (by have h5 := cmpS_tri.rng a b; have h6 := cmpS_tri.swap a b; first | (show cmpS b a = 1; omega) | (show cmpS b a = -1; omega) | (show cmpS b a = 0; omega)))) ?_
     refine d_pure [(32, _), (40, _)] rfl rfl ⟨⟨rfl, rfl⟩, ⟨rfl, rfl⟩, trivial⟩ rfl (p_pick_t rfl rfl) ?_
     refine d_pure [(41, _)] rfl rfl ⟨⟨rfl, rfl⟩, trivial⟩ rfl (p_move rfl) ?_
     refine d_pure [(1, _)] rfl rfl ⟨⟨rfl, rfl⟩, trivial⟩ rfl (p_move rfl) ?_
     refine d_rstep [(43, _)] rfl rfl ⟨⟨rfl, rfl⟩, trivial⟩ rfl (r_call rfl rfl Try.ent38 rfl (newsS_den _ (by omega))) ?_
     refine d_rstep [(44, _)] rfl rfl ⟨⟨rfl, rfl⟩, trivial⟩ rfl (r_call rfl rfl Try.ent37 rfl (risingS_den _ (by omega))) ?_
     refine d_pure [(1, _)] rfl rfl ⟨⟨rfl, rfl⟩, trivial⟩ rfl (p_move rfl) ?_
     refine d_rstep [(46, _)] rfl rfl ⟨⟨rfl, rfl⟩, trivial⟩ rfl (r_call rfl rfl Try.ent39 rfl (refRisingS_den _ (by omega))) ?_
     refine d_pure [(45, _), (47, _)] rfl rfl ⟨⟨rfl, rfl⟩, ⟨rfl, rfl⟩, trivial⟩ rfl (p_bin rfl rfl (booleq_t Try.underlying4 (rfl))) ?_
     refine d_pure [(42, _), (48, _)] rfl rfl ⟨⟨rfl, rfl⟩, ⟨rfl, rfl⟩, trivial⟩ rfl (p_pick_t rfl rfl) ?_
     refine d_pure [(49, _)] rfl rfl ⟨⟨rfl, rfl⟩, trivial⟩ rfl (p_assign rfl) ?_
     refine lex_end (sl' := [(4, _)]) rfl ⟨rfl, trivial⟩ rfl ?_
     refine hK11 _ ?_
     refine aw_ret ?_
     refine ⟨_, rfl, ?_⟩
     rfl
    ·
     try simp only [Bool.not_eq_true', Bool.not_eq_false', Bool.not_true, Bool.not_false, Bool.not_not, decide_eq_true_eq, decide_eq_false_iff_not, beq_iff_eq, beq_eq_false_iff_ne, bne_iff_ne, bne_eq_false_iff_eq, ne_eq, Int.not_lt, Int.not_le, Nat.not_lt, Nat.not_le, gt_iff_lt, ge_iff_le, Bool.and_eq_true, Bool.or_eq_true, Int.ofNat_lt, Int.ofNat_le, Int.natCast_inj, List.length_map, List.length_cons, List.length_nil, List.length_append] at hc3
     refine aw_skip ?_
     refine hK9 _ ?_
     refine aw_seq_k (fun K12 hK12 => ?_)
     refine aw_draw hf Try.mixed (by kernel_rfl) rfl ?_
     refine d_rstep [] rfl rfl trivial rfl (r_call rfl rfl Try.ent33 rfl (alive8_den)) ?_
     refine d_pure [(22, _)] rfl rfl ⟨⟨rfl, rfl⟩, trivial⟩ rfl (p_move rfl) ?_
     first | refine d_pure [(5, _)] rfl rfl ⟨⟨rfl, rfl⟩, trivial⟩ rfl (p_loads rfl Try.g52 Try.c52 rfl rfl) ?_ | refine d_pure [(5, _)] rfl rfl ⟨⟨rfl, rfl⟩, trivial⟩ rfl (p_loadsr rfl Try.g52 Try.c52 rfl rfl rfl) ?_
     refine d_rstep [(24, _)] rfl rfl ⟨⟨rfl, rfl⟩, trivial⟩ rfl (r_call rfl rfl Try.ent35 rfl (newS_den a)) ?_
     first | refine d_pure [(6, _)] rfl rfl ⟨⟨rfl, rfl⟩, trivial⟩ rfl (p_loads rfl Try.g52 Try.c52 rfl rfl) ?_ | refine d_pure [(6, _)] rfl rfl ⟨⟨rfl, rfl⟩, trivial⟩ rfl (p_loadsr rfl Try.g52 Try.c52 rfl rfl rfl) ?_
     refine d_rstep [(26, _)] rfl rfl ⟨⟨rfl, rfl⟩, trivial⟩ rfl (r_call rfl rfl Try.ent35 rfl (newS_den b)) ?_
     refine d_rstep [(25, _), (27, _)] rfl rfl ⟨⟨rfl, rfl⟩, ⟨rfl, rfl⟩, trivial⟩ rfl (r_call rfl rfl Try.ent36 rfl (cmpS_den a b)) ?_
     refine d_pure [(7, _)] rfl rfl ⟨⟨rfl, rfl⟩, trivial⟩ rfl (p_move rfl) ?_
     refine d_pure [(28, _), (29, _)] rfl rfl ⟨⟨rfl, rfl⟩, ⟨rfl, rfl⟩, trivial⟩ rfl (p_bin rfl rfl (inteq_t (by have h5 := cmpS_tri.rng a b; have h6 := cmpS_tri.swap a b; omega))) ?_
     refine d_pure [(23, _), (30, _)] rfl rfl ⟨⟨rfl, rfl⟩, ⟨rfl, rfl⟩, trivial⟩ rfl (p_pick_t rfl rfl) ?_
     refine d_pure [(31, _)] rfl rfl ⟨⟨rfl, rfl⟩, trivial⟩ rfl (p_move rfl) ?_
     first | refine d_pure [(6, _)] rfl rfl ⟨⟨rfl, rfl⟩, trivial⟩ rfl (p_loads rfl Try.g52 Try.c52 rfl rfl) ?_ | refine d_pure [(6, _)] rfl rfl ⟨⟨rfl, rfl⟩, trivial⟩ rfl (p_loadsr rfl Try.g52 Try.c52 rfl rfl rfl) ?_
     refine d_rstep [(33, _)] rfl rfl ⟨⟨rfl, rfl⟩, trivial⟩ rfl (r_call rfl rfl Try.ent35 rfl (newS_den b)) ?_
     first | refine d_pure [(5, _)] rfl rfl ⟨⟨rfl, rfl⟩, trivial⟩ rfl (p_loads rfl Try.g52 Try.c52 rfl rfl) ?_ | refine d_pure [(5, _)] rfl rfl ⟨⟨rfl, rfl⟩, trivial⟩ rfl (p_loadsr rfl Try.g52 Try.c52 rfl rfl rfl) ?_
     refine d_rstep [(35, _)] rfl rfl ⟨⟨rfl, rfl⟩, trivial⟩ rfl (r_call rfl rfl Try.ent35 rfl (newS_den a)) ?_
     refine d_rstep [(34, _), (36, _)] rfl rfl ⟨⟨rfl, rfl⟩, ⟨rfl, rfl⟩, trivial⟩ rfl (r_call rfl rfl Try.ent36 rfl (cmpS_den b a)) ?_
     refine d_pure [(7, _)] rfl rfl ⟨⟨rfl, rfl⟩, trivial⟩ rfl (p_move rfl) ?_
     refine d_pure [(38, _)] rfl rfl ⟨⟨rfl, rfl⟩, trivial⟩ rfl (p_neg rfl) ?_
     refine d_pure [(37, _), (39, _)] rfl rfl ⟨⟨rfl, rfl⟩, ⟨rfl, rfl⟩, trivial⟩ rfl (p_bin rfl rfl (inteq_t (by have h5 := cmpS_tri.rng a b; have h6 := cmpS_tri.swap a b; first | (show cmpS b a = 1; omega) | (show cmpS b a = -1; omega) | (show cmpS b a = 0; omega)))) ?_
     refine d_pure [(32, _), (40, _)] rfl rfl ⟨⟨rfl, rfl⟩, ⟨rfl, rfl⟩, trivial⟩ rfl (p_pick_t rfl rfl) ?_
     refine d_pure [(41, _)] rfl rfl ⟨⟨rfl, rfl⟩, trivial⟩ rfl (p_move rfl) ?_
     refine d_pure [(1, _)] rfl rfl ⟨⟨rfl, rfl⟩, trivial⟩ rfl (p_move rfl) ?_
     refine d_rstep [(43, _)] rfl rfl ⟨⟨rfl, rfl⟩, trivial⟩ rfl (r_call rfl rfl Try.ent38 rfl (newsS_den _ (by omega))) ?_
     refine d_rstep [(44, _)] rfl rfl ⟨⟨rfl, rfl⟩, trivial⟩ rfl (r_call rfl rfl Try.ent37 rfl (risingS_den _ (by omega))) ?_
     refine d_pure [(1, _)] rfl rfl ⟨⟨rfl, rfl⟩, trivial⟩ rfl (p_move rfl) ?_
     refine d_rstep [(46, _)] rfl rfl ⟨⟨rfl, rfl⟩, trivial⟩ rfl (r_call rfl rfl Try.ent39 rfl (refRisingS_den _ (by omega))) ?_
     refine d_pure [(45, _), (47, _)] rfl rfl ⟨⟨rfl, rfl⟩, ⟨rfl, rfl⟩, trivial⟩ rfl (p_bin rfl rfl (booleq_t Try.underlying4 (rfl))) ?_
     refine d_pure [(42, _), (48, _)] rfl rfl ⟨⟨rfl, rfl⟩, ⟨rfl, rfl⟩, trivial⟩ rfl (p_pick_t rfl rfl) ?_
     refine d_pure [(49, _)] rfl rfl ⟨⟨rfl, rfl⟩, trivial⟩ rfl (p_assign rfl) ?_
     refine lex_end (sl' := [(4, _)]) rfl ⟨rfl, trivial⟩ rfl ?_
     refine hK12 _ ?_
     refine aw_ret ?_
     refine ⟨_, rfl, ?_⟩
     rfl
   ·
    try simp only [Bool.not_eq_true', Bool.not_eq_false', Bool.not_true, Bool.not_false, Bool.not_not, decide_eq_true_eq, decide_eq_false_iff_not, beq_iff_eq, beq_eq_false_iff_ne, bne_iff_ne, bne_eq_false_iff_eq, ne_eq, Int.not_lt, Int.not_le, Nat.not_lt, Nat.not_le, gt_iff_lt, ge_iff_le, Bool.and_eq_true, Bool.or_eq_true, Int.ofNat_lt, Int.ofNat_le, Int.natCast_inj, List.length_map, List.length_cons, List.length_nil, List.length_append] at hc2
    refine aw_skip ?_
    refine hK7 _ ?_
    refine aw_seq_k (fun K13 hK13 => ?_)
    refine aw_seq_k (fun K14 hK14 => ?_)
    refine aw_region ?_
    first | refine x_pure rfl (p_loads rfl Try.g52 Try.c52 rfl rfl) ?_ | refine x_pure rfl (p_loadsr rfl Try.g52 Try.c52 rfl rfl rfl) ?_
    first | refine x_pure rfl (p_loads rfl Try.g52 Try.c52 rfl rfl) ?_ | refine x_pure rfl (p_loadsr rfl Try.g52 Try.c52 rfl rfl rfl) ?_
    refine x_step hf rfl (r_call rfl rfl Try.ent34 rfl (aheadS_den b a)) ?_
    first | refine aops_end ?_ | refine aops_nil ?_
    refine hK14 _ ?_
    refine aw_cond_s rfl (fun hc4 => ?_) (fun hc4 => ?_)
    ·
     try simp only [Bool.not_eq_true', Bool.not_eq_false', Bool.not_true, Bool.not_false, Bool.not_not, decide_eq_true_eq, decide_eq_false_iff_not, beq_iff_eq, beq_eq_false_iff_ne, bne_iff_ne, bne_eq_false_iff_eq, ne_eq, Int.not_lt, Int.not_le, Nat.not_lt, Nat.not_le, gt_iff_lt, ge_iff_le, Bool.and_eq_true, Bool.or_eq_true, Int.ofNat_lt, Int.ofNat_le, Int.natCast_inj, List.length_map, List.length_cons, List.length_nil, List.length_append] at hc4
     refine aw_region ?_
     refine x_pure rfl (p_assign rfl) ?_
     first | refine aops_end ?_ | refine aops_nil ?_
     refine hK13 _ ?_
     refine aw_seq_k (fun K15 hK15 => ?_)
     refine aw_draw hf Try.mixed (by kernel_rfl) rfl ?_
     refine d_rstep [] rfl rfl trivial rfl (r_call rfl rfl Try.ent33 rfl (alive8_den)) ?_
     refine d_pure [(22, _)] rfl rfl ⟨⟨rfl, rfl⟩, trivial⟩ rfl (p_move rfl) ?_
     first | refine d_pure [(5, _)] rfl rfl ⟨⟨rfl, rfl⟩, trivial⟩ rfl (p_loads rfl Try.g52 Try.c52 rfl rfl) ?_ | refine d_pure [(5, _)] rfl rfl ⟨⟨rfl, rfl⟩, trivial⟩ rfl (p_loadsr rfl Try.g52 Try.c52 rfl rfl rfl) ?_
     refine d_rstep [(24, _)] rfl rfl ⟨⟨rfl, rfl⟩, trivial⟩ rfl (r_call rfl rfl Try.ent35 rfl (newS_den a)) ?_
     first | refine d_pure [(6, _)] rfl rfl ⟨⟨rfl, rfl⟩, trivial⟩ rfl (p_loads rfl Try.g52 Try.c52 rfl rfl) ?_ | refine d_pure [(6, _)] rfl rfl ⟨⟨rfl, rfl⟩, trivial⟩ rfl (p_loadsr rfl Try.g52 Try.c52 rfl rfl rfl) ?_
     refine d_rstep [(26, _)] rfl rfl ⟨⟨rfl, rfl⟩, trivial⟩ rfl (r_call rfl rfl Try.ent35 rfl (newS_den b)) ?_
     refine d_rstep [(25, _), (27, _)] rfl rfl ⟨⟨rfl, rfl⟩, ⟨rfl, rfl⟩, trivial⟩ rfl (r_call rfl rfl Try.ent36 rfl (cmpS_den a b)) ?_
     refine d_pure [(7, _)] rfl rfl ⟨⟨rfl, rfl⟩, trivial⟩ rfl (p_move rfl) ?_
     refine d_pure [(28, _), (29, _)] rfl rfl ⟨⟨rfl, rfl⟩, ⟨rfl, rfl⟩, trivial⟩ rfl (p_bin rfl rfl (inteq_t (by have h5 := cmpS_tri.rng a b; have h6 := cmpS_tri.swap a b; omega))) ?_
     refine d_pure [(23, _), (30, _)] rfl rfl ⟨⟨rfl, rfl⟩, ⟨rfl, rfl⟩, trivial⟩ rfl (p_pick_t rfl rfl) ?_
     refine d_pure [(31, _)] rfl rfl ⟨⟨rfl, rfl⟩, trivial⟩ rfl (p_move rfl) ?_
     first | refine d_pure [(6, _)] rfl rfl ⟨⟨rfl, rfl⟩, trivial⟩ rfl (p_loads rfl Try.g52 Try.c52 rfl rfl) ?_ | refine d_pure [(6, _)] rfl rfl ⟨⟨rfl, rfl⟩, trivial⟩ rfl (p_loadsr rfl Try.g52 Try.c52 rfl rfl rfl) ?_
     refine d_rstep [(33, _)] rfl rfl ⟨⟨rfl, rfl⟩, trivial⟩ rfl (r_call rfl rfl Try.ent35 rfl (newS_den b)) ?_
     first | refine d_pure [(5, _)] rfl rfl ⟨⟨rfl, rfl⟩, trivial⟩ rfl (p_loads rfl Try.g52 Try.c52 rfl rfl) ?_ | refine d_pure [(5, _)] rfl rfl ⟨⟨rfl, rfl⟩, trivial⟩ rfl (p_loadsr rfl Try.g52 Try.c52 rfl rfl rfl) ?_
     refine d_rstep [(35, _)] rfl rfl ⟨⟨rfl, rfl⟩, trivial⟩ rfl (r_call rfl rfl Try.ent35 rfl (newS_den a)) ?_
     refine d_rstep [(34, _), (36, _)] rfl rfl ⟨⟨rfl, rfl⟩, ⟨rfl, rfl⟩, trivial⟩ rfl (r_call rfl rfl Try.ent36 rfl (cmpS_den b a)) ?_
     refine d_pure [(7, _)] rfl rfl ⟨⟨rfl, rfl⟩, trivial⟩ rfl (p_move rfl) ?_
     refine d_pure [(38, _)] rfl rfl ⟨⟨rfl, rfl⟩, trivial⟩ rfl (p_neg rfl) ?_
     refine d_pure [(37, _), (39, _)] rfl rfl ⟨⟨rfl, rfl⟩, ⟨rfl, rfl⟩, trivial⟩ rfl (p_bin rfl rfl (inteq_t (by have h5 := cmpS_tri.rng a b; have h6 := cmpS_tri.swap a b; first | (show cmpS b a = 1; omega) | (show cmpS b a = -1; omega) | (show cmpS b a = 0; omega)))) ?_
     refine d_pure [(32, _), (40, _)] rfl rfl ⟨⟨rfl, rfl⟩, ⟨rfl, rfl⟩, trivial⟩ rfl (p_pick_t rfl rfl) ?_
     refine d_pure [(41, _)] rfl rfl ⟨⟨rfl, rfl⟩, trivial⟩ rfl (p_move rfl) ?_
     refine d_pure [(1, _)] rfl rfl ⟨⟨rfl, rfl⟩, trivial⟩ rfl (p_move rfl) ?_
     refine d_rstep [(43, _)] rfl rfl ⟨⟨rfl, rfl⟩, trivial⟩ rfl (r_call rfl rfl Try.ent38 rfl (newsS_den _ (by omega))) ?_
     refine d_rstep [(44, _)] rfl rfl ⟨⟨rfl, rfl⟩, trivial⟩ rfl (r_call rfl rfl Try.ent37 rfl (risingS_den _ (by omega))) ?_
     refine d_pure [(1, _)] rfl rfl ⟨⟨rfl, rfl⟩, trivial⟩ rfl (p_move rfl) ?_
     refine d_rstep [(46, _)] rfl rfl ⟨⟨rfl, rfl⟩, trivial⟩ rfl (r_call rfl rfl Try.ent39 rfl (refRisingS_den _ (by omega))) ?_
     refine d_pure [(45, _), (47, _)] rfl rfl ⟨⟨rfl, rfl⟩, ⟨rfl, rfl⟩, trivial⟩ rfl (p_bin rfl rfl (booleq_t Try.underlying4 (rfl))) ?_
     refine d_pure [(42, _), (48, _)] rfl rfl ⟨⟨rfl, rfl⟩, ⟨rfl, rfl⟩, trivial⟩ rfl (p_pick_t rfl rfl) ?_
     refine d_pure [(49, _)] rfl rfl ⟨⟨rfl, rfl⟩, trivial⟩ rfl (p_assign rfl) ?_
     refine lex_end (sl' := [(4, _)]) rfl ⟨rfl, trivial⟩ rfl ?_
     refine hK15 _ ?_
     refine aw_ret ?_
     refine ⟨_, rfl, ?_⟩
     rfl
    ·
     try simp only [Bool.not_eq_true', Bool.not_eq_false', Bool.not_true, Bool.not_false, Bool.not_not, decide_eq_true_eq, decide_eq_false_iff_not, beq_iff_eq, beq_eq_false_iff_ne, bne_iff_ne, bne_eq_false_iff_eq, ne_eq, Int.not_lt, Int.not_le, Nat.not_lt, Nat.not_le, gt_iff_lt, ge_iff_le, Bool.and_eq_true, Bool.or_eq_true, Int.ofNat_lt, Int.ofNat_le, Int.natCast_inj, List.length_map, List.length_cons, List.length_nil, List.length_append] at hc4
     refine aw_skip ?_
     refine hK13 _ ?_
     refine aw_seq_k (fun K16 hK16 => ?_)
     refine aw_draw hf Try.mixed (by kernel_rfl) rfl ?_
     refine d_rstep [] rfl rfl trivial rfl (r_call rfl rfl Try.ent33 rfl (alive8_den)) ?_
     refine d_pure [(22, _)] rfl rfl ⟨⟨rfl, rfl⟩, trivial⟩ rfl (p_move rfl) ?_
     first | refine d_pure [(5, _)] rfl rfl ⟨⟨rfl, rfl⟩, trivial⟩ rfl (p_loads rfl Try.g52 Try.c52 rfl rfl) ?_ | refine d_pure [(5, _)] rfl rfl ⟨⟨rfl, rfl⟩, trivial⟩ rfl (p_loadsr rfl Try.g52 Try.c52 rfl rfl rfl) ?_
     refine d_rstep [(24, _)] rfl rfl ⟨⟨rfl, rfl⟩, trivial⟩ rfl (r_call rfl rfl Try.ent35 rfl (newS_den a)) ?_
     first | refine d_pure [(6, _)] rfl rfl ⟨⟨rfl, rfl⟩, trivial⟩ rfl (p_loads rfl Try.g52 Try.c52 rfl rfl) ?_ | refine d_pure [(6, _)] rfl rfl ⟨⟨rfl, rfl⟩, trivial⟩ rfl (p_loadsr rfl Try.g52 Try.c52 rfl rfl rfl) ?_
     refine d_rstep [(26, _)] rfl rfl ⟨⟨rfl, rfl⟩, trivial⟩ rfl (r_call rfl rfl Try.ent35 rfl (newS_den b)) ?_
     refine d_rstep [(25, _), (27, _)] rfl rfl ⟨⟨rfl, rfl⟩, ⟨rfl, rfl⟩, trivial⟩ rfl (r_call rfl rfl Try.ent36 rfl (cmpS_den a b)) ?_
     refine d_pure [(7, _)] rfl rfl ⟨⟨rfl, rfl⟩, trivial⟩ rfl (p_move rfl) ?_
     refine d_pure [(28, _), (29, _)] rfl rfl ⟨⟨rfl, rfl⟩, ⟨rfl, rfl⟩, trivial⟩ rfl (p_bin rfl rfl (inteq_t (by have h5 := cmpS_tri.rng a b; have h6 := cmpS_tri.swap a b; omega))) ?_
     refine d_pure [(23, _), (30, _)] rfl rfl ⟨⟨rfl, rfl⟩, ⟨rfl, rfl⟩, trivial⟩ rfl (p_pick_t rfl rfl) ?_
     refine d_pure [(31, _)] rfl rfl ⟨⟨rfl, rfl⟩, trivial⟩ rfl (p_move rfl) ?_
     first | refine d_pure [(6, _)] rfl rfl ⟨⟨rfl, rfl⟩, trivial⟩ rfl (p_loads rfl Try.g52 Try.c52 rfl rfl) ?_ | refine d_pure [(6, _)] rfl rfl ⟨⟨rfl, rfl⟩, trivial⟩ rfl (p_loadsr rfl Try.g52 Try.c52 rfl rfl rfl) ?_
     refine d_rstep [(33, _)] rfl rfl ⟨⟨rfl, rfl⟩, trivial⟩ rfl (r_call rfl rfl Try.ent35 rfl (newS_den b)) ?_
     first | refine d_pure [(5, _)] rfl rfl ⟨⟨rfl, rfl⟩, trivial⟩ rfl (p_loads rfl Try.g52 Try.c52 rfl rfl) ?_ | refine d_pure [(5, _)] rfl rfl ⟨⟨rfl, rfl⟩, trivial⟩ rfl (p_loadsr rfl Try.g52 Try.c52 rfl rfl rfl) ?_
     refine d_rstep [(35, _)] rfl rfl ⟨⟨rfl, rfl⟩, trivial⟩ rfl (r_call rfl rfl Try.ent35 rfl (newS_den a)) ?_
     refine d_rstep [(34, _), (36, _)] rfl rfl ⟨⟨rfl, rfl⟩, ⟨rfl, rfl⟩, trivial⟩ rfl (r_call rfl rfl Try.ent36 rfl (cmpS_den b a)) ?_
     refine d_pure [(7, _)] rfl rfl ⟨⟨rfl, rfl⟩, trivial⟩ rfl (p_move rfl) ?_
     refine d_pure [(38, _)] rfl rfl ⟨⟨rfl, rfl⟩, trivial⟩ rfl (p_neg rfl) ?_
     refine d_pure [(37, _), (39, _)] rfl rfl ⟨⟨rfl, rfl⟩, ⟨rfl, rfl⟩, trivial⟩ rfl (p_bin rfl rfl (inteq_t (by have h5 := cmpS_tri.rng a b; have h6 := cmpS_tri.swap a b; first | (show cmpS b a = 1; omega) | (show cmpS b a = -1; omega) | (show cmpS b a = 0; omega)))) ?_
     refine d_pure [(32, _), (40, _)] rfl rfl ⟨⟨rfl, rfl⟩, ⟨rfl, rfl⟩, trivial⟩ rfl (p_pick_t rfl rfl) ?_
     refine d_pure [(41, _)] rfl rfl ⟨⟨rfl, rfl⟩, trivial⟩ rfl (p_move rfl) ?_
     refine d_pure [(1, _)] rfl rfl ⟨⟨rfl, rfl⟩, trivial⟩ rfl (p_move rfl) ?_
     refine d_rstep [(43, _)] rfl rfl ⟨⟨rfl, rfl⟩, trivial⟩ rfl (r_call rfl rfl Try.ent38 rfl (newsS_den _ (by omega))) ?_
     refine d_rstep [(44, _)] rfl rfl ⟨⟨rfl, rfl⟩, trivial⟩ rfl (r_call rfl rfl Try.ent37 rfl (risingS_den _ (by omega))) ?_
     refine d_pure [(1, _)] rfl rfl ⟨⟨rfl, rfl⟩, trivial⟩ rfl (p_move rfl) ?_
     refine d_rstep [(46, _)] rfl rfl ⟨⟨rfl, rfl⟩, trivial⟩ rfl (r_call rfl rfl Try.ent39 rfl (refRisingS_den _ (by omega))) ?_
     refine d_pure [(45, _), (47, _)] rfl rfl ⟨⟨rfl, rfl⟩, ⟨rfl, rfl⟩, trivial⟩ rfl (p_bin rfl rfl (booleq_t Try.underlying4 (rfl))) ?_
     refine d_pure [(42, _), (48, _)] rfl rfl ⟨⟨rfl, rfl⟩, ⟨rfl, rfl⟩, trivial⟩ rfl (p_pick_t rfl rfl) ?_
     refine d_pure [(49, _)] rfl rfl ⟨⟨rfl, rfl⟩, trivial⟩ rfl (p_assign rfl) ?_
     refine lex_end (sl' := [(4, _)]) rfl ⟨rfl, trivial⟩ rfl ?_
     refine hK16 _ ?_
     refine aw_ret ?_
     refine ⟨_, rfl, ?_⟩
     rfl

set_option maxRecDepth 20000 in
set_option maxHeartbeats 8000000 in
theorem histAdds_den (l : List Stay) (s : Stay) (hl : l.length * 32 ≤ 140737488351232)  : Den Try.prog 8 [.sl 4 (l.map stC), .agg (stC s)]  (· = .s (.bool true)) := by
 refine den_of_aw Try.func8 rfl (Nat.le_of_ble_eq_true rfl) (fun w0 A hf => ?_)
 refine aw_seq_k (fun K1 hK1 => ?_)
 refine aw_region ?_
 refine x_step hf rfl (r_box rfl rfl (by simp [stC, AV.cells, AV.leaf, Value.oneCell', splice, AV.kill, AV.clean, cleanL, AV.only])) ?_
 refine x_pure rfl (p_assign_bad) ?_
 first | refine aops_end ?_ | refine aops_nil ?_
 refine hK1 _ ?_
 refine aw_seq_k (fun K2 hK2 => ?_)
 refine aw_seq_k (fun K3 hK3 => ?_)
 refine aw_region ?_
 refine x_pure rfl (p_move rfl) ?_
 first | refine x_pure rfl (p_len_sl rfl Try.e54) ?_ | refine x_pure rfl (p_len_own rfl Try.e54) ?_ | refine x_pure rfl (p_len_nil rfl Try.e54) ?_
 refine x_pure rfl (p_bin rfl rfl rfl) ?_
 first | refine aops_end ?_ | refine aops_nil ?_
 refine hK3 _ ?_
 refine aw_cond_s rfl (fun hc1 => ?_) (fun hc1 => ?_)
 ·
  try simp only [Bool.not_eq_true', Bool.not_eq_false', Bool.not_true, Bool.not_false, Bool.not_not, decide_eq_true_eq, decide_eq_false_iff_not, beq_iff_eq, beq_eq_false_iff_ne, bne_iff_ne, bne_eq_false_iff_eq, ne_eq, Int.not_lt, Int.not_le, Nat.not_lt, Nat.not_le, gt_iff_lt, ge_iff_le, Bool.and_eq_true, Bool.or_eq_true, Int.ofNat_lt, Int.ofNat_le, Int.natCast_inj, List.length_map, List.length_cons, List.length_nil, List.length_append] at hc1
  refine aw_seq_k (fun K4 hK4 => ?_)
  refine aw_region ?_
  refine x_step hf rfl (r_call rfl rfl Try.ent33 rfl (alive8_den)) ?_
  refine x_pure rfl (p_assign rfl) ?_
  first | refine aops_end ?_ | refine aops_nil ?_
  refine hK4 _ ?_
  refine aw_ret ?_
  refine ⟨_, rfl, ?_⟩
  rfl
 ·
  try simp only [Bool.not_eq_true', Bool.not_eq_false', Bool.not_true, Bool.not_false, Bool.not_not, decide_eq_true_eq, decide_eq_false_iff_not, beq_iff_eq, beq_eq_false_iff_ne, bne_iff_ne, bne_eq_false_iff_eq, ne_eq, Int.not_lt, Int.not_le, Nat.not_lt, Nat.not_le, gt_iff_lt, ge_iff_le, Bool.and_eq_true, Bool.or_eq_true, Int.ofNat_lt, Int.ofNat_le, Int.natCast_inj, List.length_map, List.length_cons, List.length_nil, List.length_append] at hc1
  refine aw_skip ?_
  refine hK2 _ ?_
  refine aw_seq_k (fun K5 hK5 => ?_)
  refine aw_region ?_
  have hal := addS_len l s
  refine x_pure rfl (p_move rfl) ?_
  refine x_step hf rfl (r_call rfl rfl Try.ent38 rfl (newsS_den _ (by omega))) ?_
  refine x_pure rfl (p_assign rfl) ?_
  first | refine aops_end ?_ | refine aops_nil ?_
  refine hK5 _ ?_
  refine aw_seq_k (fun K6 hK6 => ?_)
  refine aw_region ?_
  refine x_pure rfl (p_move rfl) ?_
  first | refine x_pure rfl (p_loads rfl Try.g52 Try.c52 rfl rfl) ?_ | refine x_pure rfl (p_loadsr rfl Try.g52 Try.c52 rfl rfl rfl) ?_
  refine x_step hf rfl (r_call rfl rfl Try.ent35 rfl (newS_den s)) ?_
  refine x_step hf rfl (r_call rfl rfl Try.ent40 rfl (addS_den _ _ (by omega))) ?_
  refine x_pure rfl (p_assign rfl) ?_
  first | refine aops_end ?_ | refine aops_nil ?_
  refine hK6 _ ?_
  refine aw_seq_k (fun K7 hK7 => ?_)
  refine aw_seq_k (fun K8 hK8 => ?_)
  refine aw_draw hf Try.mixed (by kernel_rfl) rfl ?_
  refine d_pure [(6, _)] rfl rfl ⟨⟨rfl, rfl⟩, trivial⟩ rfl (p_move rfl) ?_
  refine d_rstep [(20, _)] rfl rfl ⟨⟨rfl, rfl⟩, trivial⟩ rfl (r_call rfl rfl Try.ent42 rfl (oldsS_den _ (by omega))) ?_
  refine d_pure [(0, _)] rfl rfl ⟨⟨rfl, rfl⟩, trivial⟩ rfl (p_move rfl) ?_
  first | refine d_pure [(3, _)] rfl rfl ⟨⟨rfl, rfl⟩, trivial⟩ rfl (p_loads rfl Try.g52 Try.c52 rfl rfl) ?_ | refine d_pure [(3, _)] rfl rfl ⟨⟨rfl, rfl⟩, trivial⟩ rfl (p_loadsr rfl Try.g52 Try.c52 rfl rfl rfl) ?_
  refine d_rstep [(22, _), (23, _)] rfl rfl ⟨⟨rfl, rfl⟩, ⟨rfl, rfl⟩, trivial⟩ rfl (r_call rfl rfl Try.ent43 rfl (refAddS_den _ _ (by omega))) ?_
  refine d_rstep [(21, _), (24, _)] rfl rfl ⟨⟨rfl, rfl⟩, ⟨rfl, rfl⟩, trivial⟩ rfl (r_call rfl rfl Try.ent41 rfl (refSame8T_den _ _ rfl (by omega))) ?_
  refine d_pure [(25, _)] rfl rfl ⟨⟨rfl, rfl⟩, trivial⟩ rfl (p_not rfl) ?_
  refine d_pure [(26, _)] rfl rfl ⟨⟨rfl, rfl⟩, trivial⟩ rfl (p_move rfl) ?_
  refine d_pure [(5, _)] rfl rfl ⟨⟨rfl, rfl⟩, trivial⟩ rfl (p_move rfl) ?_
  refine d_rstep [(28, _)] rfl rfl ⟨⟨rfl, rfl⟩, trivial⟩ rfl (r_call rfl rfl Try.ent42 rfl (oldsS_den _ (by omega))) ?_
  refine d_pure [(0, _)] rfl rfl ⟨⟨rfl, rfl⟩, trivial⟩ rfl (p_move rfl) ?_
  refine d_rstep [(29, _), (30, _)] rfl rfl ⟨⟨rfl, rfl⟩, ⟨rfl, rfl⟩, trivial⟩ rfl (r_call rfl rfl Try.ent41 rfl (refSame8T_den _ _ rfl (by omega))) ?_
  refine d_pure [(31, _)] rfl rfl ⟨⟨rfl, rfl⟩, trivial⟩ rfl (p_not rfl) ?_
  refine d_pure [(27, _), (32, _)] rfl rfl ⟨⟨rfl, rfl⟩, ⟨rfl, rfl⟩, trivial⟩ rfl (p_pick_f rfl rfl) ?_
  refine lex_end (sl' := [(0, _), (3, _), (6, _), (33, _)]) rfl ⟨rfl, rfl, rfl, rfl, trivial⟩ rfl ?_
  refine hK8 _ ?_
  refine aw_cond_f rfl ?_
  refine aw_skip ?_
  refine hK7 _ ?_
  refine aw_seq_k (fun K9 hK9 => ?_)
  refine aw_seq_k (fun K10 hK10 => ?_)
  refine aw_region ?_
  refine x_pure rfl (p_move rfl) ?_
  refine x_step hf rfl (r_call rfl rfl Try.ent39 rfl (refRisingS_den _ (by omega))) ?_
  refine x_pure rfl (p_not rfl) ?_
  first | refine aops_end ?_ | refine aops_nil ?_
  refine hK10 _ ?_
  refine aw_cond_s rfl (fun hc3 => ?_) (fun hc3 => ?_)
  ·
   try simp only [Bool.not_eq_true', Bool.not_eq_false', Bool.not_true, Bool.not_false, Bool.not_not, decide_eq_true_eq, decide_eq_false_iff_not, beq_iff_eq, beq_eq_false_iff_ne, bne_iff_ne, bne_eq_false_iff_eq, ne_eq, Int.not_lt, Int.not_le, Nat.not_lt, Nat.not_le, gt_iff_lt, ge_iff_le, Bool.and_eq_true, Bool.or_eq_true, Int.ofNat_lt, Int.ofNat_le, Int.natCast_inj, List.length_map, List.length_cons, List.length_nil, List.length_append] at hc3
   refine aw_seq_k (fun K11 hK11 => ?_)
   refine aw_region ?_
   refine x_step hf rfl (r_call rfl rfl Try.ent33 rfl (alive8_den)) ?_
   refine x_pure rfl (p_assign rfl) ?_
   first | refine aops_end ?_ | refine aops_nil ?_
   refine hK11 _ ?_
   refine aw_ret ?_
   refine ⟨_, rfl, ?_⟩
   rfl
  ·
   try simp only [Bool.not_eq_true', Bool.not_eq_false', Bool.not_true, Bool.not_false, Bool.not_not, decide_eq_true_eq, decide_eq_false_iff_not, beq_iff_eq, beq_eq_false_iff_ne, bne_iff_ne, bne_eq_false_iff_eq, ne_eq, Int.not_lt, Int.not_le, Nat.not_lt, Nat.not_le, gt_iff_lt, ge_iff_le, Bool.and_eq_true, Bool.or_eq_true, Int.ofNat_lt, Int.ofNat_le, Int.natCast_inj, List.length_map, List.length_cons, List.length_nil, List.length_append] at hc3
   refine aw_skip ?_
   refine hK9 _ ?_
   refine aw_seq_k (fun K12 hK12 => ?_)
   refine aw_region ?_
   refine x_pure rfl (p_assign rfl) ?_
   first | refine aops_end ?_ | refine aops_nil ?_
   refine hK12 _ ?_
   refine aw_seq_k (fun K13 hK13 => ?_)
   refine aw_seq_k (fun K14 hK14 => ?_)
   refine aw_region ?_
   refine x_pure rfl (p_move rfl) ?_
   first | refine x_pure rfl (p_len_sl rfl Try.e54) ?_ | refine x_pure rfl (p_len_own rfl Try.e54) ?_ | refine x_pure rfl (p_len_nil rfl Try.e54) ?_
   refine x_pure rfl (p_move rfl) ?_
   first | refine aops_end ?_ | refine aops_nil ?_
   refine hK14 _ ?_
   refine aw_block ?_
   refine aw_loop (ι := Nat × Bool) (fun (⟨k, h⟩ : Nat × Bool) => ⟨59, [(3, .adr (stC s)), (6, .sl 4 ((addS l s).map stC)), (7, .s (.bool h)), (38, .sl 4 (l.map stC)), (39, .s (.int .i64 ((l.map stC).length : Nat))), (40, .s (.int .i64 (k : Nat)))], []⟩) (fun (⟨k, h⟩ : Nat × Bool) => k ≤ l.length ∧ h = (l.take k).any (fun y => decide (y = s))) (fun (⟨k, h⟩ : Nat × Bool) => l.length - k) (0, false) ?_ ?_ ?_
   · exact ⟨Nat.zero_le _, rfl⟩
   · exact le_of ⟨rfl, rfl, rfl, rfl, rfl, rfl, trivial⟩
   ·
    rintro ⟨k, h⟩ hC
    obtain ⟨h1, h2⟩ := hC
    refine aw_seq_k (fun K15 hK15 => ?_)
    refine aw_region ?_
    refine x_pure rfl (p_bin rfl rfl rfl) ?_
    first | refine aops_end ?_ | refine aops_nil ?_
    refine hK15 _ ?_
    refine aw_seq_k (fun K16 hK16 => ?_)
    refine aw_cond_s rfl (fun hc4 => ?_) (fun hc4 => ?_)
    ·
     try simp only [Bool.not_eq_true', Bool.not_eq_false', Bool.not_true, Bool.not_false, Bool.not_not, decide_eq_true_eq, decide_eq_false_iff_not, beq_iff_eq, beq_eq_false_iff_ne, bne_iff_ne, bne_eq_false_iff_eq, ne_eq, Int.not_lt, Int.not_le, Nat.not_lt, Nat.not_le, gt_iff_lt, ge_iff_le, Bool.and_eq_true, Bool.or_eq_true, Int.ofNat_lt, Int.ofNat_le, Int.natCast_inj, List.length_map, List.length_cons, List.length_nil, List.length_append] at hc4
     refine aw_skip ?_
     refine hK16 _ ?_
     refine aw_seq_k (fun K17 hK17 => ?_)
     refine aw_block ?_
     refine aw_seq_k (fun K18 hK18 => ?_)
     refine aw_region ?_
     first | refine x_pure rfl (p_idx_sl rfl rfl Try.e54 Try.c52 (by first | assumption | (refine ⟨by omega, ?_⟩; first | assumption | exact strs_at (by omega) | exact strs_at (by simp only [List.length_cons] at *; omega) | exact ints_at (by omega) | exact map_at (by omega) | exact list_at (by omega)) | exact ⟨by decide, rfl⟩)) ?_ | refine x_pure rfl (p_idx_own rfl rfl Try.e54 Try.c52 (by omega)) ?_
     first | refine x_pure rfl (p_loads rfl Try.g52 Try.c52 rfl rfl) ?_ | refine x_pure rfl (p_loadsr rfl Try.g52 Try.c52 rfl rfl rfl) ?_
     refine x_allocst hf rfl Try.z52 rfl Try.c52 rfl rfl rfl rfl (by simp [stC, AV.cells, AV.leaf, Value.oneCell', splice, AV.kill, AV.clean, cleanL, AV.only]) ?_
     first | refine aops_end ?_ | refine aops_nil ?_
     refine hK18 _ ?_
     refine aw_region ?_
     refine x_pure rfl (p_move rfl) ?_
     refine x_pure rfl (p_move rfl) ?_
     refine y_guard_s rfl rfl rfl (fun hg5 => ?_) (fun hg5 => ?_)
     ·
      try simp only [Bool.not_eq_true', Bool.not_eq_false', Bool.not_true, Bool.not_false, Bool.not_not, decide_eq_true_eq, decide_eq_false_iff_not, beq_iff_eq, beq_eq_false_iff_ne, bne_iff_ne, bne_eq_false_iff_eq, ne_eq, Int.not_lt, Int.not_le, Nat.not_lt, Nat.not_le, gt_iff_lt, ge_iff_le, Bool.and_eq_true, Bool.or_eq_true, Int.ofNat_lt, Int.ofNat_le, Int.natCast_inj, List.length_map, List.length_cons, List.length_nil, List.length_append] at hg5
      first | refine x_pure rfl (p_loads rfl Try.g52 Try.c52 rfl rfl) ?_ | refine x_pure rfl (p_loadsr rfl Try.g52 Try.c52 rfl rfl rfl) ?_
      refine x_guard_t rfl rfl rfl ?_
      first | refine x_pure rfl (p_loads rfl Try.g52 Try.c52 rfl rfl) ?_ | refine x_pure rfl (p_loadsr rfl Try.g52 Try.c52 rfl rfl rfl) ?_
      refine x_guard_t rfl rfl rfl ?_
      refine x_pure rfl (p_eqagg rfl rfl Try.q52 (aeq_stF (x := l[k]) (y := s))) ?_
      refine x_pure rfl (p_pick_f rfl rfl) ?_
      refine x_pure rfl (p_assign rfl) ?_
      first | refine aops_end ?_ | refine aops_nil ?_
      refine hK17 _ ?_
      refine aw_region ?_
      first | refine x_pure rfl (p_add rfl rfl (by omega) (by omega)) ?_ | refine x_pure rfl (p_bin rfl rfl rfl) ?_
      refine x_pure rfl (p_move rfl) ?_
      first | refine aops_end ?_ | refine aops_nil ?_
      first
      | exact ⟨(k + 1, decide (l[k] = s)), ⟨by omega, by rw [any_next (by omega), ← h2]; simp_all⟩, by simp only; omega, le_of ⟨rfl, rfl, rfl, rfl, rfl, rfl, trivial⟩⟩
      | exact ⟨(k + 1, true), ⟨by omega, by rw [any_next (by omega), ← h2]; simp_all⟩, by simp only; omega, le_of ⟨rfl, rfl, rfl, rfl, rfl, rfl, trivial⟩⟩
     ·
      try simp only [Bool.not_eq_true', Bool.not_eq_false', Bool.not_true, Bool.not_false, Bool.not_not, decide_eq_true_eq, decide_eq_false_iff_not, beq_iff_eq, beq_eq_false_iff_ne, bne_iff_ne, bne_eq_false_iff_eq, ne_eq, Int.not_lt, Int.not_le, Nat.not_lt, Nat.not_le, gt_iff_lt, ge_iff_le, Bool.and_eq_true, Bool.or_eq_true, Int.ofNat_lt, Int.ofNat_le, Int.natCast_inj, List.length_map, List.length_cons, List.length_nil, List.length_append] at hg5
      refine x_guard_f rfl rfl rfl ?_
      refine x_guard_f rfl rfl rfl ?_
      refine x_pure rfl (p_pick_t rfl rfl) ?_
      refine x_pure rfl (p_assign rfl) ?_
      first | refine aops_end ?_ | refine aops_nil ?_
      refine hK17 _ ?_
      refine aw_region ?_
      first | refine x_pure rfl (p_add rfl rfl (by omega) (by omega)) ?_ | refine x_pure rfl (p_bin rfl rfl rfl) ?_
      refine x_pure rfl (p_move rfl) ?_
      first | refine aops_end ?_ | refine aops_nil ?_
      first
      | exact ⟨(k + 1, decide (l[k] = s)), ⟨by omega, by rw [any_next (by omega), ← h2]; simp_all⟩, by simp only; omega, le_of ⟨rfl, rfl, rfl, rfl, rfl, rfl, trivial⟩⟩
      | exact ⟨(k + 1, true), ⟨by omega, by rw [any_next (by omega), ← h2]; simp_all⟩, by simp only; omega, le_of ⟨rfl, rfl, rfl, rfl, rfl, rfl, trivial⟩⟩
    ·
     try simp only [Bool.not_eq_true', Bool.not_eq_false', Bool.not_true, Bool.not_false, Bool.not_not, decide_eq_true_eq, decide_eq_false_iff_not, beq_iff_eq, beq_eq_false_iff_ne, bne_iff_ne, bne_eq_false_iff_eq, ne_eq, Int.not_lt, Int.not_le, Nat.not_lt, Nat.not_le, gt_iff_lt, ge_iff_le, Bool.and_eq_true, Bool.or_eq_true, Int.ofNat_lt, Int.ofNat_le, Int.natCast_inj, List.length_map, List.length_cons, List.length_nil, List.length_append] at hc4
     refine aw_exit ?_
     refine hK13 _ ?_
     refine aw_seq_k (fun K19 hK19 => ?_)
     refine aw_region ?_
     refine x_step hf rfl (r_call rfl rfl Try.ent33 rfl (alive8_den)) ?_
     refine x_pure rfl (p_move rfl) ?_
     refine x_guard_t rfl rfl rfl ?_
     refine x_pure rfl (p_move rfl) ?_
     refine x_guard_t rfl rfl rfl ?_
     refine x_step hf rfl (r_call rfl rfl Try.ent37 rfl (risingS_den _ (by omega))) ?_
     refine x_guard_t rfl rfl rfl ?_
     refine x_pure rfl (p_move rfl) ?_
     refine x_guard_t rfl rfl rfl ?_
     refine x_pure rfl (p_not rfl) ?_
     refine x_guard_t rfl rfl rfl ?_
     refine x_pure rfl (p_bin rfl rfl (booleq_t Try.underlying4 (by rw [ris_add (by assumption), h2, List.take_of_length_le (by omega)]))) ?_
     refine x_pure rfl (p_pick_t rfl rfl) ?_
     refine x_pure rfl (p_assign rfl) ?_
     first | refine aops_end ?_ | refine aops_nil ?_
     refine hK19 _ ?_
     refine aw_ret ?_
     refine ⟨_, rfl, ?_⟩
     rfl

set_option maxRecDepth 20000 in
set_option maxHeartbeats 8000000 in
theorem histAfter_den (l m : List Stay) (t : Int) (hl : l.length * 32 ≤ 140737488351232) (hm : m.length * 32 ≤ 140737488351232)  : Den Try.prog 9 [.agg [.sl 4 (l.map stC), .sl 4 (m.map stC)], .s (.int .i64 t)]  (· = .s (.bool true)) := by
 refine den_of_aw Try.func9 rfl (Nat.le_of_ble_eq_true rfl) (fun w0 A hf => ?_)
 refine aw_seq_k (fun K1 hK1 => ?_)
 refine aw_region ?_
 refine x_step hf rfl (r_box rfl rfl (by simp [stC, AV.cells, AV.leaf, Value.oneCell', splice, AV.kill, AV.clean, cleanL, AV.only])) ?_
 refine x_pure rfl (p_assign_bad) ?_
 first | refine aops_end ?_ | refine aops_nil ?_
 refine hK1 _ ?_
 refine aw_seq_k (fun K2 hK2 => ?_)
 refine aw_draw hf Try.mixed (by kernel_rfl) rfl ?_
 refine d_pure [(2, _)] rfl rfl ⟨⟨rfl, rfl⟩, trivial⟩ rfl (p_idx_arr rfl rfl Try.ar70 Try.c54 (by first | decide | omega) rfl) ?_
 first | refine d_pure [(11, _)] rfl rfl ⟨⟨rfl, rfl⟩, trivial⟩ rfl (p_load1 rfl Try.g54 rfl) ?_ | refine d_pure [(11, _)] rfl rfl ⟨⟨rfl, rfl⟩, trivial⟩ rfl (p_load1r rfl Try.g54 rfl rfl) ?_ | refine d_pure [(11, _)] rfl rfl ⟨⟨rfl, rfl⟩, trivial⟩ rfl (p_load1r rfl Try.g54 rfl (strs_ref (by simp only [List.length_cons] at *; omega))) ?_ | refine d_pure [(11, _)] rfl rfl ⟨⟨rfl, rfl⟩, trivial⟩ rfl (p_load1r rfl Try.g54 rfl (strs_ref (by omega))) ?_
 refine d_pure [(2, _)] rfl rfl ⟨⟨rfl, rfl⟩, trivial⟩ rfl (p_idx_arr rfl rfl Try.ar70 Try.c54 (by first | decide | omega) rfl) ?_
 first | refine d_pure [(13, _)] rfl rfl ⟨⟨rfl, rfl⟩, trivial⟩ rfl (p_load1 rfl Try.g54 rfl) ?_ | refine d_pure [(13, _)] rfl rfl ⟨⟨rfl, rfl⟩, trivial⟩ rfl (p_load1r rfl Try.g54 rfl rfl) ?_ | refine d_pure [(13, _)] rfl rfl ⟨⟨rfl, rfl⟩, trivial⟩ rfl (p_load1r rfl Try.g54 rfl (strs_ref (by simp only [List.length_cons] at *; omega))) ?_ | refine d_pure [(13, _)] rfl rfl ⟨⟨rfl, rfl⟩, trivial⟩ rfl (p_load1r rfl Try.g54 rfl (strs_ref (by omega))) ?_
 refine d_pure [(12, _)] rfl rfl ⟨⟨rfl, rfl⟩, trivial⟩ rfl (p_assign rfl) ?_
 refine d_pure [(14, _)] rfl rfl ⟨⟨rfl, rfl⟩, trivial⟩ rfl (p_assign rfl) ?_
 refine lex_end (sl' := [(1, _), (5, _), (6, _)]) rfl ⟨rfl, rfl, rfl, trivial⟩ rfl ?_
 refine hK2 _ ?_
 refine aw_seq_k (fun K3 hK3 => ?_)
 refine aw_seq_k (fun K4 hK4 => ?_)
 refine aw_region ?_
 refine x_pure rfl (p_move rfl) ?_
 first | refine x_pure rfl (p_len_sl rfl Try.e54) ?_ | refine x_pure rfl (p_len_own rfl Try.e54) ?_ | refine x_pure rfl (p_len_nil rfl Try.e54) ?_
 refine x_pure rfl (p_bin rfl rfl rfl) ?_
 refine x_pure rfl (p_move rfl) ?_
 refine y_guard_s rfl rfl rfl (fun hg1 => ?_) (fun hg1 => ?_)
 ·
  try simp only [Bool.not_eq_true', Bool.not_eq_false', Bool.not_true, Bool.not_false, Bool.not_not, decide_eq_true_eq, decide_eq_false_iff_not, beq_iff_eq, beq_eq_false_iff_ne, bne_iff_ne, bne_eq_false_iff_eq, ne_eq, Int.not_lt, Int.not_le, Nat.not_lt, Nat.not_le, gt_iff_lt, ge_iff_le, Bool.and_eq_true, Bool.or_eq_true, Int.ofNat_lt, Int.ofNat_le, Int.natCast_inj, List.length_map, List.length_cons, List.length_nil, List.length_append] at hg1
  refine x_pure rfl (p_move rfl) ?_
  refine x_guard_t rfl rfl rfl ?_
  first | refine x_pure rfl (p_len_sl rfl Try.e54) ?_ | refine x_pure rfl (p_len_own rfl Try.e54) ?_ | refine x_pure rfl (p_len_nil rfl Try.e54) ?_
  refine x_guard_t rfl rfl rfl ?_
  refine x_pure rfl (p_bin rfl rfl rfl) ?_
  refine x_pure rfl (p_pick_f rfl rfl) ?_
  first | refine aops_end ?_ | refine aops_nil ?_
  refine hK4 _ ?_
  refine aw_cond_s rfl (fun hc2 => ?_) (fun hc2 => ?_)
  ·
   try simp only [Bool.not_eq_true', Bool.not_eq_false', Bool.not_true, Bool.not_false, Bool.not_not, decide_eq_true_eq, decide_eq_false_iff_not, beq_iff_eq, beq_eq_false_iff_ne, bne_iff_ne, bne_eq_false_iff_eq, ne_eq, Int.not_lt, Int.not_le, Nat.not_lt, Nat.not_le, gt_iff_lt, ge_iff_le, Bool.and_eq_true, Bool.or_eq_true, Int.ofNat_lt, Int.ofNat_le, Int.natCast_inj, List.length_map, List.length_cons, List.length_nil, List.length_append] at hc2
   refine aw_seq_k (fun K5 hK5 => ?_)
   refine aw_region ?_
   refine x_step hf rfl (r_call rfl rfl Try.ent33 rfl (alive8_den)) ?_
   refine x_pure rfl (p_assign rfl) ?_
   first | refine aops_end ?_ | refine aops_nil ?_
   refine hK5 _ ?_
   refine aw_ret ?_
   refine ⟨_, rfl, ?_⟩
   rfl
  ·
   try simp only [Bool.not_eq_true', Bool.not_eq_false', Bool.not_true, Bool.not_false, Bool.not_not, decide_eq_true_eq, decide_eq_false_iff_not, beq_iff_eq, beq_eq_false_iff_ne, bne_iff_ne, bne_eq_false_iff_eq, ne_eq, Int.not_lt, Int.not_le, Nat.not_lt, Nat.not_le, gt_iff_lt, ge_iff_le, Bool.and_eq_true, Bool.or_eq_true, Int.ofNat_lt, Int.ofNat_le, Int.natCast_inj, List.length_map, List.length_cons, List.length_nil, List.length_append] at hc2
   refine aw_skip ?_
   refine hK3 _ ?_
   refine aw_seq_k (fun K6 hK6 => ?_)
   refine aw_region ?_
   have hfl := List.length_filter_le (fun s : Stay => !decide (s.1.2 ≤ t)) l
   refine x_pure rfl (p_move rfl) ?_
   refine x_step hf rfl (r_call rfl rfl Try.ent38 rfl (newsS_den _ (by omega))) ?_
   refine x_step hf rfl (r_call rfl rfl Try.ent44 rfl (lastS_den _ (by omega))) ?_
   refine x_pure rfl (p_move rfl) ?_
   refine x_pure rfl (p_extract rfl rfl) ?_
   refine x_pure rfl (p_extract rfl rfl) ?_
   refine x_pure rfl (p_assign rfl) ?_
   refine x_pure rfl (p_assign rfl) ?_
   first | refine aops_end ?_ | refine aops_nil ?_
   refine hK6 _ ?_
   refine aw_seq_k (fun K7 hK7 => ?_)
   refine aw_region ?_
   refine x_pure rfl (p_move rfl) ?_
   refine x_step hf rfl (r_call rfl rfl Try.ent45 rfl (refLastS_den _ (by omega))) ?_
   refine x_pure rfl (p_move rfl) ?_
   refine x_pure rfl (p_extract rfl rfl) ?_
   refine x_pure rfl (p_extract rfl rfl) ?_
   refine x_pure rfl (p_assign rfl) ?_
   refine x_pure rfl (p_assign rfl) ?_
   first | refine aops_end ?_ | refine aops_nil ?_
   refine hK7 _ ?_
   refine aw_seq_k (fun K8 hK8 => ?_)
   refine aw_region ?_
   refine x_step hf rfl (r_call rfl rfl Try.ent33 rfl (alive8_den)) ?_
   refine x_pure rfl (p_move rfl) ?_
   refine x_guard_t rfl rfl rfl ?_
   refine x_pure rfl (p_move rfl) ?_
   refine x_guard_t rfl rfl rfl ?_
   refine x_step hf rfl (r_call rfl rfl Try.ent38 rfl (newsS_den _ (by omega))) ?_
   refine x_guard_t rfl rfl rfl ?_
   refine x_pure rfl (p_move rfl) ?_
   refine x_guard_t rfl rfl rfl ?_
   refine x_step hf rfl (r_call rfl rfl Try.ent46 rfl (afterS_den _ _ (by omega))) ?_
   refine x_guard_t rfl rfl rfl ?_
   refine x_step hf rfl (r_call rfl rfl Try.ent42 rfl (oldsS_den _ (by omega))) ?_
   refine x_guard_t rfl rfl rfl ?_
   refine x_pure rfl (p_move rfl) ?_
   refine x_guard_t rfl rfl rfl ?_
   refine x_pure rfl (p_move rfl) ?_
   refine x_guard_t rfl rfl rfl ?_
   refine x_step hf rfl (r_call rfl rfl Try.ent47 rfl (refAfterS_den _ _ (by omega))) ?_
   refine x_guard_t rfl rfl rfl ?_
   refine x_step hf rfl (r_call rfl rfl Try.ent41 rfl (refSame8T_den _ _ rfl (by omega))) ?_
   refine x_pure rfl (p_pick_t rfl rfl) ?_
   refine x_pure rfl (p_move rfl) ?_
   refine x_guard_t rfl rfl rfl ?_
   refine x_pure rfl (p_move rfl) ?_
   refine x_guard_t rfl rfl rfl ?_
   refine x_pure rfl (p_move rfl) ?_
   refine x_guard_t rfl rfl rfl ?_
   refine x_pure rfl (p_bin rfl rfl (inteq_t (rfl))) ?_
   refine x_pure rfl (p_pick_t rfl rfl) ?_
   refine x_pure rfl (p_move rfl) ?_
   refine x_guard_t rfl rfl rfl ?_
   refine x_pure rfl (p_move rfl) ?_
   refine x_guard_t rfl rfl rfl ?_
   refine x_pure rfl (p_move rfl) ?_
   refine x_guard_t rfl rfl rfl ?_
   refine x_pure rfl (p_bin rfl rfl (booleq_t Try.underlying4 (rfl))) ?_
   refine x_pure rfl (p_pick_t rfl rfl) ?_
   refine x_pure rfl (p_move rfl) ?_
   refine x_guard_t rfl rfl rfl ?_
   refine x_pure rfl (p_move rfl) ?_
   refine x_guard_t rfl rfl rfl ?_
   refine x_step hf rfl (r_call rfl rfl Try.ent38 rfl (newsS_den _ (by omega))) ?_
   refine x_guard_t rfl rfl rfl ?_
   refine x_pure rfl (p_move rfl) ?_
   refine x_guard_t rfl rfl rfl ?_
   refine x_step hf rfl (r_call rfl rfl Try.ent38 rfl (newsS_den _ (by omega))) ?_
   refine x_guard_t rfl rfl rfl ?_
   refine x_step hf rfl (r_call rfl rfl Try.ent48 rfl (same8_den _ _ (by omega) (by omega))) ?_
   refine x_guard_t rfl rfl rfl ?_
   refine x_pure rfl (p_move rfl) ?_
   refine x_guard_t rfl rfl rfl ?_
   refine x_pure rfl (p_move rfl) ?_
   refine x_guard_t rfl rfl rfl ?_
   refine x_step hf rfl (r_call rfl rfl Try.ent41 rfl (refSame8_den _ _ (by omega) (by omega))) ?_
   refine x_guard_t rfl rfl rfl ?_
   refine x_pure rfl (p_bin rfl rfl (booleq_t Try.underlying4 (rfl))) ?_
   refine x_pure rfl (p_pick_t rfl rfl) ?_
   refine x_pure rfl (p_assign rfl) ?_
   first | refine aops_end ?_ | refine aops_nil ?_
   refine hK8 _ ?_
   refine aw_ret ?_
   refine ⟨_, rfl, ?_⟩
   rfl
 ·
  try simp only [Bool.not_eq_true', Bool.not_eq_false', Bool.not_true, Bool.not_false, Bool.not_not, decide_eq_true_eq, decide_eq_false_iff_not, beq_iff_eq, beq_eq_false_iff_ne, bne_iff_ne, bne_eq_false_iff_eq, ne_eq, Int.not_lt, Int.not_le, Nat.not_lt, Nat.not_le, gt_iff_lt, ge_iff_le, Bool.and_eq_true, Bool.or_eq_true, Int.ofNat_lt, Int.ofNat_le, Int.natCast_inj, List.length_map, List.length_cons, List.length_nil, List.length_append] at hg1
  refine x_guard_f rfl rfl rfl ?_
  refine x_guard_f rfl rfl rfl ?_
  refine x_pure rfl (p_pick_t rfl rfl) ?_
  first | refine aops_end ?_ | refine aops_nil ?_
  refine hK4 _ ?_
  refine aw_cond_t rfl ?_
  refine aw_seq_k (fun K9 hK9 => ?_)
  refine aw_region ?_
  refine x_step hf rfl (r_call rfl rfl Try.ent33 rfl (alive8_den)) ?_
  refine x_pure rfl (p_assign rfl) ?_
  first | refine aops_end ?_ | refine aops_nil ?_
  refine hK9 _ ?_
  refine aw_ret ?_
  refine ⟨_, rfl, ?_⟩
  rfl

set_option maxRecDepth 20000 in
set_option maxHeartbeats 8000000 in
theorem histOrderless_den (l : List Stay) (a b : Stay) (hl : l.length * 32 ≤ 140737488351232)  : Den Try.prog 10 [.sl 4 (l.map stC), .agg (stC a), .agg (stC b)]  (· = .s (.bool true)) := by
 refine den_of_aw Try.func10 rfl (Nat.le_of_ble_eq_true rfl) (fun w0 A hf => ?_)
 refine aw_seq_k (fun K1 hK1 => ?_)
 refine aw_region ?_
 refine x_step hf rfl (r_box rfl rfl (by simp [stC, AV.cells, AV.leaf, Value.oneCell', splice, AV.kill, AV.clean, cleanL, AV.only])) ?_
 refine x_step hf rfl (r_box rfl rfl (by simp [stC, AV.cells, AV.leaf, Value.oneCell', splice, AV.kill, AV.clean, cleanL, AV.only])) ?_
 refine x_pure rfl (p_assign_bad) ?_
 first | refine aops_end ?_ | refine aops_nil ?_
 refine hK1 _ ?_
 refine aw_seq_k (fun K2 hK2 => ?_)
 refine aw_seq_k (fun K3 hK3 => ?_)
 refine aw_region ?_
 refine x_pure rfl (p_move rfl) ?_
 first | refine x_pure rfl (p_len_sl rfl Try.e54) ?_ | refine x_pure rfl (p_len_own rfl Try.e54) ?_ | refine x_pure rfl (p_len_nil rfl Try.e54) ?_
 refine x_pure rfl (p_bin rfl rfl rfl) ?_
 refine x_pure rfl (p_move rfl) ?_
 refine y_guard_s rfl rfl rfl (fun hg1 => ?_) (fun hg1 => ?_)
 ·
  try simp only [Bool.not_eq_true', Bool.not_eq_false', Bool.not_true, Bool.not_false, Bool.not_not, decide_eq_true_eq, decide_eq_false_iff_not, beq_iff_eq, beq_eq_false_iff_ne, bne_iff_ne, bne_eq_false_iff_eq, ne_eq, Int.not_lt, Int.not_le, Nat.not_lt, Nat.not_le, gt_iff_lt, ge_iff_le, Bool.and_eq_true, Bool.or_eq_true, Int.ofNat_lt, Int.ofNat_le, Int.natCast_inj, List.length_map, List.length_cons, List.length_nil, List.length_append] at hg1
  refine x_pure rfl (p_move rfl) ?_
  refine x_guard_t rfl rfl rfl ?_
  refine x_step hf rfl (r_call rfl rfl Try.ent39 rfl (refRisingS_den _ (by omega))) ?_
  refine x_guard_t rfl rfl rfl ?_
  refine x_pure rfl (p_not rfl) ?_
  refine x_pure rfl (p_pick_f rfl rfl) ?_
  first | refine aops_end ?_ | refine aops_nil ?_
  refine hK3 _ ?_
  refine aw_cond_s rfl (fun hc2 => ?_) (fun hc2 => ?_)
  ·
   try simp only [Bool.not_eq_true', Bool.not_eq_false', Bool.not_true, Bool.not_false, Bool.not_not, decide_eq_true_eq, decide_eq_false_iff_not, beq_iff_eq, beq_eq_false_iff_ne, bne_iff_ne, bne_eq_false_iff_eq, ne_eq, Int.not_lt, Int.not_le, Nat.not_lt, Nat.not_le, gt_iff_lt, ge_iff_le, Bool.and_eq_true, Bool.or_eq_true, Int.ofNat_lt, Int.ofNat_le, Int.natCast_inj, List.length_map, List.length_cons, List.length_nil, List.length_append] at hc2
   refine aw_seq_k (fun K4 hK4 => ?_)
   refine aw_region ?_
   refine x_step hf rfl (r_call rfl rfl Try.ent33 rfl (alive8_den)) ?_
   refine x_pure rfl (p_assign rfl) ?_
   first | refine aops_end ?_ | refine aops_nil ?_
   refine hK4 _ ?_
   refine aw_ret ?_
   refine ⟨_, rfl, ?_⟩
   rfl
  ·
   try simp only [Bool.not_eq_true', Bool.not_eq_false', Bool.not_true, Bool.not_false, Bool.not_not, decide_eq_true_eq, decide_eq_false_iff_not, beq_iff_eq, beq_eq_false_iff_ne, bne_iff_ne, bne_eq_false_iff_eq, ne_eq, Int.not_lt, Int.not_le, Nat.not_lt, Nat.not_le, gt_iff_lt, ge_iff_le, Bool.and_eq_true, Bool.or_eq_true, Int.ofNat_lt, Int.ofNat_le, Int.natCast_inj, List.length_map, List.length_cons, List.length_nil, List.length_append] at hc2
   refine aw_skip ?_
   refine hK2 _ ?_
   refine aw_seq_k (fun K5 hK5 => ?_)
   refine aw_region ?_
   refine x_pure rfl (p_move rfl) ?_
   refine x_step hf rfl (r_call rfl rfl Try.ent38 rfl (newsS_den _ (by omega))) ?_
   refine x_pure rfl (p_assign rfl) ?_
   first | refine aops_end ?_ | refine aops_nil ?_
   refine hK5 _ ?_
   refine aw_seq_k (fun K6 hK6 => ?_)
   refine aw_draw hf Try.mixed (by kernel_rfl) rfl ?_
   have q1 := addS_len l a
   have q2 := addS_len l b
   have q3 := addS_len (addS l a) b
   refine d_pure [(7, _)] rfl rfl ⟨⟨rfl, rfl⟩, trivial⟩ rfl (p_move rfl) ?_
   first | refine d_pure [(4, _)] rfl rfl ⟨⟨rfl, rfl⟩, trivial⟩ rfl (p_loads rfl Try.g52 Try.c52 rfl rfl) ?_ | refine d_pure [(4, _)] rfl rfl ⟨⟨rfl, rfl⟩, trivial⟩ rfl (p_loadsr rfl Try.g52 Try.c52 rfl rfl rfl) ?_
   refine d_rstep [(20, _)] rfl rfl ⟨⟨rfl, rfl⟩, trivial⟩ rfl (r_call rfl rfl Try.ent35 rfl (newS_den a)) ?_
   refine d_rstep [(19, _), (21, _)] rfl rfl ⟨⟨rfl, rfl⟩, ⟨rfl, rfl⟩, trivial⟩ rfl (r_call rfl rfl Try.ent40 rfl (addS_den _ _ (by omega))) ?_
   first | refine d_pure [(5, _)] rfl rfl ⟨⟨rfl, rfl⟩, trivial⟩ rfl (p_loads rfl Try.g52 Try.c52 rfl rfl) ?_ | refine d_pure [(5, _)] rfl rfl ⟨⟨rfl, rfl⟩, trivial⟩ rfl (p_loadsr rfl Try.g52 Try.c52 rfl rfl rfl) ?_
   refine d_rstep [(23, _)] rfl rfl ⟨⟨rfl, rfl⟩, trivial⟩ rfl (r_call rfl rfl Try.ent35 rfl (newS_den b)) ?_
   refine d_rstep [(22, _), (24, _)] rfl rfl ⟨⟨rfl, rfl⟩, ⟨rfl, rfl⟩, trivial⟩ rfl (r_call rfl rfl Try.ent40 rfl (addS_den _ _ (by omega))) ?_
   refine d_pure [(7, _)] rfl rfl ⟨⟨rfl, rfl⟩, trivial⟩ rfl (p_move rfl) ?_
   first | refine d_pure [(5, _)] rfl rfl ⟨⟨rfl, rfl⟩, trivial⟩ rfl (p_loads rfl Try.g52 Try.c52 rfl rfl) ?_ | refine d_pure [(5, _)] rfl rfl ⟨⟨rfl, rfl⟩, trivial⟩ rfl (p_loadsr rfl Try.g52 Try.c52 rfl rfl rfl) ?_
   refine d_rstep [(27, _)] rfl rfl ⟨⟨rfl, rfl⟩, trivial⟩ rfl (r_call rfl rfl Try.ent35 rfl (newS_den b)) ?_
   refine d_rstep [(26, _), (28, _)] rfl rfl ⟨⟨rfl, rfl⟩, ⟨rfl, rfl⟩, trivial⟩ rfl (r_call rfl rfl Try.ent40 rfl (addS_den _ _ (by omega))) ?_
   first | refine d_pure [(4, _)] rfl rfl ⟨⟨rfl, rfl⟩, trivial⟩ rfl (p_loads rfl Try.g52 Try.c52 rfl rfl) ?_ | refine d_pure [(4, _)] rfl rfl ⟨⟨rfl, rfl⟩, trivial⟩ rfl (p_loadsr rfl Try.g52 Try.c52 rfl rfl rfl) ?_
   refine d_rstep [(30, _)] rfl rfl ⟨⟨rfl, rfl⟩, trivial⟩ rfl (r_call rfl rfl Try.ent35 rfl (newS_den a)) ?_
   refine d_rstep [(29, _), (31, _)] rfl rfl ⟨⟨rfl, rfl⟩, ⟨rfl, rfl⟩, trivial⟩ rfl (r_call rfl rfl Try.ent40 rfl (addS_den _ _ (by omega))) ?_
   refine d_rstep [(25, _), (32, _)] rfl rfl ⟨⟨rfl, rfl⟩, ⟨rfl, rfl⟩, trivial⟩ rfl (r_call rfl rfl Try.ent48 rfl (same8T_den _ _ (add_comm (by assumption)) (by omega))) ?_
   refine d_pure [(33, _)] rfl rfl ⟨⟨rfl, rfl⟩, trivial⟩ rfl (p_move rfl) ?_
   refine d_rstep [] rfl rfl trivial rfl (r_call rfl rfl Try.ent33 rfl (alive8_den)) ?_
   refine d_pure [(34, _), (35, _)] rfl rfl ⟨⟨rfl, rfl⟩, ⟨rfl, rfl⟩, trivial⟩ rfl (p_pick_t rfl rfl) ?_
   refine d_pure [(36, _)] rfl rfl ⟨⟨rfl, rfl⟩, trivial⟩ rfl (p_assign rfl) ?_
   refine lex_end (sl' := [(6, _)]) rfl ⟨rfl, trivial⟩ rfl ?_
   refine hK6 _ ?_
   refine aw_ret ?_
   refine ⟨_, rfl, ?_⟩
   rfl
 ·
  try simp only [Bool.not_eq_true', Bool.not_eq_false', Bool.not_true, Bool.not_false, Bool.not_not, decide_eq_true_eq, decide_eq_false_iff_not, beq_iff_eq, beq_eq_false_iff_ne, bne_iff_ne, bne_eq_false_iff_eq, ne_eq, Int.not_lt, Int.not_le, Nat.not_lt, Nat.not_le, gt_iff_lt, ge_iff_le, Bool.and_eq_true, Bool.or_eq_true, Int.ofNat_lt, Int.ofNat_le, Int.natCast_inj, List.length_map, List.length_cons, List.length_nil, List.length_append] at hg1
  refine x_guard_f rfl rfl rfl ?_
  refine x_guard_f rfl rfl rfl ?_
  refine x_pure rfl (p_pick_t rfl rfl) ?_
  first | refine aops_end ?_ | refine aops_nil ?_
  refine hK3 _ ?_
  refine aw_cond_t rfl ?_
  refine aw_seq_k (fun K7 hK7 => ?_)
  refine aw_region ?_
  refine x_step hf rfl (r_call rfl rfl Try.ent33 rfl (alive8_den)) ?_
  refine x_pure rfl (p_assign rfl) ?_
  first | refine aops_end ?_ | refine aops_nil ?_
  refine hK7 _ ?_
  refine aw_ret ?_
  refine ⟨_, rfl, ?_⟩
  rfl
end Go.Proofs.Ytkjniggdldpnoaa
