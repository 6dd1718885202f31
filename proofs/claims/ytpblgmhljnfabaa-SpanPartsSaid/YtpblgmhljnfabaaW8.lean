import Derived.Test.YtpblgmhljnfabaaW7
set_option linter.unusedVariables false
set_option linter.unusedSimpArgs false
namespace Go.Proofs.Ytpblgmhljnfabaa
open Go Go.Abs

set_option maxHeartbeats 2000000 in
theorem spanOnes_den (a b : Sp) (t : Int)  : Den Try.prog 3 [.agg (spC a), .agg (spC b), .s (.int .i64 t)]  (· = .s (.bool true)) := by
  refine den_of_aw Try.func3 rfl (Nat.le_of_ble_eq_true rfl) (fun w0 A hf => ?_)
  refine aw_seq_k (fun K1 hK1 => ?_)
  refine aw_region ?_
  refine x_step hf rfl (r_box rfl rfl (by simp [spC, AV.cells, AV.leaf, Value.oneCell', splice, AV.kill, AV.clean, cleanL, AV.only])) ?_
  refine x_step hf rfl (r_box rfl rfl (by simp [spC, AV.cells, AV.leaf, Value.oneCell', splice, AV.kill, AV.clean, cleanL, AV.only])) ?_
  refine x_pure rfl (p_assign_bad) ?_
  first | refine aops_end ?_ | refine aops_nil ?_
  refine hK1 _ ?_
  refine aw_seq_k (fun K2 hK2 => ?_)
  refine aw_region_any Try.mixed ?_
  suffices hj : AAny _ _ _ _ _ 1 #[true, true, true, true, true, false] ⟨71, [(2, .s (.int .i64 t)), (3, .adr (spC a)), (4, .adr (spC b)), (11, .agg (spC b)), (7, .ref 7 0 0 0), (8, .ref 8 0 0 0)], [(7, .box (spC a)), (8, .box [.s (.int .i64 0), .s (.int .i64 0)])]⟩ by
    refine aany_step 0 [1, 2, 3] (by kernel_rfl) ⟨?_, ?_, ?_, ?_, trivial⟩
    ·
      refine ⟨_, rfl, rfl, ?_⟩
      refine aop_of_aops (ops := #[]) rfl ?_
      first | refine x_pure rfl (p_loads rfl Try.g23 Try.c23 rfl rfl) ?_ | refine x_pure rfl (p_loadsr rfl Try.g23 Try.c23 rfl rfl rfl) ?_
      refine aops_any ?_
      refine aany_step 1 [2, 3] (by kernel_rfl) ⟨?_, ?_, ?_, trivial⟩
      ·
        refine ⟨_, rfl, rfl, ?_⟩
        refine aop_of_aops (ops := #[]) rfl ?_
        first | refine x_pure rfl (p_loads rfl Try.g23 Try.c23 rfl rfl) ?_ | refine x_pure rfl (p_loadsr rfl Try.g23 Try.c23 rfl rfl rfl) ?_
        refine aops_any ?_
        refine aany_step 2 [3] (by kernel_rfl) ⟨?_, ?_, trivial⟩
        ·
          refine ⟨_, rfl, rfl, ?_⟩
          refine aop_of_aops (ops := #[]) rfl ?_
          refine x_alloc hf rfl rfl rfl Try.z24 ?_
          refine aops_any ?_
          refine aany_step 3 [] (by kernel_rfl) ⟨?_, trivial⟩
          ·
            refine ⟨_, rfl, rfl, ?_⟩
            refine aop_of_aops (ops := #[]) rfl ?_
            refine x_alloc hf rfl rfl rfl Try.z24 ?_
            refine aops_any ?_
            refine aany_step 4 [] (by kernel_rfl) ⟨?_, trivial⟩
            ·
              refine ⟨_, rfl, rfl, ?_⟩
              refine aop_of_aops (ops := #[]) rfl ?_
              refine x_store hf rfl rfl Try.c24 rfl rfl (by simp [spC, AV.cells, AV.one, Value.oneCell', splice, AV.kill, AV.clean, cleanL, AV.only]) (by simp [spC, AV.cells, AV.leaf, Value.oneCell', splice, AV.kill, AV.clean, cleanL, AV.only]) rfl ?_
              refine aops_any ?_
              refine aany_le ?_ hj
              exact le_mem ⟨rfl, rfl, rfl, rfl, rfl, rfl, trivial⟩ (by intro g; first | rfl | exact look_swap (by decide))
        ·
          refine ⟨_, rfl, rfl, ?_⟩
          refine aop_of_aops (ops := #[]) rfl ?_
          refine x_alloc hf rfl rfl rfl Try.z24 ?_
          refine aops_any ?_
          refine aany_step 2 [] (by kernel_rfl) ⟨?_, trivial⟩
          ·
            refine ⟨_, rfl, rfl, ?_⟩
            refine aop_of_aops (ops := #[]) rfl ?_
            refine x_alloc hf rfl rfl rfl Try.z24 ?_
            refine aops_any ?_
            refine aany_step 4 [] (by kernel_rfl) ⟨?_, trivial⟩
            ·
              refine ⟨_, rfl, rfl, ?_⟩
              refine aop_of_aops (ops := #[]) rfl ?_
              refine x_store hf rfl rfl Try.c24 rfl rfl (by simp [spC, AV.cells, AV.one, Value.oneCell', splice, AV.kill, AV.clean, cleanL, AV.only]) (by simp [spC, AV.cells, AV.leaf, Value.oneCell', splice, AV.kill, AV.clean, cleanL, AV.only]) rfl ?_
              refine aops_any ?_
              refine aany_le ?_ hj
              exact le_mem ⟨rfl, rfl, rfl, rfl, rfl, rfl, trivial⟩ (by intro g; first | rfl | exact look_swap (by decide))
      ·
        refine ⟨_, rfl, rfl, ?_⟩
        refine aop_of_aops (ops := #[]) rfl ?_
        refine x_alloc hf rfl rfl rfl Try.z24 ?_
        refine aops_any ?_
        refine aany_step 1 [3] (by kernel_rfl) ⟨?_, ?_, trivial⟩
        ·
          refine ⟨_, rfl, rfl, ?_⟩
          refine aop_of_aops (ops := #[]) rfl ?_
          first | refine x_pure rfl (p_loads rfl Try.g23 Try.c23 rfl rfl) ?_ | refine x_pure rfl (p_loadsr rfl Try.g23 Try.c23 rfl rfl rfl) ?_
          refine aops_any ?_
          refine aany_step 3 [] (by kernel_rfl) ⟨?_, trivial⟩
          ·
            refine ⟨_, rfl, rfl, ?_⟩
            refine aop_of_aops (ops := #[]) rfl ?_
            refine x_alloc hf rfl rfl rfl Try.z24 ?_
            refine aops_any ?_
            refine aany_step 4 [] (by kernel_rfl) ⟨?_, trivial⟩
            ·
              refine ⟨_, rfl, rfl, ?_⟩
              refine aop_of_aops (ops := #[]) rfl ?_
              refine x_store hf rfl rfl Try.c24 rfl rfl (by simp [spC, AV.cells, AV.one, Value.oneCell', splice, AV.kill, AV.clean, cleanL, AV.only]) (by simp [spC, AV.cells, AV.leaf, Value.oneCell', splice, AV.kill, AV.clean, cleanL, AV.only]) rfl ?_
              refine aops_any ?_
              refine aany_le ?_ hj
              exact le_mem ⟨rfl, rfl, rfl, rfl, rfl, rfl, trivial⟩ (by intro g; first | rfl | exact look_swap (by decide))
        ·
          refine ⟨_, rfl, rfl, ?_⟩
          refine aop_of_aops (ops := #[]) rfl ?_
          refine x_alloc hf rfl rfl rfl Try.z24 ?_
          refine aops_any ?_
          refine aany_step 1 [4] (by kernel_rfl) ⟨?_, ?_, trivial⟩
          ·
            refine ⟨_, rfl, rfl, ?_⟩
            refine aop_of_aops (ops := #[]) rfl ?_
            first | refine x_pure rfl (p_loads rfl Try.g23 Try.c23 rfl rfl) ?_ | refine x_pure rfl (p_loadsr rfl Try.g23 Try.c23 rfl rfl rfl) ?_
            refine aops_any ?_
            refine aany_step 4 [] (by kernel_rfl) ⟨?_, trivial⟩
            ·
              refine ⟨_, rfl, rfl, ?_⟩
              refine aop_of_aops (ops := #[]) rfl ?_
              refine x_store hf rfl rfl Try.c24 rfl rfl (by simp [spC, AV.cells, AV.one, Value.oneCell', splice, AV.kill, AV.clean, cleanL, AV.only]) (by simp [spC, AV.cells, AV.leaf, Value.oneCell', splice, AV.kill, AV.clean, cleanL, AV.only]) rfl ?_
              refine aops_any ?_
              refine aany_le ?_ hj
              exact le_mem ⟨rfl, rfl, rfl, rfl, rfl, rfl, trivial⟩ (by intro g; first | rfl | exact look_swap (by decide))
          ·
            refine ⟨_, rfl, rfl, ?_⟩
            refine aop_of_aops (ops := #[]) rfl ?_
            refine x_store hf rfl rfl Try.c24 rfl rfl (by simp [spC, AV.cells, AV.one, Value.oneCell', splice, AV.kill, AV.clean, cleanL, AV.only]) (by simp [spC, AV.cells, AV.leaf, Value.oneCell', splice, AV.kill, AV.clean, cleanL, AV.only]) rfl ?_
            refine aops_any ?_
            refine aany_step 1 [] (by kernel_rfl) ⟨?_, trivial⟩
            ·
              refine ⟨_, rfl, rfl, ?_⟩
              refine aop_of_aops (ops := #[]) rfl ?_
              first | refine x_pure rfl (p_loads rfl Try.g23 Try.c23 rfl rfl) ?_ | refine x_pure rfl (p_loadsr rfl Try.g23 Try.c23 rfl rfl rfl) ?_
              refine aops_any ?_
              refine aany_le ?_ hj
              exact le_mem ⟨rfl, rfl, rfl, rfl, rfl, rfl, trivial⟩ (by intro g; first | rfl | exact look_swap (by decide))
      ·
        refine ⟨_, rfl, rfl, ?_⟩
        refine aop_of_aops (ops := #[]) rfl ?_
        refine x_alloc hf rfl rfl rfl Try.z24 ?_
        refine aops_any ?_
        refine aany_step 1 [2] (by kernel_rfl) ⟨?_, ?_, trivial⟩
        ·
          refine ⟨_, rfl, rfl, ?_⟩
          refine aop_of_aops (ops := #[]) rfl ?_
          first | refine x_pure rfl (p_loads rfl Try.g23 Try.c23 rfl rfl) ?_ | refine x_pure rfl (p_loadsr rfl Try.g23 Try.c23 rfl rfl rfl) ?_
          refine aops_any ?_
          refine aany_step 2 [] (by kernel_rfl) ⟨?_, trivial⟩
          ·
            refine ⟨_, rfl, rfl, ?_⟩
            refine aop_of_aops (ops := #[]) rfl ?_
            refine x_alloc hf rfl rfl rfl Try.z24 ?_
            refine aops_any ?_
            refine aany_step 4 [] (by kernel_rfl) ⟨?_, trivial⟩
            ·
              refine ⟨_, rfl, rfl, ?_⟩
              refine aop_of_aops (ops := #[]) rfl ?_
              refine x_store hf rfl rfl Try.c24 rfl rfl (by simp [spC, AV.cells, AV.one, Value.oneCell', splice, AV.kill, AV.clean, cleanL, AV.only]) (by simp [spC, AV.cells, AV.leaf, Value.oneCell', splice, AV.kill, AV.clean, cleanL, AV.only]) rfl ?_
              refine aops_any ?_
              refine aany_le ?_ hj
              exact le_mem ⟨rfl, rfl, rfl, rfl, rfl, rfl, trivial⟩ (by intro g; first | rfl | exact look_swap (by decide))
        ·
          refine ⟨_, rfl, rfl, ?_⟩
          refine aop_of_aops (ops := #[]) rfl ?_
          refine x_alloc hf rfl rfl rfl Try.z24 ?_
          refine aops_any ?_
          refine aany_step 1 [4] (by kernel_rfl) ⟨?_, ?_, trivial⟩
          ·
            refine ⟨_, rfl, rfl, ?_⟩
            refine aop_of_aops (ops := #[]) rfl ?_
            first | refine x_pure rfl (p_loads rfl Try.g23 Try.c23 rfl rfl) ?_ | refine x_pure rfl (p_loadsr rfl Try.g23 Try.c23 rfl rfl rfl) ?_
            refine aops_any ?_
            refine aany_step 4 [] (by kernel_rfl) ⟨?_, trivial⟩
            ·
              refine ⟨_, rfl, rfl, ?_⟩
              refine aop_of_aops (ops := #[]) rfl ?_
              refine x_store hf rfl rfl Try.c24 rfl rfl (by simp [spC, AV.cells, AV.one, Value.oneCell', splice, AV.kill, AV.clean, cleanL, AV.only]) (by simp [spC, AV.cells, AV.leaf, Value.oneCell', splice, AV.kill, AV.clean, cleanL, AV.only]) rfl ?_
              refine aops_any ?_
              refine aany_le ?_ hj
              exact le_mem ⟨rfl, rfl, rfl, rfl, rfl, rfl, trivial⟩ (by intro g; first | rfl | exact look_swap (by decide))
          ·
            refine ⟨_, rfl, rfl, ?_⟩
            refine aop_of_aops (ops := #[]) rfl ?_
            refine x_store hf rfl rfl Try.c24 rfl rfl (by simp [spC, AV.cells, AV.one, Value.oneCell', splice, AV.kill, AV.clean, cleanL, AV.only]) (by simp [spC, AV.cells, AV.leaf, Value.oneCell', splice, AV.kill, AV.clean, cleanL, AV.only]) rfl ?_
            refine aops_any ?_
            refine aany_step 1 [] (by kernel_rfl) ⟨?_, trivial⟩
            ·
              refine ⟨_, rfl, rfl, ?_⟩
              refine aop_of_aops (ops := #[]) rfl ?_
              first | refine x_pure rfl (p_loads rfl Try.g23 Try.c23 rfl rfl) ?_ | refine x_pure rfl (p_loadsr rfl Try.g23 Try.c23 rfl rfl rfl) ?_
              refine aops_any ?_
              refine aany_le ?_ hj
              exact le_mem ⟨rfl, rfl, rfl, rfl, rfl, rfl, trivial⟩ (by intro g; first | rfl | exact look_swap (by decide))
    ·
      refine ⟨_, rfl, rfl, ?_⟩
      refine aop_of_aops (ops := #[]) rfl ?_
      first | refine x_pure rfl (p_loads rfl Try.g23 Try.c23 rfl rfl) ?_ | refine x_pure rfl (p_loadsr rfl Try.g23 Try.c23 rfl rfl rfl) ?_
      refine aops_any ?_
      refine aany_step 0 [2, 3] (by kernel_rfl) ⟨?_, ?_, ?_, trivial⟩
      ·
        refine ⟨_, rfl, rfl, ?_⟩
        refine aop_of_aops (ops := #[]) rfl ?_
        first | refine x_pure rfl (p_loads rfl Try.g23 Try.c23 rfl rfl) ?_ | refine x_pure rfl (p_loadsr rfl Try.g23 Try.c23 rfl rfl rfl) ?_
        refine aops_any ?_
        refine aany_step 2 [3] (by kernel_rfl) ⟨?_, ?_, trivial⟩
        ·
          refine ⟨_, rfl, rfl, ?_⟩
          refine aop_of_aops (ops := #[]) rfl ?_
          refine x_alloc hf rfl rfl rfl Try.z24 ?_
          refine aops_any ?_
          refine aany_step 3 [] (by kernel_rfl) ⟨?_, trivial⟩
          ·
            refine ⟨_, rfl, rfl, ?_⟩
            refine aop_of_aops (ops := #[]) rfl ?_
            refine x_alloc hf rfl rfl rfl Try.z24 ?_
            refine aops_any ?_
            refine aany_step 4 [] (by kernel_rfl) ⟨?_, trivial⟩
            ·
              refine ⟨_, rfl, rfl, ?_⟩
              refine aop_of_aops (ops := #[]) rfl ?_
              refine x_store hf rfl rfl Try.c24 rfl rfl (by simp [spC, AV.cells, AV.one, Value.oneCell', splice, AV.kill, AV.clean, cleanL, AV.only]) (by simp [spC, AV.cells, AV.leaf, Value.oneCell', splice, AV.kill, AV.clean, cleanL, AV.only]) rfl ?_
              refine aops_any ?_
              refine aany_le ?_ hj
              exact le_mem ⟨rfl, rfl, rfl, rfl, rfl, rfl, trivial⟩ (by intro g; first | rfl | exact look_swap (by decide))
        ·
          refine ⟨_, rfl, rfl, ?_⟩
          refine aop_of_aops (ops := #[]) rfl ?_
          refine x_alloc hf rfl rfl rfl Try.z24 ?_
          refine aops_any ?_
          refine aany_step 2 [] (by kernel_rfl) ⟨?_, trivial⟩
          ·
            refine ⟨_, rfl, rfl, ?_⟩
            refine aop_of_aops (ops := #[]) rfl ?_
            refine x_alloc hf rfl rfl rfl Try.z24 ?_
            refine aops_any ?_
            refine aany_step 4 [] (by kernel_rfl) ⟨?_, trivial⟩
            ·
              refine ⟨_, rfl, rfl, ?_⟩
              refine aop_of_aops (ops := #[]) rfl ?_
              refine x_store hf rfl rfl Try.c24 rfl rfl (by simp [spC, AV.cells, AV.one, Value.oneCell', splice, AV.kill, AV.clean, cleanL, AV.only]) (by simp [spC, AV.cells, AV.leaf, Value.oneCell', splice, AV.kill, AV.clean, cleanL, AV.only]) rfl ?_
              refine aops_any ?_
              refine aany_le ?_ hj
              exact le_mem ⟨rfl, rfl, rfl, rfl, rfl, rfl, trivial⟩ (by intro g; first | rfl | exact look_swap (by decide))
      ·
        refine ⟨_, rfl, rfl, ?_⟩
        refine aop_of_aops (ops := #[]) rfl ?_
        refine x_alloc hf rfl rfl rfl Try.z24 ?_
        refine aops_any ?_
        refine aany_step 0 [3] (by kernel_rfl) ⟨?_, ?_, trivial⟩
        ·
          refine ⟨_, rfl, rfl, ?_⟩
          refine aop_of_aops (ops := #[]) rfl ?_
          first | refine x_pure rfl (p_loads rfl Try.g23 Try.c23 rfl rfl) ?_ | refine x_pure rfl (p_loadsr rfl Try.g23 Try.c23 rfl rfl rfl) ?_
          refine aops_any ?_
          refine aany_step 3 [] (by kernel_rfl) ⟨?_, trivial⟩
          ·
            refine ⟨_, rfl, rfl, ?_⟩
            refine aop_of_aops (ops := #[]) rfl ?_
            refine x_alloc hf rfl rfl rfl Try.z24 ?_
            refine aops_any ?_
            refine aany_step 4 [] (by kernel_rfl) ⟨?_, trivial⟩
            ·
              refine ⟨_, rfl, rfl, ?_⟩
              refine aop_of_aops (ops := #[]) rfl ?_
              refine x_store hf rfl rfl Try.c24 rfl rfl (by simp [spC, AV.cells, AV.one, Value.oneCell', splice, AV.kill, AV.clean, cleanL, AV.only]) (by simp [spC, AV.cells, AV.leaf, Value.oneCell', splice, AV.kill, AV.clean, cleanL, AV.only]) rfl ?_
              refine aops_any ?_
              refine aany_le ?_ hj
              exact le_mem ⟨rfl, rfl, rfl, rfl, rfl, rfl, trivial⟩ (by intro g; first | rfl | exact look_swap (by decide))
        ·
          refine ⟨_, rfl, rfl, ?_⟩
          refine aop_of_aops (ops := #[]) rfl ?_
          refine x_alloc hf rfl rfl rfl Try.z24 ?_
          refine aops_any ?_
          refine aany_step 0 [] (by kernel_rfl) ⟨?_, trivial⟩
          ·
            refine ⟨_, rfl, rfl, ?_⟩
            refine aop_of_aops (ops := #[]) rfl ?_
            first | refine x_pure rfl (p_loads rfl Try.g23 Try.c23 rfl rfl) ?_ | refine x_pure rfl (p_loadsr rfl Try.g23 Try.c23 rfl rfl rfl) ?_
            refine aops_any ?_
            refine aany_step 4 [] (by kernel_rfl) ⟨?_, trivial⟩
            ·
              refine ⟨_, rfl, rfl, ?_⟩
              refine aop_of_aops (ops := #[]) rfl ?_
              refine x_store hf rfl rfl Try.c24 rfl rfl (by simp [spC, AV.cells, AV.one, Value.oneCell', splice, AV.kill, AV.clean, cleanL, AV.only]) (by simp [spC, AV.cells, AV.leaf, Value.oneCell', splice, AV.kill, AV.clean, cleanL, AV.only]) rfl ?_
              refine aops_any ?_
              refine aany_le ?_ hj
              exact le_mem ⟨rfl, rfl, rfl, rfl, rfl, rfl, trivial⟩ (by intro g; first | rfl | exact look_swap (by decide))
      ·
        refine ⟨_, rfl, rfl, ?_⟩
        refine aop_of_aops (ops := #[]) rfl ?_
        refine x_alloc hf rfl rfl rfl Try.z24 ?_
        refine aops_any ?_
        refine aany_step 0 [2] (by kernel_rfl) ⟨?_, ?_, trivial⟩
        ·
          refine ⟨_, rfl, rfl, ?_⟩
          refine aop_of_aops (ops := #[]) rfl ?_
          first | refine x_pure rfl (p_loads rfl Try.g23 Try.c23 rfl rfl) ?_ | refine x_pure rfl (p_loadsr rfl Try.g23 Try.c23 rfl rfl rfl) ?_
          refine aops_any ?_
          refine aany_step 2 [] (by kernel_rfl) ⟨?_, trivial⟩
          ·
            refine ⟨_, rfl, rfl, ?_⟩
            refine aop_of_aops (ops := #[]) rfl ?_
            refine x_alloc hf rfl rfl rfl Try.z24 ?_
            refine aops_any ?_
            refine aany_step 4 [] (by kernel_rfl) ⟨?_, trivial⟩
            ·
              refine ⟨_, rfl, rfl, ?_⟩
              refine aop_of_aops (ops := #[]) rfl ?_
              refine x_store hf rfl rfl Try.c24 rfl rfl (by simp [spC, AV.cells, AV.one, Value.oneCell', splice, AV.kill, AV.clean, cleanL, AV.only]) (by simp [spC, AV.cells, AV.leaf, Value.oneCell', splice, AV.kill, AV.clean, cleanL, AV.only]) rfl ?_
              refine aops_any ?_
              refine aany_le ?_ hj
              exact le_mem ⟨rfl, rfl, rfl, rfl, rfl, rfl, trivial⟩ (by intro g; first | rfl | exact look_swap (by decide))
        ·
          refine ⟨_, rfl, rfl, ?_⟩
          refine aop_of_aops (ops := #[]) rfl ?_
          refine x_alloc hf rfl rfl rfl Try.z24 ?_
          refine aops_any ?_
          refine aany_step 0 [] (by kernel_rfl) ⟨?_, trivial⟩
          ·
            refine ⟨_, rfl, rfl, ?_⟩
            refine aop_of_aops (ops := #[]) rfl ?_
            first | refine x_pure rfl (p_loads rfl Try.g23 Try.c23 rfl rfl) ?_ | refine x_pure rfl (p_loadsr rfl Try.g23 Try.c23 rfl rfl rfl) ?_
            refine aops_any ?_
            refine aany_step 4 [] (by kernel_rfl) ⟨?_, trivial⟩
            ·
              refine ⟨_, rfl, rfl, ?_⟩
              refine aop_of_aops (ops := #[]) rfl ?_
              refine x_store hf rfl rfl Try.c24 rfl rfl (by simp [spC, AV.cells, AV.one, Value.oneCell', splice, AV.kill, AV.clean, cleanL, AV.only]) (by simp [spC, AV.cells, AV.leaf, Value.oneCell', splice, AV.kill, AV.clean, cleanL, AV.only]) rfl ?_
              refine aops_any ?_
              refine aany_le ?_ hj
              exact le_mem ⟨rfl, rfl, rfl, rfl, rfl, rfl, trivial⟩ (by intro g; first | rfl | exact look_swap (by decide))
    ·
      refine ⟨_, rfl, rfl, ?_⟩
      refine aop_of_aops (ops := #[]) rfl ?_
      refine x_alloc hf rfl rfl rfl Try.z24 ?_
      refine aops_any ?_
      refine aany_step 0 [1, 3] (by kernel_rfl) ⟨?_, ?_, ?_, trivial⟩
      ·
        refine ⟨_, rfl, rfl, ?_⟩
        refine aop_of_aops (ops := #[]) rfl ?_
        first | refine x_pure rfl (p_loads rfl Try.g23 Try.c23 rfl rfl) ?_ | refine x_pure rfl (p_loadsr rfl Try.g23 Try.c23 rfl rfl rfl) ?_
        refine aops_any ?_
        refine aany_step 1 [3] (by kernel_rfl) ⟨?_, ?_, trivial⟩
        ·
          refine ⟨_, rfl, rfl, ?_⟩
          refine aop_of_aops (ops := #[]) rfl ?_
          first | refine x_pure rfl (p_loads rfl Try.g23 Try.c23 rfl rfl) ?_ | refine x_pure rfl (p_loadsr rfl Try.g23 Try.c23 rfl rfl rfl) ?_
          refine aops_any ?_
          refine aany_step 3 [] (by kernel_rfl) ⟨?_, trivial⟩
          ·
            refine ⟨_, rfl, rfl, ?_⟩
            refine aop_of_aops (ops := #[]) rfl ?_
            refine x_alloc hf rfl rfl rfl Try.z24 ?_
            refine aops_any ?_
            refine aany_step 4 [] (by kernel_rfl) ⟨?_, trivial⟩
            ·
              refine ⟨_, rfl, rfl, ?_⟩
              refine aop_of_aops (ops := #[]) rfl ?_
              refine x_store hf rfl rfl Try.c24 rfl rfl (by simp [spC, AV.cells, AV.one, Value.oneCell', splice, AV.kill, AV.clean, cleanL, AV.only]) (by simp [spC, AV.cells, AV.leaf, Value.oneCell', splice, AV.kill, AV.clean, cleanL, AV.only]) rfl ?_
              refine aops_any ?_
              refine aany_le ?_ hj
              exact le_mem ⟨rfl, rfl, rfl, rfl, rfl, rfl, trivial⟩ (by intro g; first | rfl | exact look_swap (by decide))
        ·
          refine ⟨_, rfl, rfl, ?_⟩
          refine aop_of_aops (ops := #[]) rfl ?_
          refine x_alloc hf rfl rfl rfl Try.z24 ?_
          refine aops_any ?_
          refine aany_step 1 [4] (by kernel_rfl) ⟨?_, ?_, trivial⟩
          ·
            refine ⟨_, rfl, rfl, ?_⟩
            refine aop_of_aops (ops := #[]) rfl ?_
            first | refine x_pure rfl (p_loads rfl Try.g23 Try.c23 rfl rfl) ?_ | refine x_pure rfl (p_loadsr rfl Try.g23 Try.c23 rfl rfl rfl) ?_
            refine aops_any ?_
            refine aany_step 4 [] (by kernel_rfl) ⟨?_, trivial⟩
            ·
              refine ⟨_, rfl, rfl, ?_⟩
              refine aop_of_aops (ops := #[]) rfl ?_
              refine x_store hf rfl rfl Try.c24 rfl rfl (by simp [spC, AV.cells, AV.one, Value.oneCell', splice, AV.kill, AV.clean, cleanL, AV.only]) (by simp [spC, AV.cells, AV.leaf, Value.oneCell', splice, AV.kill, AV.clean, cleanL, AV.only]) rfl ?_
              refine aops_any ?_
              refine aany_le ?_ hj
              exact le_mem ⟨rfl, rfl, rfl, rfl, rfl, rfl, trivial⟩ (by intro g; first | rfl | exact look_swap (by decide))
          ·
            refine ⟨_, rfl, rfl, ?_⟩
            refine aop_of_aops (ops := #[]) rfl ?_
            refine x_store hf rfl rfl Try.c24 rfl rfl (by simp [spC, AV.cells, AV.one, Value.oneCell', splice, AV.kill, AV.clean, cleanL, AV.only]) (by simp [spC, AV.cells, AV.leaf, Value.oneCell', splice, AV.kill, AV.clean, cleanL, AV.only]) rfl ?_
            refine aops_any ?_
            refine aany_step 1 [] (by kernel_rfl) ⟨?_, trivial⟩
            ·
              refine ⟨_, rfl, rfl, ?_⟩
              refine aop_of_aops (ops := #[]) rfl ?_
              first | refine x_pure rfl (p_loads rfl Try.g23 Try.c23 rfl rfl) ?_ | refine x_pure rfl (p_loadsr rfl Try.g23 Try.c23 rfl rfl rfl) ?_
              refine aops_any ?_
              refine aany_le ?_ hj
              exact le_mem ⟨rfl, rfl, rfl, rfl, rfl, rfl, trivial⟩ (by intro g; first | rfl | exact look_swap (by decide))
      ·
        refine ⟨_, rfl, rfl, ?_⟩
        refine aop_of_aops (ops := #[]) rfl ?_
        first | refine x_pure rfl (p_loads rfl Try.g23 Try.c23 rfl rfl) ?_ | refine x_pure rfl (p_loadsr rfl Try.g23 Try.c23 rfl rfl rfl) ?_
        refine aops_any ?_
        refine aany_step 0 [3] (by kernel_rfl) ⟨?_, ?_, trivial⟩
        ·
          refine ⟨_, rfl, rfl, ?_⟩
          refine aop_of_aops (ops := #[]) rfl ?_
          first | refine x_pure rfl (p_loads rfl Try.g23 Try.c23 rfl rfl) ?_ | refine x_pure rfl (p_loadsr rfl Try.g23 Try.c23 rfl rfl rfl) ?_
          refine aops_any ?_
          refine aany_step 3 [] (by kernel_rfl) ⟨?_, trivial⟩
          ·
            refine ⟨_, rfl, rfl, ?_⟩
            refine aop_of_aops (ops := #[]) rfl ?_
            refine x_alloc hf rfl rfl rfl Try.z24 ?_
            refine aops_any ?_
            refine aany_step 4 [] (by kernel_rfl) ⟨?_, trivial⟩
            ·
              refine ⟨_, rfl, rfl, ?_⟩
              refine aop_of_aops (ops := #[]) rfl ?_
              refine x_store hf rfl rfl Try.c24 rfl rfl (by simp [spC, AV.cells, AV.one, Value.oneCell', splice, AV.kill, AV.clean, cleanL, AV.only]) (by simp [spC, AV.cells, AV.leaf, Value.oneCell', splice, AV.kill, AV.clean, cleanL, AV.only]) rfl ?_
              refine aops_any ?_
              refine aany_le ?_ hj
              exact le_mem ⟨rfl, rfl, rfl, rfl, rfl, rfl, trivial⟩ (by intro g; first | rfl | exact look_swap (by decide))
        ·
          refine ⟨_, rfl, rfl, ?_⟩
          refine aop_of_aops (ops := #[]) rfl ?_
          refine x_alloc hf rfl rfl rfl Try.z24 ?_
          refine aops_any ?_
          refine aany_step 0 [] (by kernel_rfl) ⟨?_, trivial⟩
          ·
            refine ⟨_, rfl, rfl, ?_⟩
            refine aop_of_aops (ops := #[]) rfl ?_
            first | refine x_pure rfl (p_loads rfl Try.g23 Try.c23 rfl rfl) ?_ | refine x_pure rfl (p_loadsr rfl Try.g23 Try.c23 rfl rfl rfl) ?_
            refine aops_any ?_
            refine aany_step 4 [] (by kernel_rfl) ⟨?_, trivial⟩
            ·
              refine ⟨_, rfl, rfl, ?_⟩
              refine aop_of_aops (ops := #[]) rfl ?_
              refine x_store hf rfl rfl Try.c24 rfl rfl (by simp [spC, AV.cells, AV.one, Value.oneCell', splice, AV.kill, AV.clean, cleanL, AV.only]) (by simp [spC, AV.cells, AV.leaf, Value.oneCell', splice, AV.kill, AV.clean, cleanL, AV.only]) rfl ?_
              refine aops_any ?_
              refine aany_le ?_ hj
              exact le_mem ⟨rfl, rfl, rfl, rfl, rfl, rfl, trivial⟩ (by intro g; first | rfl | exact look_swap (by decide))
      ·
        refine ⟨_, rfl, rfl, ?_⟩
        refine aop_of_aops (ops := #[]) rfl ?_
        refine x_alloc hf rfl rfl rfl Try.z24 ?_
        refine aops_any ?_
        refine aany_step 0 [1] (by kernel_rfl) ⟨?_, ?_, trivial⟩
        ·
          refine ⟨_, rfl, rfl, ?_⟩
          refine aop_of_aops (ops := #[]) rfl ?_
          first | refine x_pure rfl (p_loads rfl Try.g23 Try.c23 rfl rfl) ?_ | refine x_pure rfl (p_loadsr rfl Try.g23 Try.c23 rfl rfl rfl) ?_
          refine aops_any ?_
          refine aany_step 1 [4] (by kernel_rfl) ⟨?_, ?_, trivial⟩
          ·
            refine ⟨_, rfl, rfl, ?_⟩
            refine aop_of_aops (ops := #[]) rfl ?_
            first | refine x_pure rfl (p_loads rfl Try.g23 Try.c23 rfl rfl) ?_ | refine x_pure rfl (p_loadsr rfl Try.g23 Try.c23 rfl rfl rfl) ?_
            refine aops_any ?_
            refine aany_step 4 [] (by kernel_rfl) ⟨?_, trivial⟩
            ·
              refine ⟨_, rfl, rfl, ?_⟩
              refine aop_of_aops (ops := #[]) rfl ?_
              refine x_store hf rfl rfl Try.c24 rfl rfl (by simp [spC, AV.cells, AV.one, Value.oneCell', splice, AV.kill, AV.clean, cleanL, AV.only]) (by simp [spC, AV.cells, AV.leaf, Value.oneCell', splice, AV.kill, AV.clean, cleanL, AV.only]) rfl ?_
              refine aops_any ?_
              refine aany_le ?_ hj
              exact le_mem ⟨rfl, rfl, rfl, rfl, rfl, rfl, trivial⟩ (by intro g; first | rfl | exact look_swap (by decide))
          ·
            refine ⟨_, rfl, rfl, ?_⟩
            refine aop_of_aops (ops := #[]) rfl ?_
            refine x_store hf rfl rfl Try.c24 rfl rfl (by simp [spC, AV.cells, AV.one, Value.oneCell', splice, AV.kill, AV.clean, cleanL, AV.only]) (by simp [spC, AV.cells, AV.leaf, Value.oneCell', splice, AV.kill, AV.clean, cleanL, AV.only]) rfl ?_
            refine aops_any ?_
            refine aany_step 1 [] (by kernel_rfl) ⟨?_, trivial⟩
            ·
              refine ⟨_, rfl, rfl, ?_⟩
              refine aop_of_aops (ops := #[]) rfl ?_
              first | refine x_pure rfl (p_loads rfl Try.g23 Try.c23 rfl rfl) ?_ | refine x_pure rfl (p_loadsr rfl Try.g23 Try.c23 rfl rfl rfl) ?_
              refine aops_any ?_
              refine aany_le ?_ hj
              exact le_mem ⟨rfl, rfl, rfl, rfl, rfl, rfl, trivial⟩ (by intro g; first | rfl | exact look_swap (by decide))
        ·
          refine ⟨_, rfl, rfl, ?_⟩
          refine aop_of_aops (ops := #[]) rfl ?_
          first | refine x_pure rfl (p_loads rfl Try.g23 Try.c23 rfl rfl) ?_ | refine x_pure rfl (p_loadsr rfl Try.g23 Try.c23 rfl rfl rfl) ?_
          refine aops_any ?_
          refine aany_step 0 [] (by kernel_rfl) ⟨?_, trivial⟩
          ·
            refine ⟨_, rfl, rfl, ?_⟩
            refine aop_of_aops (ops := #[]) rfl ?_
            first | refine x_pure rfl (p_loads rfl Try.g23 Try.c23 rfl rfl) ?_ | refine x_pure rfl (p_loadsr rfl Try.g23 Try.c23 rfl rfl rfl) ?_
            refine aops_any ?_
            refine aany_step 4 [] (by kernel_rfl) ⟨?_, trivial⟩
            ·
              refine ⟨_, rfl, rfl, ?_⟩
              refine aop_of_aops (ops := #[]) rfl ?_
              refine x_store hf rfl rfl Try.c24 rfl rfl (by simp [spC, AV.cells, AV.one, Value.oneCell', splice, AV.kill, AV.clean, cleanL, AV.only]) (by simp [spC, AV.cells, AV.leaf, Value.oneCell', splice, AV.kill, AV.clean, cleanL, AV.only]) rfl ?_
              refine aops_any ?_
              refine aany_le ?_ hj
              exact le_mem ⟨rfl, rfl, rfl, rfl, rfl, rfl, trivial⟩ (by intro g; first | rfl | exact look_swap (by decide))
    ·
      refine ⟨_, rfl, rfl, ?_⟩
      refine aop_of_aops (ops := #[]) rfl ?_
      refine x_alloc hf rfl rfl rfl Try.z24 ?_
      refine aops_any ?_
      refine aany_step 0 [1, 2] (by kernel_rfl) ⟨?_, ?_, ?_, trivial⟩
      ·
        refine ⟨_, rfl, rfl, ?_⟩
        refine aop_of_aops (ops := #[]) rfl ?_
        first | refine x_pure rfl (p_loads rfl Try.g23 Try.c23 rfl rfl) ?_ | refine x_pure rfl (p_loadsr rfl Try.g23 Try.c23 rfl rfl rfl) ?_
        refine aops_any ?_
        refine aany_step 1 [2] (by kernel_rfl) ⟨?_, ?_, trivial⟩
        ·
          refine ⟨_, rfl, rfl, ?_⟩
          refine aop_of_aops (ops := #[]) rfl ?_
          first | refine x_pure rfl (p_loads rfl Try.g23 Try.c23 rfl rfl) ?_ | refine x_pure rfl (p_loadsr rfl Try.g23 Try.c23 rfl rfl rfl) ?_
          refine aops_any ?_
          refine aany_step 2 [] (by kernel_rfl) ⟨?_, trivial⟩
          ·
            refine ⟨_, rfl, rfl, ?_⟩
            refine aop_of_aops (ops := #[]) rfl ?_
            refine x_alloc hf rfl rfl rfl Try.z24 ?_
            refine aops_any ?_
            refine aany_step 4 [] (by kernel_rfl) ⟨?_, trivial⟩
            ·
              refine ⟨_, rfl, rfl, ?_⟩
              refine aop_of_aops (ops := #[]) rfl ?_
              refine x_store hf rfl rfl Try.c24 rfl rfl (by simp [spC, AV.cells, AV.one, Value.oneCell', splice, AV.kill, AV.clean, cleanL, AV.only]) (by simp [spC, AV.cells, AV.leaf, Value.oneCell', splice, AV.kill, AV.clean, cleanL, AV.only]) rfl ?_
              refine aops_any ?_
              refine aany_le ?_ hj
              exact le_mem ⟨rfl, rfl, rfl, rfl, rfl, rfl, trivial⟩ (by intro g; first | rfl | exact look_swap (by decide))
        ·
          refine ⟨_, rfl, rfl, ?_⟩
          refine aop_of_aops (ops := #[]) rfl ?_
          refine x_alloc hf rfl rfl rfl Try.z24 ?_
          refine aops_any ?_
          refine aany_step 1 [4] (by kernel_rfl) ⟨?_, ?_, trivial⟩
          ·
            refine ⟨_, rfl, rfl, ?_⟩
            refine aop_of_aops (ops := #[]) rfl ?_
            first | refine x_pure rfl (p_loads rfl Try.g23 Try.c23 rfl rfl) ?_ | refine x_pure rfl (p_loadsr rfl Try.g23 Try.c23 rfl rfl rfl) ?_
            refine aops_any ?_
            refine aany_step 4 [] (by kernel_rfl) ⟨?_, trivial⟩
            ·
              refine ⟨_, rfl, rfl, ?_⟩
              refine aop_of_aops (ops := #[]) rfl ?_
              refine x_store hf rfl rfl Try.c24 rfl rfl (by simp [spC, AV.cells, AV.one, Value.oneCell', splice, AV.kill, AV.clean, cleanL, AV.only]) (by simp [spC, AV.cells, AV.leaf, Value.oneCell', splice, AV.kill, AV.clean, cleanL, AV.only]) rfl ?_
              refine aops_any ?_
              refine aany_le ?_ hj
              exact le_mem ⟨rfl, rfl, rfl, rfl, rfl, rfl, trivial⟩ (by intro g; first | rfl | exact look_swap (by decide))
          ·
            refine ⟨_, rfl, rfl, ?_⟩
            refine aop_of_aops (ops := #[]) rfl ?_
            refine x_store hf rfl rfl Try.c24 rfl rfl (by simp [spC, AV.cells, AV.one, Value.oneCell', splice, AV.kill, AV.clean, cleanL, AV.only]) (by simp [spC, AV.cells, AV.leaf, Value.oneCell', splice, AV.kill, AV.clean, cleanL, AV.only]) rfl ?_
            refine aops_any ?_
            refine aany_step 1 [] (by kernel_rfl) ⟨?_, trivial⟩
            ·
              refine ⟨_, rfl, rfl, ?_⟩
              refine aop_of_aops (ops := #[]) rfl ?_
              first | refine x_pure rfl (p_loads rfl Try.g23 Try.c23 rfl rfl) ?_ | refine x_pure rfl (p_loadsr rfl Try.g23 Try.c23 rfl rfl rfl) ?_
              refine aops_any ?_
              refine aany_le ?_ hj
              exact le_mem ⟨rfl, rfl, rfl, rfl, rfl, rfl, trivial⟩ (by intro g; first | rfl | exact look_swap (by decide))
      ·
        refine ⟨_, rfl, rfl, ?_⟩
        refine aop_of_aops (ops := #[]) rfl ?_
        first | refine x_pure rfl (p_loads rfl Try.g23 Try.c23 rfl rfl) ?_ | refine x_pure rfl (p_loadsr rfl Try.g23 Try.c23 rfl rfl rfl) ?_
        refine aops_any ?_
        refine aany_step 0 [2] (by kernel_rfl) ⟨?_, ?_, trivial⟩
        ·
          refine ⟨_, rfl, rfl, ?_⟩
          refine aop_of_aops (ops := #[]) rfl ?_
          first | refine x_pure rfl (p_loads rfl Try.g23 Try.c23 rfl rfl) ?_ | refine x_pure rfl (p_loadsr rfl Try.g23 Try.c23 rfl rfl rfl) ?_
          refine aops_any ?_
          refine aany_step 2 [] (by kernel_rfl) ⟨?_, trivial⟩
          ·
            refine ⟨_, rfl, rfl, ?_⟩
            refine aop_of_aops (ops := #[]) rfl ?_
            refine x_alloc hf rfl rfl rfl Try.z24 ?_
            refine aops_any ?_
            refine aany_step 4 [] (by kernel_rfl) ⟨?_, trivial⟩
            ·
              refine ⟨_, rfl, rfl, ?_⟩
              refine aop_of_aops (ops := #[]) rfl ?_
              refine x_store hf rfl rfl Try.c24 rfl rfl (by simp [spC, AV.cells, AV.one, Value.oneCell', splice, AV.kill, AV.clean, cleanL, AV.only]) (by simp [spC, AV.cells, AV.leaf, Value.oneCell', splice, AV.kill, AV.clean, cleanL, AV.only]) rfl ?_
              refine aops_any ?_
              refine aany_le ?_ hj
              exact le_mem ⟨rfl, rfl, rfl, rfl, rfl, rfl, trivial⟩ (by intro g; first | rfl | exact look_swap (by decide))
        ·
          refine ⟨_, rfl, rfl, ?_⟩
          refine aop_of_aops (ops := #[]) rfl ?_
          refine x_alloc hf rfl rfl rfl Try.z24 ?_
          refine aops_any ?_
          refine aany_step 0 [] (by kernel_rfl) ⟨?_, trivial⟩
          ·
            refine ⟨_, rfl, rfl, ?_⟩
            refine aop_of_aops (ops := #[]) rfl ?_
            first | refine x_pure rfl (p_loads rfl Try.g23 Try.c23 rfl rfl) ?_ | refine x_pure rfl (p_loadsr rfl Try.g23 Try.c23 rfl rfl rfl) ?_
            refine aops_any ?_
            refine aany_step 4 [] (by kernel_rfl) ⟨?_, trivial⟩
            ·
              refine ⟨_, rfl, rfl, ?_⟩
              refine aop_of_aops (ops := #[]) rfl ?_
              refine x_store hf rfl rfl Try.c24 rfl rfl (by simp [spC, AV.cells, AV.one, Value.oneCell', splice, AV.kill, AV.clean, cleanL, AV.only]) (by simp [spC, AV.cells, AV.leaf, Value.oneCell', splice, AV.kill, AV.clean, cleanL, AV.only]) rfl ?_
              refine aops_any ?_
              refine aany_le ?_ hj
              exact le_mem ⟨rfl, rfl, rfl, rfl, rfl, rfl, trivial⟩ (by intro g; first | rfl | exact look_swap (by decide))
      ·
        refine ⟨_, rfl, rfl, ?_⟩
        refine aop_of_aops (ops := #[]) rfl ?_
        refine x_alloc hf rfl rfl rfl Try.z24 ?_
        refine aops_any ?_
        refine aany_step 0 [1] (by kernel_rfl) ⟨?_, ?_, trivial⟩
        ·
          refine ⟨_, rfl, rfl, ?_⟩
          refine aop_of_aops (ops := #[]) rfl ?_
          first | refine x_pure rfl (p_loads rfl Try.g23 Try.c23 rfl rfl) ?_ | refine x_pure rfl (p_loadsr rfl Try.g23 Try.c23 rfl rfl rfl) ?_
          refine aops_any ?_
          refine aany_step 1 [4] (by kernel_rfl) ⟨?_, ?_, trivial⟩
          ·
            refine ⟨_, rfl, rfl, ?_⟩
            refine aop_of_aops (ops := #[]) rfl ?_
            first | refine x_pure rfl (p_loads rfl Try.g23 Try.c23 rfl rfl) ?_ | refine x_pure rfl (p_loadsr rfl Try.g23 Try.c23 rfl rfl rfl) ?_
            refine aops_any ?_
            refine aany_step 4 [] (by kernel_rfl) ⟨?_, trivial⟩
            ·
              refine ⟨_, rfl, rfl, ?_⟩
              refine aop_of_aops (ops := #[]) rfl ?_
              refine x_store hf rfl rfl Try.c24 rfl rfl (by simp [spC, AV.cells, AV.one, Value.oneCell', splice, AV.kill, AV.clean, cleanL, AV.only]) (by simp [spC, AV.cells, AV.leaf, Value.oneCell', splice, AV.kill, AV.clean, cleanL, AV.only]) rfl ?_
              refine aops_any ?_
              refine aany_le ?_ hj
              exact le_mem ⟨rfl, rfl, rfl, rfl, rfl, rfl, trivial⟩ (by intro g; first | rfl | exact look_swap (by decide))
          ·
            refine ⟨_, rfl, rfl, ?_⟩
            refine aop_of_aops (ops := #[]) rfl ?_
            refine x_store hf rfl rfl Try.c24 rfl rfl (by simp [spC, AV.cells, AV.one, Value.oneCell', splice, AV.kill, AV.clean, cleanL, AV.only]) (by simp [spC, AV.cells, AV.leaf, Value.oneCell', splice, AV.kill, AV.clean, cleanL, AV.only]) rfl ?_
            refine aops_any ?_
            refine aany_step 1 [] (by kernel_rfl) ⟨?_, trivial⟩
            ·
              refine ⟨_, rfl, rfl, ?_⟩
              refine aop_of_aops (ops := #[]) rfl ?_
              first | refine x_pure rfl (p_loads rfl Try.g23 Try.c23 rfl rfl) ?_ | refine x_pure rfl (p_loadsr rfl Try.g23 Try.c23 rfl rfl rfl) ?_
              refine aops_any ?_
              refine aany_le ?_ hj
              exact le_mem ⟨rfl, rfl, rfl, rfl, rfl, rfl, trivial⟩ (by intro g; first | rfl | exact look_swap (by decide))
        ·
          refine ⟨_, rfl, rfl, ?_⟩
          refine aop_of_aops (ops := #[]) rfl ?_
          first | refine x_pure rfl (p_loads rfl Try.g23 Try.c23 rfl rfl) ?_ | refine x_pure rfl (p_loadsr rfl Try.g23 Try.c23 rfl rfl rfl) ?_
          refine aops_any ?_
          refine aany_step 0 [] (by kernel_rfl) ⟨?_, trivial⟩
          ·
            refine ⟨_, rfl, rfl, ?_⟩
            refine aop_of_aops (ops := #[]) rfl ?_
            first | refine x_pure rfl (p_loads rfl Try.g23 Try.c23 rfl rfl) ?_ | refine x_pure rfl (p_loadsr rfl Try.g23 Try.c23 rfl rfl rfl) ?_
            refine aops_any ?_
            refine aany_step 4 [] (by kernel_rfl) ⟨?_, trivial⟩
            ·
              refine ⟨_, rfl, rfl, ?_⟩
              refine aop_of_aops (ops := #[]) rfl ?_
              refine x_store hf rfl rfl Try.c24 rfl rfl (by simp [spC, AV.cells, AV.one, Value.oneCell', splice, AV.kill, AV.clean, cleanL, AV.only]) (by simp [spC, AV.cells, AV.leaf, Value.oneCell', splice, AV.kill, AV.clean, cleanL, AV.only]) rfl ?_
              refine aops_any ?_
              refine aany_le ?_ hj
              exact le_mem ⟨rfl, rfl, rfl, rfl, rfl, rfl, trivial⟩ (by intro g; first | rfl | exact look_swap (by decide))
  refine aany_step 5 [] (by kernel_rfl) ⟨?_, trivial⟩
  ·
    refine ⟨_, rfl, rfl, ?_⟩
    refine aop_of_aops (ops := #[]) rfl ?_
    refine x_store hf rfl rfl Try.c24 rfl rfl (by simp [spC, AV.cells, AV.one, Value.oneCell', splice, AV.kill, AV.clean, cleanL, AV.only]) (by simp [spC, AV.cells, AV.leaf, Value.oneCell', splice, AV.kill, AV.clean, cleanL, AV.only]) rfl ?_
    refine aops_any ?_
    refine aany_end (by kernel_rfl) ?_
    refine hK2 _ ?_
    refine aw_seq_k (fun K3 hK3 => ?_)
    refine aw_region ?_
    refine aops_le (le_freeze (sl' := [(2, _), (3, _), (4, _), (7, .adr (spC a)), (8, .adr (spC b))]) ⟨⟨_, rfl, rfl⟩, ⟨_, rfl, rfl⟩, ⟨_, rfl, rfl⟩, ⟨_, rfl, rfl⟩, ⟨_, rfl, rfl⟩, trivial⟩) ?_
    first | refine x_pure rfl (p_loads rfl Try.g24 Try.c24 rfl rfl) ?_ | refine x_pure rfl (p_loadsr rfl Try.g24 Try.c24 rfl rfl rfl) ?_
    first | refine x_pure rfl (p_loads rfl Try.g24 Try.c24 rfl rfl) ?_ | refine x_pure rfl (p_loadsr rfl Try.g24 Try.c24 rfl rfl rfl) ?_
    refine x_step hf rfl (r_call rfl rfl Try.ent11 rfl (meet1_den _ _)) ?_
    refine x_allocst hf rfl Try.z24 rfl Try.c24 rfl rfl rfl rfl (by simp [spC, AV.cells, AV.leaf, Value.oneCell', splice, AV.kill, AV.clean, cleanL, AV.only]) ?_
    first | refine aops_end ?_ | refine aops_nil ?_
    refine hK3 _ ?_
    refine aw_seq_k (fun K4 hK4 => ?_)
    refine aw_draw hf Try.mixed (by kernel_rfl) rfl ?_
    refine d_rstep [] rfl rfl trivial rfl (r_call rfl rfl Try.ent12 rfl (alive_den)) ?_
    refine d_pure [(15, _)] rfl rfl ⟨⟨rfl, rfl⟩, trivial⟩ rfl (p_move rfl) ?_
    first | refine d_pure [(7, _)] rfl rfl ⟨⟨rfl, rfl⟩, trivial⟩ rfl (p_loads rfl Try.g24 Try.c24 rfl rfl) ?_ | refine d_pure [(7, _)] rfl rfl ⟨⟨rfl, rfl⟩, trivial⟩ rfl (p_loadsr rfl Try.g24 Try.c24 rfl rfl rfl) ?_
    refine d_rstep [(17, _)] rfl rfl ⟨⟨rfl, rfl⟩, trivial⟩ rfl (r_call rfl rfl Try.ent13 rfl (none_den _)) ?_
    first | refine d_pure [(3, _)] rfl rfl ⟨⟨rfl, rfl⟩, trivial⟩ rfl (p_fld_adr rfl Try.fd23_1 Try.c3 rfl) ?_ | refine d_pure [(3, _)] rfl rfl ⟨⟨rfl, rfl⟩, trivial⟩ rfl (p_fld_ref rfl Try.fd23_1 Try.c3 rfl) ?_
    first | refine d_pure [(19, _)] rfl rfl ⟨⟨rfl, rfl⟩, trivial⟩ rfl (p_load1 rfl Try.g3 rfl) ?_ | refine d_pure [(19, _)] rfl rfl ⟨⟨rfl, rfl⟩, trivial⟩ rfl (p_load1r rfl Try.g3 rfl rfl) ?_ | refine d_pure [(19, _)] rfl rfl ⟨⟨rfl, rfl⟩, trivial⟩ rfl (p_load1r rfl Try.g3 rfl (strs_ref (by simp only [List.length_cons] at *; omega))) ?_ | refine d_pure [(19, _)] rfl rfl ⟨⟨rfl, rfl⟩, trivial⟩ rfl (p_load1r rfl Try.g3 rfl (strs_ref (by omega))) ?_
    first | refine d_pure [(3, _)] rfl rfl ⟨⟨rfl, rfl⟩, trivial⟩ rfl (p_fld_adr rfl Try.fd23_0 Try.c3 rfl) ?_ | refine d_pure [(3, _)] rfl rfl ⟨⟨rfl, rfl⟩, trivial⟩ rfl (p_fld_ref rfl Try.fd23_0 Try.c3 rfl) ?_
    first | refine d_pure [(21, _)] rfl rfl ⟨⟨rfl, rfl⟩, trivial⟩ rfl (p_load1 rfl Try.g3 rfl) ?_ | refine d_pure [(21, _)] rfl rfl ⟨⟨rfl, rfl⟩, trivial⟩ rfl (p_load1r rfl Try.g3 rfl rfl) ?_ | refine d_pure [(21, _)] rfl rfl ⟨⟨rfl, rfl⟩, trivial⟩ rfl (p_load1r rfl Try.g3 rfl (strs_ref (by simp only [List.length_cons] at *; omega))) ?_ | refine d_pure [(21, _)] rfl rfl ⟨⟨rfl, rfl⟩, trivial⟩ rfl (p_load1r rfl Try.g3 rfl (strs_ref (by omega))) ?_
    refine d_pure [(20, _), (22, _)] rfl rfl ⟨⟨rfl, rfl⟩, ⟨rfl, rfl⟩, trivial⟩ rfl (p_bin rfl rfl rfl) ?_
    refine d_pure [(18, _), (23, _)] rfl rfl ⟨⟨rfl, rfl⟩, ⟨rfl, rfl⟩, trivial⟩ rfl (p_bin rfl rfl (booleq_t Try.underlying4 (rfl))) ?_
    refine d_pure [(16, _), (24, _)] rfl rfl ⟨⟨rfl, rfl⟩, ⟨rfl, rfl⟩, trivial⟩ rfl (p_pick_t rfl rfl) ?_
    refine d_pure [(25, _)] rfl rfl ⟨⟨rfl, rfl⟩, trivial⟩ rfl (p_move rfl) ?_
    first | refine d_pure [(7, _)] rfl rfl ⟨⟨rfl, rfl⟩, trivial⟩ rfl (p_loads rfl Try.g24 Try.c24 rfl rfl) ?_ | refine d_pure [(7, _)] rfl rfl ⟨⟨rfl, rfl⟩, trivial⟩ rfl (p_loadsr rfl Try.g24 Try.c24 rfl rfl rfl) ?_
    refine d_pure [(2, _)] rfl rfl ⟨⟨rfl, rfl⟩, trivial⟩ rfl (p_move rfl) ?_
    refine d_rstep [(27, _), (28, _)] rfl rfl ⟨⟨rfl, rfl⟩, ⟨rfl, rfl⟩, trivial⟩ rfl (r_call rfl rfl Try.ent14 rfl (has_den _ _)) ?_
    first | refine d_pure [(3, _)] rfl rfl ⟨⟨rfl, rfl⟩, trivial⟩ rfl (p_fld_adr rfl Try.fd23_0 Try.c3 rfl) ?_ | refine d_pure [(3, _)] rfl rfl ⟨⟨rfl, rfl⟩, trivial⟩ rfl (p_fld_ref rfl Try.fd23_0 Try.c3 rfl) ?_
    first | refine d_pure [(30, _)] rfl rfl ⟨⟨rfl, rfl⟩, trivial⟩ rfl (p_load1 rfl Try.g3 rfl) ?_ | refine d_pure [(30, _)] rfl rfl ⟨⟨rfl, rfl⟩, trivial⟩ rfl (p_load1r rfl Try.g3 rfl rfl) ?_ | refine d_pure [(30, _)] rfl rfl ⟨⟨rfl, rfl⟩, trivial⟩ rfl (p_load1r rfl Try.g3 rfl (strs_ref (by simp only [List.length_cons] at *; omega))) ?_ | refine d_pure [(30, _)] rfl rfl ⟨⟨rfl, rfl⟩, trivial⟩ rfl (p_load1r rfl Try.g3 rfl (strs_ref (by omega))) ?_
    refine d_pure [(2, _)] rfl rfl ⟨⟨rfl, rfl⟩, trivial⟩ rfl (p_move rfl) ?_
    refine d_pure [(31, _), (32, _)] rfl rfl ⟨⟨rfl, rfl⟩, ⟨rfl, rfl⟩, trivial⟩ rfl (p_bin rfl rfl rfl) ?_
    refine d_pure [(33, _)] rfl rfl ⟨⟨rfl, rfl⟩, trivial⟩ rfl (p_move rfl) ?_
    refine d_split 34 true rfl (fun hg1 => ?_) (fun hg1 => ?_)
    ·
      try simp only [Bool.not_eq_true', Bool.not_eq_false', Bool.not_true, Bool.not_false, Bool.not_not, decide_eq_true_eq, decide_eq_false_iff_not, beq_iff_eq, beq_eq_false_iff_ne, bne_iff_ne, bne_eq_false_iff_eq, ne_eq, Int.not_lt, Int.not_le, Nat.not_lt, Nat.not_le, gt_iff_lt, ge_iff_le, Bool.and_eq_true, Bool.or_eq_true, Int.ofNat_lt, Int.ofNat_le, Int.natCast_inj, List.length_map, List.length_cons, List.length_nil, List.length_append, Bool.and_eq_false_iff] at hg1
      refine d_pure [(2, _)] rfl rfl ⟨⟨rfl, rfl⟩, trivial⟩ rfl (p_move rfl) ?_
      first | refine d_pure [(3, _)] rfl rfl ⟨⟨rfl, rfl⟩, trivial⟩ rfl (p_fld_adr rfl Try.fd23_1 Try.c3 rfl) ?_ | refine d_pure [(3, _)] rfl rfl ⟨⟨rfl, rfl⟩, trivial⟩ rfl (p_fld_ref rfl Try.fd23_1 Try.c3 rfl) ?_
      first | refine d_pure [(36, _)] rfl rfl ⟨⟨rfl, rfl⟩, trivial⟩ rfl (p_load1 rfl Try.g3 rfl) ?_ | refine d_pure [(36, _)] rfl rfl ⟨⟨rfl, rfl⟩, trivial⟩ rfl (p_load1r rfl Try.g3 rfl rfl) ?_ | refine d_pure [(36, _)] rfl rfl ⟨⟨rfl, rfl⟩, trivial⟩ rfl (p_load1r rfl Try.g3 rfl (strs_ref (by simp only [List.length_cons] at *; omega))) ?_ | refine d_pure [(36, _)] rfl rfl ⟨⟨rfl, rfl⟩, trivial⟩ rfl (p_load1r rfl Try.g3 rfl (strs_ref (by omega))) ?_
      refine d_pure [(35, _), (37, _)] rfl rfl ⟨⟨rfl, rfl⟩, ⟨rfl, rfl⟩, trivial⟩ rfl (p_bin rfl rfl rfl) ?_
      refine d_pure [(34, _), (38, _)] rfl rfl ⟨⟨rfl, rfl⟩, ⟨rfl, rfl⟩, trivial⟩ rfl (p_pick_t rfl rfl) ?_
      refine d_pure [(29, _), (39, _)] rfl rfl ⟨⟨rfl, rfl⟩, ⟨rfl, rfl⟩, trivial⟩ rfl (p_bin rfl rfl (booleq_t Try.underlying4 (by rw [Bool.eq_iff_iff]; simp; omega))) ?_
      refine d_pure [(26, _), (40, _)] rfl rfl ⟨⟨rfl, rfl⟩, ⟨rfl, rfl⟩, trivial⟩ rfl (p_pick_t rfl rfl) ?_
      refine d_pure [(41, _)] rfl rfl ⟨⟨rfl, rfl⟩, trivial⟩ rfl (p_move rfl) ?_
      first | refine d_pure [(9, _)] rfl rfl ⟨⟨rfl, rfl⟩, trivial⟩ rfl (p_loads rfl Try.g24 Try.c24 rfl rfl) ?_ | refine d_pure [(9, _)] rfl rfl ⟨⟨rfl, rfl⟩, trivial⟩ rfl (p_loadsr rfl Try.g24 Try.c24 rfl rfl rfl) ?_
      first | refine d_pure [(3, _)] rfl rfl ⟨⟨rfl, rfl⟩, trivial⟩ rfl (p_fld_adr rfl Try.fd23_0 Try.c3 rfl) ?_ | refine d_pure [(3, _)] rfl rfl ⟨⟨rfl, rfl⟩, trivial⟩ rfl (p_fld_ref rfl Try.fd23_0 Try.c3 rfl) ?_
      first | refine d_pure [(44, _)] rfl rfl ⟨⟨rfl, rfl⟩, trivial⟩ rfl (p_load1 rfl Try.g3 rfl) ?_ | refine d_pure [(44, _)] rfl rfl ⟨⟨rfl, rfl⟩, trivial⟩ rfl (p_load1r rfl Try.g3 rfl rfl) ?_ | refine d_pure [(44, _)] rfl rfl ⟨⟨rfl, rfl⟩, trivial⟩ rfl (p_load1r rfl Try.g3 rfl (strs_ref (by simp only [List.length_cons] at *; omega))) ?_ | refine d_pure [(44, _)] rfl rfl ⟨⟨rfl, rfl⟩, trivial⟩ rfl (p_load1r rfl Try.g3 rfl (strs_ref (by omega))) ?_
      first | refine d_pure [(4, _)] rfl rfl ⟨⟨rfl, rfl⟩, trivial⟩ rfl (p_fld_adr rfl Try.fd23_0 Try.c3 rfl) ?_ | refine d_pure [(4, _)] rfl rfl ⟨⟨rfl, rfl⟩, trivial⟩ rfl (p_fld_ref rfl Try.fd23_0 Try.c3 rfl) ?_
      first | refine d_pure [(46, _)] rfl rfl ⟨⟨rfl, rfl⟩, trivial⟩ rfl (p_load1 rfl Try.g3 rfl) ?_ | refine d_pure [(46, _)] rfl rfl ⟨⟨rfl, rfl⟩, trivial⟩ rfl (p_load1r rfl Try.g3 rfl rfl) ?_ | refine d_pure [(46, _)] rfl rfl ⟨⟨rfl, rfl⟩, trivial⟩ rfl (p_load1r rfl Try.g3 rfl (strs_ref (by simp only [List.length_cons] at *; omega))) ?_ | refine d_pure [(46, _)] rfl rfl ⟨⟨rfl, rfl⟩, trivial⟩ rfl (p_load1r rfl Try.g3 rfl (strs_ref (by omega))) ?_
      refine d_pure [(45, _), (47, _)] rfl rfl ⟨⟨rfl, rfl⟩, ⟨rfl, rfl⟩, trivial⟩ rfl (p_max rfl rfl) ?_
      first | refine d_pure [(3, _)] rfl rfl ⟨⟨rfl, rfl⟩, trivial⟩ rfl (p_fld_adr rfl Try.fd23_1 Try.c3 rfl) ?_ | refine d_pure [(3, _)] rfl rfl ⟨⟨rfl, rfl⟩, trivial⟩ rfl (p_fld_ref rfl Try.fd23_1 Try.c3 rfl) ?_
      first | refine d_pure [(49, _)] rfl rfl ⟨⟨rfl, rfl⟩, trivial⟩ rfl (p_load1 rfl Try.g3 rfl) ?_ | refine d_pure [(49, _)] rfl rfl ⟨⟨rfl, rfl⟩, trivial⟩ rfl (p_load1r rfl Try.g3 rfl rfl) ?_ | refine d_pure [(49, _)] rfl rfl ⟨⟨rfl, rfl⟩, trivial⟩ rfl (p_load1r rfl Try.g3 rfl (strs_ref (by simp only [List.length_cons] at *; omega))) ?_ | refine d_pure [(49, _)] rfl rfl ⟨⟨rfl, rfl⟩, trivial⟩ rfl (p_load1r rfl Try.g3 rfl (strs_ref (by omega))) ?_
      first | refine d_pure [(4, _)] rfl rfl ⟨⟨rfl, rfl⟩, trivial⟩ rfl (p_fld_adr rfl Try.fd23_1 Try.c3 rfl) ?_ | refine d_pure [(4, _)] rfl rfl ⟨⟨rfl, rfl⟩, trivial⟩ rfl (p_fld_ref rfl Try.fd23_1 Try.c3 rfl) ?_
      first | refine d_pure [(51, _)] rfl rfl ⟨⟨rfl, rfl⟩, trivial⟩ rfl (p_load1 rfl Try.g3 rfl) ?_ | refine d_pure [(51, _)] rfl rfl ⟨⟨rfl, rfl⟩, trivial⟩ rfl (p_load1r rfl Try.g3 rfl rfl) ?_ | refine d_pure [(51, _)] rfl rfl ⟨⟨rfl, rfl⟩, trivial⟩ rfl (p_load1r rfl Try.g3 rfl (strs_ref (by simp only [List.length_cons] at *; omega))) ?_ | refine d_pure [(51, _)] rfl rfl ⟨⟨rfl, rfl⟩, trivial⟩ rfl (p_load1r rfl Try.g3 rfl (strs_ref (by omega))) ?_
      refine d_pure [(50, _), (52, _)] rfl rfl ⟨⟨rfl, rfl⟩, ⟨rfl, rfl⟩, trivial⟩ rfl (p_min rfl rfl) ?_
      refine d_pure [(48, _), (53, _)] rfl rfl ⟨⟨rfl, rfl⟩, ⟨rfl, rfl⟩, trivial⟩ rfl (p_build rfl Try.z24 Try.pl24 (by simp [spC, AV.cells, AV.one, Value.oneCell', splice, AV.kill, AV.clean, cleanL, AV.only]) rfl) ?_
      refine d_pure [(43, _), (54, _)] rfl rfl ⟨⟨rfl, rfl⟩, ⟨rfl, rfl⟩, trivial⟩ rfl (p_eqagg rfl rfl Try.q24 (aeq_sp_t (x := meet1 a b) (y := meet1 a b) rfl)) ?_
      refine d_pure [(42, _), (55, _)] rfl rfl ⟨⟨rfl, rfl⟩, ⟨rfl, rfl⟩, trivial⟩ rfl (p_pick_t rfl rfl) ?_
      refine d_pure [(56, _)] rfl rfl ⟨⟨rfl, rfl⟩, trivial⟩ rfl (p_move rfl) ?_
      first | refine d_pure [(9, _)] rfl rfl ⟨⟨rfl, rfl⟩, trivial⟩ rfl (p_loads rfl Try.g24 Try.c24 rfl rfl) ?_ | refine d_pure [(9, _)] rfl rfl ⟨⟨rfl, rfl⟩, trivial⟩ rfl (p_loadsr rfl Try.g24 Try.c24 rfl rfl rfl) ?_
      refine d_pure [(2, _)] rfl rfl ⟨⟨rfl, rfl⟩, trivial⟩ rfl (p_move rfl) ?_
      refine d_rstep [(58, _), (59, _)] rfl rfl ⟨⟨rfl, rfl⟩, ⟨rfl, rfl⟩, trivial⟩ rfl (r_call rfl rfl Try.ent14 rfl (has_den _ _)) ?_
      first | refine d_pure [(7, _)] rfl rfl ⟨⟨rfl, rfl⟩, trivial⟩ rfl (p_loads rfl Try.g24 Try.c24 rfl rfl) ?_ | refine d_pure [(7, _)] rfl rfl ⟨⟨rfl, rfl⟩, trivial⟩ rfl (p_loadsr rfl Try.g24 Try.c24 rfl rfl rfl) ?_
      refine d_pure [(2, _)] rfl rfl ⟨⟨rfl, rfl⟩, trivial⟩ rfl (p_move rfl) ?_
      refine d_rstep [(61, _), (62, _)] rfl rfl ⟨⟨rfl, rfl⟩, ⟨rfl, rfl⟩, trivial⟩ rfl (r_call rfl rfl Try.ent14 rfl (has_den _ _)) ?_
      refine d_pure [(63, _)] rfl rfl ⟨⟨rfl, rfl⟩, trivial⟩ rfl (p_move rfl) ?_
      refine d_split 64 true rfl (fun hg2 => ?_) (fun hg2 => ?_)
      ·
        try simp only [Bool.not_eq_true', Bool.not_eq_false', Bool.not_true, Bool.not_false, Bool.not_not, decide_eq_true_eq, decide_eq_false_iff_not, beq_iff_eq, beq_eq_false_iff_ne, bne_iff_ne, bne_eq_false_iff_eq, ne_eq, Int.not_lt, Int.not_le, Nat.not_lt, Nat.not_le, gt_iff_lt, ge_iff_le, Bool.and_eq_true, Bool.or_eq_true, Int.ofNat_lt, Int.ofNat_le, Int.natCast_inj, List.length_map, List.length_cons, List.length_nil, List.length_append, Bool.and_eq_false_iff] at hg2
        first | refine d_pure [(8, _)] rfl rfl ⟨⟨rfl, rfl⟩, trivial⟩ rfl (p_loads rfl Try.g24 Try.c24 rfl rfl) ?_ | refine d_pure [(8, _)] rfl rfl ⟨⟨rfl, rfl⟩, trivial⟩ rfl (p_loadsr rfl Try.g24 Try.c24 rfl rfl rfl) ?_
        refine d_pure [(2, _)] rfl rfl ⟨⟨rfl, rfl⟩, trivial⟩ rfl (p_move rfl) ?_
        refine d_rstep [(65, _), (66, _)] rfl rfl ⟨⟨rfl, rfl⟩, ⟨rfl, rfl⟩, trivial⟩ rfl (r_call rfl rfl Try.ent14 rfl (has_den _ _)) ?_
        refine d_pure [(64, _), (67, _)] rfl rfl ⟨⟨rfl, rfl⟩, ⟨rfl, rfl⟩, trivial⟩ rfl (p_pick_t rfl rfl) ?_
        refine d_pure [(60, _), (68, _)] rfl rfl ⟨⟨rfl, rfl⟩, ⟨rfl, rfl⟩, trivial⟩ rfl (p_bin rfl rfl (booleq_t Try.underlying4 (by rw [Bool.eq_iff_iff]; simp only [Bool.and_eq_true, decide_eq_true_eq, Bool.false_eq_true, iff_false]; simp only [meet1]; omega))) ?_
        refine d_pure [(57, _), (69, _)] rfl rfl ⟨⟨rfl, rfl⟩, ⟨rfl, rfl⟩, trivial⟩ rfl (p_pick_t rfl rfl) ?_
        refine d_pure [(70, _)] rfl rfl ⟨⟨rfl, rfl⟩, trivial⟩ rfl (p_assign rfl) ?_
        refine lex_end (sl' := [(6, _)]) rfl ⟨rfl, trivial⟩ rfl ?_
        refine hK4 _ ?_
        refine aw_ret ?_
        refine ⟨_, rfl, ?_⟩
        rfl
      ·
        try simp only [Bool.not_eq_true', Bool.not_eq_false', Bool.not_true, Bool.not_false, Bool.not_not, decide_eq_true_eq, decide_eq_false_iff_not, beq_iff_eq, beq_eq_false_iff_ne, bne_iff_ne, bne_eq_false_iff_eq, ne_eq, Int.not_lt, Int.not_le, Nat.not_lt, Nat.not_le, gt_iff_lt, ge_iff_le, Bool.and_eq_true, Bool.or_eq_true, Int.ofNat_lt, Int.ofNat_le, Int.natCast_inj, List.length_map, List.length_cons, List.length_nil, List.length_append, Bool.and_eq_false_iff] at hg2
        refine d_skip rfl rfl ?_
        refine d_skip rfl rfl ?_
        refine d_skip rfl rfl ?_
        refine d_pure [(64, _), (67, _)] rfl rfl ⟨⟨rfl, rfl⟩, ⟨rfl, rfl⟩, trivial⟩ rfl (p_pick_f rfl rfl) ?_
        refine d_pure [(60, _), (68, _)] rfl rfl ⟨⟨rfl, rfl⟩, ⟨rfl, rfl⟩, trivial⟩ rfl (p_bin rfl rfl (booleq_t Try.underlying4 (by rw [Bool.eq_iff_iff]; simp only [Bool.and_eq_true, decide_eq_true_eq, Bool.false_eq_true, iff_false]; simp only [meet1]; omega))) ?_
        refine d_pure [(57, _), (69, _)] rfl rfl ⟨⟨rfl, rfl⟩, ⟨rfl, rfl⟩, trivial⟩ rfl (p_pick_t rfl rfl) ?_
        refine d_pure [(70, _)] rfl rfl ⟨⟨rfl, rfl⟩, trivial⟩ rfl (p_assign rfl) ?_
        refine lex_end (sl' := [(6, _)]) rfl ⟨rfl, trivial⟩ rfl ?_
        refine hK4 _ ?_
        refine aw_ret ?_
        refine ⟨_, rfl, ?_⟩
        rfl
    ·
      try simp only [Bool.not_eq_true', Bool.not_eq_false', Bool.not_true, Bool.not_false, Bool.not_not, decide_eq_true_eq, decide_eq_false_iff_not, beq_iff_eq, beq_eq_false_iff_ne, bne_iff_ne, bne_eq_false_iff_eq, ne_eq, Int.not_lt, Int.not_le, Nat.not_lt, Nat.not_le, gt_iff_lt, ge_iff_le, Bool.and_eq_true, Bool.or_eq_true, Int.ofNat_lt, Int.ofNat_le, Int.natCast_inj, List.length_map, List.length_cons, List.length_nil, List.length_append, Bool.and_eq_false_iff] at hg1
      refine d_skip rfl rfl ?_
      refine d_skip rfl rfl ?_
      refine d_skip rfl rfl ?_
      refine d_skip rfl rfl ?_
      refine d_pure [(34, _), (38, _)] rfl rfl ⟨⟨rfl, rfl⟩, ⟨rfl, rfl⟩, trivial⟩ rfl (p_pick_f rfl rfl) ?_
      refine d_pure [(29, _), (39, _)] rfl rfl ⟨⟨rfl, rfl⟩, ⟨rfl, rfl⟩, trivial⟩ rfl (p_bin rfl rfl (booleq_t Try.underlying4 (by rw [Bool.eq_iff_iff]; simp; omega))) ?_
      refine d_pure [(26, _), (40, _)] rfl rfl ⟨⟨rfl, rfl⟩, ⟨rfl, rfl⟩, trivial⟩ rfl (p_pick_t rfl rfl) ?_
      refine d_pure [(41, _)] rfl rfl ⟨⟨rfl, rfl⟩, trivial⟩ rfl (p_move rfl) ?_
      first | refine d_pure [(9, _)] rfl rfl ⟨⟨rfl, rfl⟩, trivial⟩ rfl (p_loads rfl Try.g24 Try.c24 rfl rfl) ?_ | refine d_pure [(9, _)] rfl rfl ⟨⟨rfl, rfl⟩, trivial⟩ rfl (p_loadsr rfl Try.g24 Try.c24 rfl rfl rfl) ?_
      first | refine d_pure [(3, _)] rfl rfl ⟨⟨rfl, rfl⟩, trivial⟩ rfl (p_fld_adr rfl Try.fd23_0 Try.c3 rfl) ?_ | refine d_pure [(3, _)] rfl rfl ⟨⟨rfl, rfl⟩, trivial⟩ rfl (p_fld_ref rfl Try.fd23_0 Try.c3 rfl) ?_
      first | refine d_pure [(44, _)] rfl rfl ⟨⟨rfl, rfl⟩, trivial⟩ rfl (p_load1 rfl Try.g3 rfl) ?_ | refine d_pure [(44, _)] rfl rfl ⟨⟨rfl, rfl⟩, trivial⟩ rfl (p_load1r rfl Try.g3 rfl rfl) ?_ | refine d_pure [(44, _)] rfl rfl ⟨⟨rfl, rfl⟩, trivial⟩ rfl (p_load1r rfl Try.g3 rfl (strs_ref (by simp only [List.length_cons] at *; omega))) ?_ | refine d_pure [(44, _)] rfl rfl ⟨⟨rfl, rfl⟩, trivial⟩ rfl (p_load1r rfl Try.g3 rfl (strs_ref (by omega))) ?_
      first | refine d_pure [(4, _)] rfl rfl ⟨⟨rfl, rfl⟩, trivial⟩ rfl (p_fld_adr rfl Try.fd23_0 Try.c3 rfl) ?_ | refine d_pure [(4, _)] rfl rfl ⟨⟨rfl, rfl⟩, trivial⟩ rfl (p_fld_ref rfl Try.fd23_0 Try.c3 rfl) ?_
      first | refine d_pure [(46, _)] rfl rfl ⟨⟨rfl, rfl⟩, trivial⟩ rfl (p_load1 rfl Try.g3 rfl) ?_ | refine d_pure [(46, _)] rfl rfl ⟨⟨rfl, rfl⟩, trivial⟩ rfl (p_load1r rfl Try.g3 rfl rfl) ?_ | refine d_pure [(46, _)] rfl rfl ⟨⟨rfl, rfl⟩, trivial⟩ rfl (p_load1r rfl Try.g3 rfl (strs_ref (by simp only [List.length_cons] at *; omega))) ?_ | refine d_pure [(46, _)] rfl rfl ⟨⟨rfl, rfl⟩, trivial⟩ rfl (p_load1r rfl Try.g3 rfl (strs_ref (by omega))) ?_
      refine d_pure [(45, _), (47, _)] rfl rfl ⟨⟨rfl, rfl⟩, ⟨rfl, rfl⟩, trivial⟩ rfl (p_max rfl rfl) ?_
      first | refine d_pure [(3, _)] rfl rfl ⟨⟨rfl, rfl⟩, trivial⟩ rfl (p_fld_adr rfl Try.fd23_1 Try.c3 rfl) ?_ | refine d_pure [(3, _)] rfl rfl ⟨⟨rfl, rfl⟩, trivial⟩ rfl (p_fld_ref rfl Try.fd23_1 Try.c3 rfl) ?_
      first | refine d_pure [(49, _)] rfl rfl ⟨⟨rfl, rfl⟩, trivial⟩ rfl (p_load1 rfl Try.g3 rfl) ?_ | refine d_pure [(49, _)] rfl rfl ⟨⟨rfl, rfl⟩, trivial⟩ rfl (p_load1r rfl Try.g3 rfl rfl) ?_ | refine d_pure [(49, _)] rfl rfl ⟨⟨rfl, rfl⟩, trivial⟩ rfl (p_load1r rfl Try.g3 rfl (strs_ref (by simp only [List.length_cons] at *; omega))) ?_ | refine d_pure [(49, _)] rfl rfl ⟨⟨rfl, rfl⟩, trivial⟩ rfl (p_load1r rfl Try.g3 rfl (strs_ref (by omega))) ?_
      first | refine d_pure [(4, _)] rfl rfl ⟨⟨rfl, rfl⟩, trivial⟩ rfl (p_fld_adr rfl Try.fd23_1 Try.c3 rfl) ?_ | refine d_pure [(4, _)] rfl rfl ⟨⟨rfl, rfl⟩, trivial⟩ rfl (p_fld_ref rfl Try.fd23_1 Try.c3 rfl) ?_
      first | refine d_pure [(51, _)] rfl rfl ⟨⟨rfl, rfl⟩, trivial⟩ rfl (p_load1 rfl Try.g3 rfl) ?_ | refine d_pure [(51, _)] rfl rfl ⟨⟨rfl, rfl⟩, trivial⟩ rfl (p_load1r rfl Try.g3 rfl rfl) ?_ | refine d_pure [(51, _)] rfl rfl ⟨⟨rfl, rfl⟩, trivial⟩ rfl (p_load1r rfl Try.g3 rfl (strs_ref (by simp only [List.length_cons] at *; omega))) ?_ | refine d_pure [(51, _)] rfl rfl ⟨⟨rfl, rfl⟩, trivial⟩ rfl (p_load1r rfl Try.g3 rfl (strs_ref (by omega))) ?_
      refine d_pure [(50, _), (52, _)] rfl rfl ⟨⟨rfl, rfl⟩, ⟨rfl, rfl⟩, trivial⟩ rfl (p_min rfl rfl) ?_
      refine d_pure [(48, _), (53, _)] rfl rfl ⟨⟨rfl, rfl⟩, ⟨rfl, rfl⟩, trivial⟩ rfl (p_build rfl Try.z24 Try.pl24 (by simp [spC, AV.cells, AV.one, Value.oneCell', splice, AV.kill, AV.clean, cleanL, AV.only]) rfl) ?_
      refine d_pure [(43, _), (54, _)] rfl rfl ⟨⟨rfl, rfl⟩, ⟨rfl, rfl⟩, trivial⟩ rfl (p_eqagg rfl rfl Try.q24 (aeq_sp_t (x := meet1 a b) (y := meet1 a b) rfl)) ?_
      refine d_pure [(42, _), (55, _)] rfl rfl ⟨⟨rfl, rfl⟩, ⟨rfl, rfl⟩, trivial⟩ rfl (p_pick_t rfl rfl) ?_
      refine d_pure [(56, _)] rfl rfl ⟨⟨rfl, rfl⟩, trivial⟩ rfl (p_move rfl) ?_
      first | refine d_pure [(9, _)] rfl rfl ⟨⟨rfl, rfl⟩, trivial⟩ rfl (p_loads rfl Try.g24 Try.c24 rfl rfl) ?_ | refine d_pure [(9, _)] rfl rfl ⟨⟨rfl, rfl⟩, trivial⟩ rfl (p_loadsr rfl Try.g24 Try.c24 rfl rfl rfl) ?_
      refine d_pure [(2, _)] rfl rfl ⟨⟨rfl, rfl⟩, trivial⟩ rfl (p_move rfl) ?_
      refine d_rstep [(58, _), (59, _)] rfl rfl ⟨⟨rfl, rfl⟩, ⟨rfl, rfl⟩, trivial⟩ rfl (r_call rfl rfl Try.ent14 rfl (has_den _ _)) ?_
      first | refine d_pure [(7, _)] rfl rfl ⟨⟨rfl, rfl⟩, trivial⟩ rfl (p_loads rfl Try.g24 Try.c24 rfl rfl) ?_ | refine d_pure [(7, _)] rfl rfl ⟨⟨rfl, rfl⟩, trivial⟩ rfl (p_loadsr rfl Try.g24 Try.c24 rfl rfl rfl) ?_
      refine d_pure [(2, _)] rfl rfl ⟨⟨rfl, rfl⟩, trivial⟩ rfl (p_move rfl) ?_
      refine d_rstep [(61, _), (62, _)] rfl rfl ⟨⟨rfl, rfl⟩, ⟨rfl, rfl⟩, trivial⟩ rfl (r_call rfl rfl Try.ent14 rfl (has_den _ _)) ?_
      refine d_pure [(63, _)] rfl rfl ⟨⟨rfl, rfl⟩, trivial⟩ rfl (p_move rfl) ?_
      refine d_split 64 true rfl (fun hg3 => ?_) (fun hg3 => ?_)
      ·
        try simp only [Bool.not_eq_true', Bool.not_eq_false', Bool.not_true, Bool.not_false, Bool.not_not, decide_eq_true_eq, decide_eq_false_iff_not, beq_iff_eq, beq_eq_false_iff_ne, bne_iff_ne, bne_eq_false_iff_eq, ne_eq, Int.not_lt, Int.not_le, Nat.not_lt, Nat.not_le, gt_iff_lt, ge_iff_le, Bool.and_eq_true, Bool.or_eq_true, Int.ofNat_lt, Int.ofNat_le, Int.natCast_inj, List.length_map, List.length_cons, List.length_nil, List.length_append, Bool.and_eq_false_iff] at hg3
        first | refine d_pure [(8, _)] rfl rfl ⟨⟨rfl, rfl⟩, trivial⟩ rfl (p_loads rfl Try.g24 Try.c24 rfl rfl) ?_ | refine d_pure [(8, _)] rfl rfl ⟨⟨rfl, rfl⟩, trivial⟩ rfl (p_loadsr rfl Try.g24 Try.c24 rfl rfl rfl) ?_
        refine d_pure [(2, _)] rfl rfl ⟨⟨rfl, rfl⟩, trivial⟩ rfl (p_move rfl) ?_
        refine d_rstep [(65, _), (66, _)] rfl rfl ⟨⟨rfl, rfl⟩, ⟨rfl, rfl⟩, trivial⟩ rfl (r_call rfl rfl Try.ent14 rfl (has_den _ _)) ?_
        refine d_pure [(64, _), (67, _)] rfl rfl ⟨⟨rfl, rfl⟩, ⟨rfl, rfl⟩, trivial⟩ rfl (p_pick_t rfl rfl) ?_
        refine d_pure [(60, _), (68, _)] rfl rfl ⟨⟨rfl, rfl⟩, ⟨rfl, rfl⟩, trivial⟩ rfl (p_bin rfl rfl (booleq_t Try.underlying4 (by rw [Bool.eq_iff_iff]; simp only [Bool.and_eq_true, decide_eq_true_eq, Bool.false_eq_true, iff_false]; simp only [meet1]; omega))) ?_
        refine d_pure [(57, _), (69, _)] rfl rfl ⟨⟨rfl, rfl⟩, ⟨rfl, rfl⟩, trivial⟩ rfl (p_pick_t rfl rfl) ?_
        refine d_pure [(70, _)] rfl rfl ⟨⟨rfl, rfl⟩, trivial⟩ rfl (p_assign rfl) ?_
        refine lex_end (sl' := [(6, _)]) rfl ⟨rfl, trivial⟩ rfl ?_
        refine hK4 _ ?_
        refine aw_ret ?_
        refine ⟨_, rfl, ?_⟩
        rfl
      ·
        try simp only [Bool.not_eq_true', Bool.not_eq_false', Bool.not_true, Bool.not_false, Bool.not_not, decide_eq_true_eq, decide_eq_false_iff_not, beq_iff_eq, beq_eq_false_iff_ne, bne_iff_ne, bne_eq_false_iff_eq, ne_eq, Int.not_lt, Int.not_le, Nat.not_lt, Nat.not_le, gt_iff_lt, ge_iff_le, Bool.and_eq_true, Bool.or_eq_true, Int.ofNat_lt, Int.ofNat_le, Int.natCast_inj, List.length_map, List.length_cons, List.length_nil, List.length_append, Bool.and_eq_false_iff] at hg3
        refine d_skip rfl rfl ?_
        refine d_skip rfl rfl ?_
        refine d_skip rfl rfl ?_
        refine d_pure [(64, _), (67, _)] rfl rfl ⟨⟨rfl, rfl⟩, ⟨rfl, rfl⟩, trivial⟩ rfl (p_pick_f rfl rfl) ?_
        refine d_pure [(60, _), (68, _)] rfl rfl ⟨⟨rfl, rfl⟩, ⟨rfl, rfl⟩, trivial⟩ rfl (p_bin rfl rfl (booleq_t Try.underlying4 (by rw [Bool.eq_iff_iff]; simp only [Bool.and_eq_true, decide_eq_true_eq, Bool.false_eq_true, iff_false]; simp only [meet1]; omega))) ?_
        refine d_pure [(57, _), (69, _)] rfl rfl ⟨⟨rfl, rfl⟩, ⟨rfl, rfl⟩, trivial⟩ rfl (p_pick_t rfl rfl) ?_
        refine d_pure [(70, _)] rfl rfl ⟨⟨rfl, rfl⟩, trivial⟩ rfl (p_assign rfl) ?_
        refine lex_end (sl' := [(6, _)]) rfl ⟨rfl, trivial⟩ rfl ?_
        refine hK4 _ ?_
        refine aw_ret ?_
        refine ⟨_, rfl, ?_⟩
        rfl
end Go.Proofs.Ytpblgmhljnfabaa
