import Derived.Test.YtkjniggdldpnoaaNW6
import Derived.Test.YtkjniggdldpnoaaP5
import Derived.Test.YtkjniggdldpnoaaS2
set_option linter.unusedVariables false
set_option linter.unusedSimpArgs false
namespace Go.Proofs.Ytkjniggdldpnoaa.Nm
open Go Go.Abs

set_option maxRecDepth 20000 in
set_option maxHeartbeats 2000000 in
theorem namePairs_den (p1 p2 q1 q2 s : ByteArray) (hp1 : TS p1) (hp2 : TS p2) (hq1 : TS q1) (hq2 : TS q2) (hs : TS s)  : Den Try.prog 3 [.agg [.s (.string p1), .s (.string p2)], .agg [.s (.string q1), .s (.string q2)], .s (.string s)]  (· = .s (.bool true)) := by
  refine den_of_aw Try.func3 rfl (Nat.le_of_ble_eq_true rfl) (fun w0 A hf => ?_)
  refine aw_seq_k (fun K1 hK1 => ?_)
  refine aw_region ?_
  refine x_step hf rfl (r_box rfl rfl (by simp [AV.cells, AV.leaf, Value.oneCell', splice, AV.kill, AV.clean, cleanL, AV.only])) ?_
  refine x_step hf rfl (r_box rfl rfl (by simp [AV.cells, AV.leaf, Value.oneCell', splice, AV.kill, AV.clean, cleanL, AV.only])) ?_
  refine x_pure rfl (p_assign_bad) ?_
  first | refine aops_end ?_ | refine aops_nil ?_
  refine hK1 _ ?_
  refine aw_seq_k (fun K2 hK2 => ?_)
  refine aw_region_any Try.mixed ?_
  suffices hj : AAny _ _ _ _ _ 1 #[true, true, true, true, true, false] ⟨69, [(2, .s (.string s)), (3, .adr [.s (.string p1), .s (.string p2)]), (4, .adr [.s (.string q1), .s (.string q2)]), (11, .agg [.s (.string q1), .s (.string q2)]), (7, .ref 7 0 0 0), (8, .ref 8 0 0 0)], [(7, .box [.s (.string p1), .s (.string p2)]), (8, .box [.s (.string ⟨#[]⟩), .s (.string ⟨#[]⟩)])]⟩ by
    refine aany_step 0 [1, 2, 3] (by kernel_rfl) ⟨?_, ?_, ?_, ?_, trivial⟩
    ·
      refine ⟨_, rfl, rfl, ?_⟩
      refine aop_of_aops (ops := #[]) rfl ?_
      first | refine x_pure rfl (p_loads rfl Try.g23 Try.c23 rfl rfl) ?_ | refine x_pure rfl (p_loadsr rfl Try.g23 Try.c23 rfl rfl rfl) ?_
      refine aops_any ?_
      refine aany_step 1 [2, 3] (by kernel_rfl) ⟨?_, ?_, ?_, trivial⟩
      ·
        refine ⟨_, rfl, rfl, ?_⟩
        refine aop_of_aops (ops := #[]) rfl ?_
        first | refine x_pure rfl (p_loads rfl Try.g23 Try.c23 rfl rfl) ?_ | refine x_pure rfl (p_loadsr rfl Try.g23 Try.c23 rfl rfl rfl) ?_
        refine aops_any ?_
        refine aany_step 2 [3] (by kernel_rfl) ⟨?_, ?_, trivial⟩
        ·
          refine ⟨_, rfl, rfl, ?_⟩
          refine aop_of_aops (ops := #[]) rfl ?_
          refine x_alloc hf rfl rfl rfl Try.z24 ?_
          refine aops_any ?_
          refine aany_step 3 [] (by kernel_rfl) ⟨?_, trivial⟩
          ·
            refine ⟨_, rfl, rfl, ?_⟩
            refine aop_of_aops (ops := #[]) rfl ?_
            refine x_alloc hf rfl rfl rfl Try.z24 ?_
            refine aops_any ?_
            refine aany_step 4 [] (by kernel_rfl) ⟨?_, trivial⟩
            ·
              refine ⟨_, rfl, rfl, ?_⟩
              refine aop_of_aops (ops := #[]) rfl ?_
              refine x_store hf rfl rfl Try.c24 rfl rfl (by simp [AV.cells, AV.one, Value.oneCell', splice, AV.kill, AV.clean, cleanL, AV.only]) (by simp [AV.cells, AV.leaf, Value.oneCell', splice, AV.kill, AV.clean, cleanL, AV.only]) rfl ?_
              refine aops_any ?_
              refine aany_le ?_ hj
              exact le_mem ⟨rfl, rfl, rfl, rfl, rfl, rfl, trivial⟩ (by intro g; first | rfl | exact look_swap (by decide))
        ·
          refine ⟨_, rfl, rfl, ?_⟩
          refine aop_of_aops (ops := #[]) rfl ?_
          refine x_alloc hf rfl rfl rfl Try.z24 ?_
          refine aops_any ?_
          refine aany_step 2 [] (by kernel_rfl) ⟨?_, trivial⟩
          ·
            refine ⟨_, rfl, rfl, ?_⟩
            refine aop_of_aops (ops := #[]) rfl ?_
            refine x_alloc hf rfl rfl rfl Try.z24 ?_
            refine aops_any ?_
            refine aany_step 4 [] (by kernel_rfl) ⟨?_, trivial⟩
            ·
              refine ⟨_, rfl, rfl, ?_⟩
              refine aop_of_aops (ops := #[]) rfl ?_
              refine x_store hf rfl rfl Try.c24 rfl rfl (by simp [AV.cells, AV.one, Value.oneCell', splice, AV.kill, AV.clean, cleanL, AV.only]) (by simp [AV.cells, AV.leaf, Value.oneCell', splice, AV.kill, AV.clean, cleanL, AV.only]) rfl ?_
              refine aops_any ?_
              refine aany_le ?_ hj
              exact le_mem ⟨rfl, rfl, rfl, rfl, rfl, rfl, trivial⟩ (by intro g; first | rfl | exact look_swap (by decide))
      ·
        refine ⟨_, rfl, rfl, ?_⟩
        refine aop_of_aops (ops := #[]) rfl ?_
        refine x_alloc hf rfl rfl rfl Try.z24 ?_
        refine aops_any ?_
        refine aany_step 1 [3] (by kernel_rfl) ⟨?_, ?_, trivial⟩
        ·
          refine ⟨_, rfl, rfl, ?_⟩
          refine aop_of_aops (ops := #[]) rfl ?_
          first | refine x_pure rfl (p_loads rfl Try.g23 Try.c23 rfl rfl) ?_ | refine x_pure rfl (p_loadsr rfl Try.g23 Try.c23 rfl rfl rfl) ?_
          refine aops_any ?_
          refine aany_step 3 [] (by kernel_rfl) ⟨?_, trivial⟩
          ·
            refine ⟨_, rfl, rfl, ?_⟩
            refine aop_of_aops (ops := #[]) rfl ?_
            refine x_alloc hf rfl rfl rfl Try.z24 ?_
            refine aops_any ?_
            refine aany_step 4 [] (by kernel_rfl) ⟨?_, trivial⟩
            ·
              refine ⟨_, rfl, rfl, ?_⟩
              refine aop_of_aops (ops := #[]) rfl ?_
              refine x_store hf rfl rfl Try.c24 rfl rfl (by simp [AV.cells, AV.one, Value.oneCell', splice, AV.kill, AV.clean, cleanL, AV.only]) (by simp [AV.cells, AV.leaf, Value.oneCell', splice, AV.kill, AV.clean, cleanL, AV.only]) rfl ?_
              refine aops_any ?_
              refine aany_le ?_ hj
              exact le_mem ⟨rfl, rfl, rfl, rfl, rfl, rfl, trivial⟩ (by intro g; first | rfl | exact look_swap (by decide))
        ·
          refine ⟨_, rfl, rfl, ?_⟩
          refine aop_of_aops (ops := #[]) rfl ?_
          refine x_alloc hf rfl rfl rfl Try.z24 ?_
          refine aops_any ?_
          refine aany_step 1 [4] (by kernel_rfl) ⟨?_, ?_, trivial⟩
          ·
            refine ⟨_, rfl, rfl, ?_⟩
            refine aop_of_aops (ops := #[]) rfl ?_
            first | refine x_pure rfl (p_loads rfl Try.g23 Try.c23 rfl rfl) ?_ | refine x_pure rfl (p_loadsr rfl Try.g23 Try.c23 rfl rfl rfl) ?_
            refine aops_any ?_
            refine aany_step 4 [] (by kernel_rfl) ⟨?_, trivial⟩
            ·
              refine ⟨_, rfl, rfl, ?_⟩
              refine aop_of_aops (ops := #[]) rfl ?_
              refine x_store hf rfl rfl Try.c24 rfl rfl (by simp [AV.cells, AV.one, Value.oneCell', splice, AV.kill, AV.clean, cleanL, AV.only]) (by simp [AV.cells, AV.leaf, Value.oneCell', splice, AV.kill, AV.clean, cleanL, AV.only]) rfl ?_
              refine aops_any ?_
              refine aany_le ?_ hj
              exact le_mem ⟨rfl, rfl, rfl, rfl, rfl, rfl, trivial⟩ (by intro g; first | rfl | exact look_swap (by decide))
          ·
            refine ⟨_, rfl, rfl, ?_⟩
            refine aop_of_aops (ops := #[]) rfl ?_
            refine x_store hf rfl rfl Try.c24 rfl rfl (by simp [AV.cells, AV.one, Value.oneCell', splice, AV.kill, AV.clean, cleanL, AV.only]) (by simp [AV.cells, AV.leaf, Value.oneCell', splice, AV.kill, AV.clean, cleanL, AV.only]) rfl ?_
            refine aops_any ?_
            refine aany_step 1 [] (by kernel_rfl) ⟨?_, trivial⟩
            ·
              refine ⟨_, rfl, rfl, ?_⟩
              refine aop_of_aops (ops := #[]) rfl ?_
              first | refine x_pure rfl (p_loads rfl Try.g23 Try.c23 rfl rfl) ?_ | refine x_pure rfl (p_loadsr rfl Try.g23 Try.c23 rfl rfl rfl) ?_
              refine aops_any ?_
              refine aany_le ?_ hj
              exact le_mem ⟨rfl, rfl, rfl, rfl, rfl, rfl, trivial⟩ (by intro g; first | rfl | exact look_swap (by decide))
      ·
        refine ⟨_, rfl, rfl, ?_⟩
        refine aop_of_aops (ops := #[]) rfl ?_
        refine x_alloc hf rfl rfl rfl Try.z24 ?_
        refine aops_any ?_
        refine aany_step 1 [2] (by kernel_rfl) ⟨?_, ?_, trivial⟩
        ·
          refine ⟨_, rfl, rfl, ?_⟩
          refine aop_of_aops (ops := #[]) rfl ?_
          first | refine x_pure rfl (p_loads rfl Try.g23 Try.c23 rfl rfl) ?_ | refine x_pure rfl (p_loadsr rfl Try.g23 Try.c23 rfl rfl rfl) ?_
          refine aops_any ?_
          refine aany_step 2 [] (by kernel_rfl) ⟨?_, trivial⟩
          ·
            refine ⟨_, rfl, rfl, ?_⟩
            refine aop_of_aops (ops := #[]) rfl ?_
            refine x_alloc hf rfl rfl rfl Try.z24 ?_
            refine aops_any ?_
            refine aany_step 4 [] (by kernel_rfl) ⟨?_, trivial⟩
            ·
              refine ⟨_, rfl, rfl, ?_⟩
              refine aop_of_aops (ops := #[]) rfl ?_
              refine x_store hf rfl rfl Try.c24 rfl rfl (by simp [AV.cells, AV.one, Value.oneCell', splice, AV.kill, AV.clean, cleanL, AV.only]) (by simp [AV.cells, AV.leaf, Value.oneCell', splice, AV.kill, AV.clean, cleanL, AV.only]) rfl ?_
              refine aops_any ?_
              refine aany_le ?_ hj
              exact le_mem ⟨rfl, rfl, rfl, rfl, rfl, rfl, trivial⟩ (by intro g; first | rfl | exact look_swap (by decide))
        ·
          refine ⟨_, rfl, rfl, ?_⟩
          refine aop_of_aops (ops := #[]) rfl ?_
          refine x_alloc hf rfl rfl rfl Try.z24 ?_
          refine aops_any ?_
          refine aany_step 1 [4] (by kernel_rfl) ⟨?_, ?_, trivial⟩
          ·
            refine ⟨_, rfl, rfl, ?_⟩
            refine aop_of_aops (ops := #[]) rfl ?_
            first | refine x_pure rfl (p_loads rfl Try.g23 Try.c23 rfl rfl) ?_ | refine x_pure rfl (p_loadsr rfl Try.g23 Try.c23 rfl rfl rfl) ?_
            refine aops_any ?_
            refine aany_step 4 [] (by kernel_rfl) ⟨?_, trivial⟩
            ·
              refine ⟨_, rfl, rfl, ?_⟩
              refine aop_of_aops (ops := #[]) rfl ?_
              refine x_store hf rfl rfl Try.c24 rfl rfl (by simp [AV.cells, AV.one, Value.oneCell', splice, AV.kill, AV.clean, cleanL, AV.only]) (by simp [AV.cells, AV.leaf, Value.oneCell', splice, AV.kill, AV.clean, cleanL, AV.only]) rfl ?_
              refine aops_any ?_
              refine aany_le ?_ hj
              exact le_mem ⟨rfl, rfl, rfl, rfl, rfl, rfl, trivial⟩ (by intro g; first | rfl | exact look_swap (by decide))
          ·
            refine ⟨_, rfl, rfl, ?_⟩
            refine aop_of_aops (ops := #[]) rfl ?_
            refine x_store hf rfl rfl Try.c24 rfl rfl (by simp [AV.cells, AV.one, Value.oneCell', splice, AV.kill, AV.clean, cleanL, AV.only]) (by simp [AV.cells, AV.leaf, Value.oneCell', splice, AV.kill, AV.clean, cleanL, AV.only]) rfl ?_
            refine aops_any ?_
            refine aany_step 1 [] (by kernel_rfl) ⟨?_, trivial⟩
            ·
              refine ⟨_, rfl, rfl, ?_⟩
              refine aop_of_aops (ops := #[]) rfl ?_
              first | refine x_pure rfl (p_loads rfl Try.g23 Try.c23 rfl rfl) ?_ | refine x_pure rfl (p_loadsr rfl Try.g23 Try.c23 rfl rfl rfl) ?_
              refine aops_any ?_
              refine aany_le ?_ hj
              exact le_mem ⟨rfl, rfl, rfl, rfl, rfl, rfl, trivial⟩ (by intro g; first | rfl | exact look_swap (by decide))
    ·
      refine ⟨_, rfl, rfl, ?_⟩
      refine aop_of_aops (ops := #[]) rfl ?_
      first | refine x_pure rfl (p_loads rfl Try.g23 Try.c23 rfl rfl) ?_ | refine x_pure rfl (p_loadsr rfl Try.g23 Try.c23 rfl rfl rfl) ?_
      refine aops_any ?_
      refine aany_step 0 [2, 3] (by kernel_rfl) ⟨?_, ?_, ?_, trivial⟩
      ·
        refine ⟨_, rfl, rfl, ?_⟩
        refine aop_of_aops (ops := #[]) rfl ?_
        first | refine x_pure rfl (p_loads rfl Try.g23 Try.c23 rfl rfl) ?_ | refine x_pure rfl (p_loadsr rfl Try.g23 Try.c23 rfl rfl rfl) ?_
        refine aops_any ?_
        refine aany_step 2 [3] (by kernel_rfl) ⟨?_, ?_, trivial⟩
        ·
          refine ⟨_, rfl, rfl, ?_⟩
          refine aop_of_aops (ops := #[]) rfl ?_
          refine x_alloc hf rfl rfl rfl Try.z24 ?_
          refine aops_any ?_
          refine aany_step 3 [] (by kernel_rfl) ⟨?_, trivial⟩
          ·
            refine ⟨_, rfl, rfl, ?_⟩
            refine aop_of_aops (ops := #[]) rfl ?_
            refine x_alloc hf rfl rfl rfl Try.z24 ?_
            refine aops_any ?_
            refine aany_step 4 [] (by kernel_rfl) ⟨?_, trivial⟩
            ·
              refine ⟨_, rfl, rfl, ?_⟩
              refine aop_of_aops (ops := #[]) rfl ?_
              refine x_store hf rfl rfl Try.c24 rfl rfl (by simp [AV.cells, AV.one, Value.oneCell', splice, AV.kill, AV.clean, cleanL, AV.only]) (by simp [AV.cells, AV.leaf, Value.oneCell', splice, AV.kill, AV.clean, cleanL, AV.only]) rfl ?_
              refine aops_any ?_
              refine aany_le ?_ hj
              exact le_mem ⟨rfl, rfl, rfl, rfl, rfl, rfl, trivial⟩ (by intro g; first | rfl | exact look_swap (by decide))
        ·
          refine ⟨_, rfl, rfl, ?_⟩
          refine aop_of_aops (ops := #[]) rfl ?_
          refine x_alloc hf rfl rfl rfl Try.z24 ?_
          refine aops_any ?_
          refine aany_step 2 [] (by kernel_rfl) ⟨?_, trivial⟩
          ·
            refine ⟨_, rfl, rfl, ?_⟩
            refine aop_of_aops (ops := #[]) rfl ?_
            refine x_alloc hf rfl rfl rfl Try.z24 ?_
            refine aops_any ?_
            refine aany_step 4 [] (by kernel_rfl) ⟨?_, trivial⟩
            ·
              refine ⟨_, rfl, rfl, ?_⟩
              refine aop_of_aops (ops := #[]) rfl ?_
              refine x_store hf rfl rfl Try.c24 rfl rfl (by simp [AV.cells, AV.one, Value.oneCell', splice, AV.kill, AV.clean, cleanL, AV.only]) (by simp [AV.cells, AV.leaf, Value.oneCell', splice, AV.kill, AV.clean, cleanL, AV.only]) rfl ?_
              refine aops_any ?_
              refine aany_le ?_ hj
              exact le_mem ⟨rfl, rfl, rfl, rfl, rfl, rfl, trivial⟩ (by intro g; first | rfl | exact look_swap (by decide))
      ·
        refine ⟨_, rfl, rfl, ?_⟩
        refine aop_of_aops (ops := #[]) rfl ?_
        refine x_alloc hf rfl rfl rfl Try.z24 ?_
        refine aops_any ?_
        refine aany_step 0 [3] (by kernel_rfl) ⟨?_, ?_, trivial⟩
        ·
          refine ⟨_, rfl, rfl, ?_⟩
          refine aop_of_aops (ops := #[]) rfl ?_
          first | refine x_pure rfl (p_loads rfl Try.g23 Try.c23 rfl rfl) ?_ | refine x_pure rfl (p_loadsr rfl Try.g23 Try.c23 rfl rfl rfl) ?_
          refine aops_any ?_
          refine aany_step 3 [] (by kernel_rfl) ⟨?_, trivial⟩
          ·
            refine ⟨_, rfl, rfl, ?_⟩
            refine aop_of_aops (ops := #[]) rfl ?_
            refine x_alloc hf rfl rfl rfl Try.z24 ?_
            refine aops_any ?_
            refine aany_step 4 [] (by kernel_rfl) ⟨?_, trivial⟩
            ·
              refine ⟨_, rfl, rfl, ?_⟩
              refine aop_of_aops (ops := #[]) rfl ?_
              refine x_store hf rfl rfl Try.c24 rfl rfl (by simp [AV.cells, AV.one, Value.oneCell', splice, AV.kill, AV.clean, cleanL, AV.only]) (by simp [AV.cells, AV.leaf, Value.oneCell', splice, AV.kill, AV.clean, cleanL, AV.only]) rfl ?_
              refine aops_any ?_
              refine aany_le ?_ hj
              exact le_mem ⟨rfl, rfl, rfl, rfl, rfl, rfl, trivial⟩ (by intro g; first | rfl | exact look_swap (by decide))
        ·
          refine ⟨_, rfl, rfl, ?_⟩
          refine aop_of_aops (ops := #[]) rfl ?_
          refine x_alloc hf rfl rfl rfl Try.z24 ?_
          refine aops_any ?_
          refine aany_step 0 [] (by kernel_rfl) ⟨?_, trivial⟩
          ·
            refine ⟨_, rfl, rfl, ?_⟩
            refine aop_of_aops (ops := #[]) rfl ?_
            first | refine x_pure rfl (p_loads rfl Try.g23 Try.c23 rfl rfl) ?_ | refine x_pure rfl (p_loadsr rfl Try.g23 Try.c23 rfl rfl rfl) ?_
            refine aops_any ?_
            refine aany_step 4 [] (by kernel_rfl) ⟨?_, trivial⟩
            ·
              refine ⟨_, rfl, rfl, ?_⟩
              refine aop_of_aops (ops := #[]) rfl ?_
              refine x_store hf rfl rfl Try.c24 rfl rfl (by simp [AV.cells, AV.one, Value.oneCell', splice, AV.kill, AV.clean, cleanL, AV.only]) (by simp [AV.cells, AV.leaf, Value.oneCell', splice, AV.kill, AV.clean, cleanL, AV.only]) rfl ?_
              refine aops_any ?_
              refine aany_le ?_ hj
              exact le_mem ⟨rfl, rfl, rfl, rfl, rfl, rfl, trivial⟩ (by intro g; first | rfl | exact look_swap (by decide))
      ·
        refine ⟨_, rfl, rfl, ?_⟩
        refine aop_of_aops (ops := #[]) rfl ?_
        refine x_alloc hf rfl rfl rfl Try.z24 ?_
        refine aops_any ?_
        refine aany_step 0 [2] (by kernel_rfl) ⟨?_, ?_, trivial⟩
        ·
          refine ⟨_, rfl, rfl, ?_⟩
          refine aop_of_aops (ops := #[]) rfl ?_
          first | refine x_pure rfl (p_loads rfl Try.g23 Try.c23 rfl rfl) ?_ | refine x_pure rfl (p_loadsr rfl Try.g23 Try.c23 rfl rfl rfl) ?_
          refine aops_any ?_
          refine aany_step 2 [] (by kernel_rfl) ⟨?_, trivial⟩
          ·
            refine ⟨_, rfl, rfl, ?_⟩
            refine aop_of_aops (ops := #[]) rfl ?_
            refine x_alloc hf rfl rfl rfl Try.z24 ?_
            refine aops_any ?_
            refine aany_step 4 [] (by kernel_rfl) ⟨?_, trivial⟩
            ·
              refine ⟨_, rfl, rfl, ?_⟩
              refine aop_of_aops (ops := #[]) rfl ?_
              refine x_store hf rfl rfl Try.c24 rfl rfl (by simp [AV.cells, AV.one, Value.oneCell', splice, AV.kill, AV.clean, cleanL, AV.only]) (by simp [AV.cells, AV.leaf, Value.oneCell', splice, AV.kill, AV.clean, cleanL, AV.only]) rfl ?_
              refine aops_any ?_
              refine aany_le ?_ hj
              exact le_mem ⟨rfl, rfl, rfl, rfl, rfl, rfl, trivial⟩ (by intro g; first | rfl | exact look_swap (by decide))
        ·
          refine ⟨_, rfl, rfl, ?_⟩
          refine aop_of_aops (ops := #[]) rfl ?_
          refine x_alloc hf rfl rfl rfl Try.z24 ?_
          refine aops_any ?_
          refine aany_step 0 [] (by kernel_rfl) ⟨?_, trivial⟩
          ·
            refine ⟨_, rfl, rfl, ?_⟩
            refine aop_of_aops (ops := #[]) rfl ?_
            first | refine x_pure rfl (p_loads rfl Try.g23 Try.c23 rfl rfl) ?_ | refine x_pure rfl (p_loadsr rfl Try.g23 Try.c23 rfl rfl rfl) ?_
            refine aops_any ?_
            refine aany_step 4 [] (by kernel_rfl) ⟨?_, trivial⟩
            ·
              refine ⟨_, rfl, rfl, ?_⟩
              refine aop_of_aops (ops := #[]) rfl ?_
              refine x_store hf rfl rfl Try.c24 rfl rfl (by simp [AV.cells, AV.one, Value.oneCell', splice, AV.kill, AV.clean, cleanL, AV.only]) (by simp [AV.cells, AV.leaf, Value.oneCell', splice, AV.kill, AV.clean, cleanL, AV.only]) rfl ?_
              refine aops_any ?_
              refine aany_le ?_ hj
              exact le_mem ⟨rfl, rfl, rfl, rfl, rfl, rfl, trivial⟩ (by intro g; first | rfl | exact look_swap (by decide))
    ·
      refine ⟨_, rfl, rfl, ?_⟩
      refine aop_of_aops (ops := #[]) rfl ?_
      refine x_alloc hf rfl rfl rfl Try.z24 ?_
      refine aops_any ?_
      refine aany_step 0 [1, 3] (by kernel_rfl) ⟨?_, ?_, ?_, trivial⟩
      ·
        refine ⟨_, rfl, rfl, ?_⟩
        refine aop_of_aops (ops := #[]) rfl ?_
        first | refine x_pure rfl (p_loads rfl Try.g23 Try.c23 rfl rfl) ?_ | refine x_pure rfl (p_loadsr rfl Try.g23 Try.c23 rfl rfl rfl) ?_
        refine aops_any ?_
        refine aany_step 1 [3] (by kernel_rfl) ⟨?_, ?_, trivial⟩
        ·
          refine ⟨_, rfl, rfl, ?_⟩
          refine aop_of_aops (ops := #[]) rfl ?_
          first | refine x_pure rfl (p_loads rfl Try.g23 Try.c23 rfl rfl) ?_ | refine x_pure rfl (p_loadsr rfl Try.g23 Try.c23 rfl rfl rfl) ?_
          refine aops_any ?_
          refine aany_step 3 [] (by kernel_rfl) ⟨?_, trivial⟩
          ·
            refine ⟨_, rfl, rfl, ?_⟩
            refine aop_of_aops (ops := #[]) rfl ?_
            refine x_alloc hf rfl rfl rfl Try.z24 ?_
            refine aops_any ?_
            refine aany_step 4 [] (by kernel_rfl) ⟨?_, trivial⟩
            ·
              refine ⟨_, rfl, rfl, ?_⟩
              refine aop_of_aops (ops := #[]) rfl ?_
              refine x_store hf rfl rfl Try.c24 rfl rfl (by simp [AV.cells, AV.one, Value.oneCell', splice, AV.kill, AV.clean, cleanL, AV.only]) (by simp [AV.cells, AV.leaf, Value.oneCell', splice, AV.kill, AV.clean, cleanL, AV.only]) rfl ?_
              refine aops_any ?_
              refine aany_le ?_ hj
              exact le_mem ⟨rfl, rfl, rfl, rfl, rfl, rfl, trivial⟩ (by intro g; first | rfl | exact look_swap (by decide))
        ·
          refine ⟨_, rfl, rfl, ?_⟩
          refine aop_of_aops (ops := #[]) rfl ?_
          refine x_alloc hf rfl rfl rfl Try.z24 ?_
          refine aops_any ?_
          refine aany_step 1 [4] (by kernel_rfl) ⟨?_, ?_, trivial⟩
          ·
            refine ⟨_, rfl, rfl, ?_⟩
            refine aop_of_aops (ops := #[]) rfl ?_
            first | refine x_pure rfl (p_loads rfl Try.g23 Try.c23 rfl rfl) ?_ | refine x_pure rfl (p_loadsr rfl Try.g23 Try.c23 rfl rfl rfl) ?_
            refine aops_any ?_
            refine aany_step 4 [] (by kernel_rfl) ⟨?_, trivial⟩
            ·
              refine ⟨_, rfl, rfl, ?_⟩
              refine aop_of_aops (ops := #[]) rfl ?_
              refine x_store hf rfl rfl Try.c24 rfl rfl (by simp [AV.cells, AV.one, Value.oneCell', splice, AV.kill, AV.clean, cleanL, AV.only]) (by simp [AV.cells, AV.leaf, Value.oneCell', splice, AV.kill, AV.clean, cleanL, AV.only]) rfl ?_
              refine aops_any ?_
              refine aany_le ?_ hj
              exact le_mem ⟨rfl, rfl, rfl, rfl, rfl, rfl, trivial⟩ (by intro g; first | rfl | exact look_swap (by decide))
          ·
            refine ⟨_, rfl, rfl, ?_⟩
            refine aop_of_aops (ops := #[]) rfl ?_
            refine x_store hf rfl rfl Try.c24 rfl rfl (by simp [AV.cells, AV.one, Value.oneCell', splice, AV.kill, AV.clean, cleanL, AV.only]) (by simp [AV.cells, AV.leaf, Value.oneCell', splice, AV.kill, AV.clean, cleanL, AV.only]) rfl ?_
            refine aops_any ?_
            refine aany_step 1 [] (by kernel_rfl) ⟨?_, trivial⟩
            ·
              refine ⟨_, rfl, rfl, ?_⟩
              refine aop_of_aops (ops := #[]) rfl ?_
              first | refine x_pure rfl (p_loads rfl Try.g23 Try.c23 rfl rfl) ?_ | refine x_pure rfl (p_loadsr rfl Try.g23 Try.c23 rfl rfl rfl) ?_
              refine aops_any ?_
              refine aany_le ?_ hj
              exact le_mem ⟨rfl, rfl, rfl, rfl, rfl, rfl, trivial⟩ (by intro g; first | rfl | exact look_swap (by decide))
      ·
        refine ⟨_, rfl, rfl, ?_⟩
        refine aop_of_aops (ops := #[]) rfl ?_
        first | refine x_pure rfl (p_loads rfl Try.g23 Try.c23 rfl rfl) ?_ | refine x_pure rfl (p_loadsr rfl Try.g23 Try.c23 rfl rfl rfl) ?_
        refine aops_any ?_
        refine aany_step 0 [3] (by kernel_rfl) ⟨?_, ?_, trivial⟩
        ·
          refine ⟨_, rfl, rfl, ?_⟩
          refine aop_of_aops (ops := #[]) rfl ?_
          first | refine x_pure rfl (p_loads rfl Try.g23 Try.c23 rfl rfl) ?_ | refine x_pure rfl (p_loadsr rfl Try.g23 Try.c23 rfl rfl rfl) ?_
          refine aops_any ?_
          refine aany_step 3 [] (by kernel_rfl) ⟨?_, trivial⟩
          ·
            refine ⟨_, rfl, rfl, ?_⟩
            refine aop_of_aops (ops := #[]) rfl ?_
            refine x_alloc hf rfl rfl rfl Try.z24 ?_
            refine aops_any ?_
            refine aany_step 4 [] (by kernel_rfl) ⟨?_, trivial⟩
            ·
              refine ⟨_, rfl, rfl, ?_⟩
              refine aop_of_aops (ops := #[]) rfl ?_
              refine x_store hf rfl rfl Try.c24 rfl rfl (by simp [AV.cells, AV.one, Value.oneCell', splice, AV.kill, AV.clean, cleanL, AV.only]) (by simp [AV.cells, AV.leaf, Value.oneCell', splice, AV.kill, AV.clean, cleanL, AV.only]) rfl ?_
              refine aops_any ?_
              refine aany_le ?_ hj
              exact le_mem ⟨rfl, rfl, rfl, rfl, rfl, rfl, trivial⟩ (by intro g; first | rfl | exact look_swap (by decide))
        ·
          refine ⟨_, rfl, rfl, ?_⟩
          refine aop_of_aops (ops := #[]) rfl ?_
          refine x_alloc hf rfl rfl rfl Try.z24 ?_
          refine aops_any ?_
          refine aany_step 0 [] (by kernel_rfl) ⟨?_, trivial⟩
          ·
            refine ⟨_, rfl, rfl, ?_⟩
            refine aop_of_aops (ops := #[]) rfl ?_
            first | refine x_pure rfl (p_loads rfl Try.g23 Try.c23 rfl rfl) ?_ | refine x_pure rfl (p_loadsr rfl Try.g23 Try.c23 rfl rfl rfl) ?_
            refine aops_any ?_
            refine aany_step 4 [] (by kernel_rfl) ⟨?_, trivial⟩
            ·
              refine ⟨_, rfl, rfl, ?_⟩
              refine aop_of_aops (ops := #[]) rfl ?_
              refine x_store hf rfl rfl Try.c24 rfl rfl (by simp [AV.cells, AV.one, Value.oneCell', splice, AV.kill, AV.clean, cleanL, AV.only]) (by simp [AV.cells, AV.leaf, Value.oneCell', splice, AV.kill, AV.clean, cleanL, AV.only]) rfl ?_
              refine aops_any ?_
              refine aany_le ?_ hj
              exact le_mem ⟨rfl, rfl, rfl, rfl, rfl, rfl, trivial⟩ (by intro g; first | rfl | exact look_swap (by decide))
      ·
        refine ⟨_, rfl, rfl, ?_⟩
        refine aop_of_aops (ops := #[]) rfl ?_
        refine x_alloc hf rfl rfl rfl Try.z24 ?_
        refine aops_any ?_
        refine aany_step 0 [1] (by kernel_rfl) ⟨?_, ?_, trivial⟩
        ·
          refine ⟨_, rfl, rfl, ?_⟩
          refine aop_of_aops (ops := #[]) rfl ?_
          first | refine x_pure rfl (p_loads rfl Try.g23 Try.c23 rfl rfl) ?_ | refine x_pure rfl (p_loadsr rfl Try.g23 Try.c23 rfl rfl rfl) ?_
          refine aops_any ?_
          refine aany_step 1 [4] (by kernel_rfl) ⟨?_, ?_, trivial⟩
          ·
            refine ⟨_, rfl, rfl, ?_⟩
            refine aop_of_aops (ops := #[]) rfl ?_
            first | refine x_pure rfl (p_loads rfl Try.g23 Try.c23 rfl rfl) ?_ | refine x_pure rfl (p_loadsr rfl Try.g23 Try.c23 rfl rfl rfl) ?_
            refine aops_any ?_
            refine aany_step 4 [] (by kernel_rfl) ⟨?_, trivial⟩
            ·
              refine ⟨_, rfl, rfl, ?_⟩
              refine aop_of_aops (ops := #[]) rfl ?_
              refine x_store hf rfl rfl Try.c24 rfl rfl (by simp [AV.cells, AV.one, Value.oneCell', splice, AV.kill, AV.clean, cleanL, AV.only]) (by simp [AV.cells, AV.leaf, Value.oneCell', splice, AV.kill, AV.clean, cleanL, AV.only]) rfl ?_
              refine aops_any ?_
              refine aany_le ?_ hj
              exact le_mem ⟨rfl, rfl, rfl, rfl, rfl, rfl, trivial⟩ (by intro g; first | rfl | exact look_swap (by decide))
          ·
            refine ⟨_, rfl, rfl, ?_⟩
            refine aop_of_aops (ops := #[]) rfl ?_
            refine x_store hf rfl rfl Try.c24 rfl rfl (by simp [AV.cells, AV.one, Value.oneCell', splice, AV.kill, AV.clean, cleanL, AV.only]) (by simp [AV.cells, AV.leaf, Value.oneCell', splice, AV.kill, AV.clean, cleanL, AV.only]) rfl ?_
            refine aops_any ?_
            refine aany_step 1 [] (by kernel_rfl) ⟨?_, trivial⟩
            ·
              refine ⟨_, rfl, rfl, ?_⟩
              refine aop_of_aops (ops := #[]) rfl ?_
              first | refine x_pure rfl (p_loads rfl Try.g23 Try.c23 rfl rfl) ?_ | refine x_pure rfl (p_loadsr rfl Try.g23 Try.c23 rfl rfl rfl) ?_
              refine aops_any ?_
              refine aany_le ?_ hj
              exact le_mem ⟨rfl, rfl, rfl, rfl, rfl, rfl, trivial⟩ (by intro g; first | rfl | exact look_swap (by decide))
        ·
          refine ⟨_, rfl, rfl, ?_⟩
          refine aop_of_aops (ops := #[]) rfl ?_
          first | refine x_pure rfl (p_loads rfl Try.g23 Try.c23 rfl rfl) ?_ | refine x_pure rfl (p_loadsr rfl Try.g23 Try.c23 rfl rfl rfl) ?_
          refine aops_any ?_
          refine aany_step 0 [] (by kernel_rfl) ⟨?_, trivial⟩
          ·
            refine ⟨_, rfl, rfl, ?_⟩
            refine aop_of_aops (ops := #[]) rfl ?_
            first | refine x_pure rfl (p_loads rfl Try.g23 Try.c23 rfl rfl) ?_ | refine x_pure rfl (p_loadsr rfl Try.g23 Try.c23 rfl rfl rfl) ?_
            refine aops_any ?_
            refine aany_step 4 [] (by kernel_rfl) ⟨?_, trivial⟩
            ·
              refine ⟨_, rfl, rfl, ?_⟩
              refine aop_of_aops (ops := #[]) rfl ?_
              refine x_store hf rfl rfl Try.c24 rfl rfl (by simp [AV.cells, AV.one, Value.oneCell', splice, AV.kill, AV.clean, cleanL, AV.only]) (by simp [AV.cells, AV.leaf, Value.oneCell', splice, AV.kill, AV.clean, cleanL, AV.only]) rfl ?_
              refine aops_any ?_
              refine aany_le ?_ hj
              exact le_mem ⟨rfl, rfl, rfl, rfl, rfl, rfl, trivial⟩ (by intro g; first | rfl | exact look_swap (by decide))
    ·
      refine ⟨_, rfl, rfl, ?_⟩
      refine aop_of_aops (ops := #[]) rfl ?_
      refine x_alloc hf rfl rfl rfl Try.z24 ?_
      refine aops_any ?_
      refine aany_step 0 [1, 2] (by kernel_rfl) ⟨?_, ?_, ?_, trivial⟩
      ·
        refine ⟨_, rfl, rfl, ?_⟩
        refine aop_of_aops (ops := #[]) rfl ?_
        first | refine x_pure rfl (p_loads rfl Try.g23 Try.c23 rfl rfl) ?_ | refine x_pure rfl (p_loadsr rfl Try.g23 Try.c23 rfl rfl rfl) ?_
        refine aops_any ?_
        refine aany_step 1 [2] (by kernel_rfl) ⟨?_, ?_, trivial⟩
        ·
          refine ⟨_, rfl, rfl, ?_⟩
          refine aop_of_aops (ops := #[]) rfl ?_
          first | refine x_pure rfl (p_loads rfl Try.g23 Try.c23 rfl rfl) ?_ | refine x_pure rfl (p_loadsr rfl Try.g23 Try.c23 rfl rfl rfl) ?_
          refine aops_any ?_
          refine aany_step 2 [] (by kernel_rfl) ⟨?_, trivial⟩
          ·
            refine ⟨_, rfl, rfl, ?_⟩
            refine aop_of_aops (ops := #[]) rfl ?_
            refine x_alloc hf rfl rfl rfl Try.z24 ?_
            refine aops_any ?_
            refine aany_step 4 [] (by kernel_rfl) ⟨?_, trivial⟩
            ·
              refine ⟨_, rfl, rfl, ?_⟩
              refine aop_of_aops (ops := #[]) rfl ?_
              refine x_store hf rfl rfl Try.c24 rfl rfl (by simp [AV.cells, AV.one, Value.oneCell', splice, AV.kill, AV.clean, cleanL, AV.only]) (by simp [AV.cells, AV.leaf, Value.oneCell', splice, AV.kill, AV.clean, cleanL, AV.only]) rfl ?_
              refine aops_any ?_
              refine aany_le ?_ hj
              exact le_mem ⟨rfl, rfl, rfl, rfl, rfl, rfl, trivial⟩ (by intro g; first | rfl | exact look_swap (by decide))
        ·
          refine ⟨_, rfl, rfl, ?_⟩
          refine aop_of_aops (ops := #[]) rfl ?_
          refine x_alloc hf rfl rfl rfl Try.z24 ?_
          refine aops_any ?_
          refine aany_step 1 [4] (by kernel_rfl) ⟨?_, ?_, trivial⟩
          ·
            refine ⟨_, rfl, rfl, ?_⟩
            refine aop_of_aops (ops := #[]) rfl ?_
            first | refine x_pure rfl (p_loads rfl Try.g23 Try.c23 rfl rfl) ?_ | refine x_pure rfl (p_loadsr rfl Try.g23 Try.c23 rfl rfl rfl) ?_
            refine aops_any ?_
            refine aany_step 4 [] (by kernel_rfl) ⟨?_, trivial⟩
            ·
              refine ⟨_, rfl, rfl, ?_⟩
              refine aop_of_aops (ops := #[]) rfl ?_
              refine x_store hf rfl rfl Try.c24 rfl rfl (by simp [AV.cells, AV.one, Value.oneCell', splice, AV.kill, AV.clean, cleanL, AV.only]) (by simp [AV.cells, AV.leaf, Value.oneCell', splice, AV.kill, AV.clean, cleanL, AV.only]) rfl ?_
              refine aops_any ?_
              refine aany_le ?_ hj
              exact le_mem ⟨rfl, rfl, rfl, rfl, rfl, rfl, trivial⟩ (by intro g; first | rfl | exact look_swap (by decide))
          ·
            refine ⟨_, rfl, rfl, ?_⟩
            refine aop_of_aops (ops := #[]) rfl ?_
            refine x_store hf rfl rfl Try.c24 rfl rfl (by simp [AV.cells, AV.one, Value.oneCell', splice, AV.kill, AV.clean, cleanL, AV.only]) (by simp [AV.cells, AV.leaf, Value.oneCell', splice, AV.kill, AV.clean, cleanL, AV.only]) rfl ?_
            refine aops_any ?_
            refine aany_step 1 [] (by kernel_rfl) ⟨?_, trivial⟩
            ·
              refine ⟨_, rfl, rfl, ?_⟩
              refine aop_of_aops (ops := #[]) rfl ?_
              first | refine x_pure rfl (p_loads rfl Try.g23 Try.c23 rfl rfl) ?_ | refine x_pure rfl (p_loadsr rfl Try.g23 Try.c23 rfl rfl rfl) ?_
              refine aops_any ?_
              refine aany_le ?_ hj
              exact le_mem ⟨rfl, rfl, rfl, rfl, rfl, rfl, trivial⟩ (by intro g; first | rfl | exact look_swap (by decide))
      ·
        refine ⟨_, rfl, rfl, ?_⟩
        refine aop_of_aops (ops := #[]) rfl ?_
        first | refine x_pure rfl (p_loads rfl Try.g23 Try.c23 rfl rfl) ?_ | refine x_pure rfl (p_loadsr rfl Try.g23 Try.c23 rfl rfl rfl) ?_
        refine aops_any ?_
        refine aany_step 0 [2] (by kernel_rfl) ⟨?_, ?_, trivial⟩
        ·
          refine ⟨_, rfl, rfl, ?_⟩
          refine aop_of_aops (ops := #[]) rfl ?_
          first | refine x_pure rfl (p_loads rfl Try.g23 Try.c23 rfl rfl) ?_ | refine x_pure rfl (p_loadsr rfl Try.g23 Try.c23 rfl rfl rfl) ?_
          refine aops_any ?_
          refine aany_step 2 [] (by kernel_rfl) ⟨?_, trivial⟩
          ·
            refine ⟨_, rfl, rfl, ?_⟩
            refine aop_of_aops (ops := #[]) rfl ?_
            refine x_alloc hf rfl rfl rfl Try.z24 ?_
            refine aops_any ?_
            refine aany_step 4 [] (by kernel_rfl) ⟨?_, trivial⟩
            ·
              refine ⟨_, rfl, rfl, ?_⟩
              refine aop_of_aops (ops := #[]) rfl ?_
              refine x_store hf rfl rfl Try.c24 rfl rfl (by simp [AV.cells, AV.one, Value.oneCell', splice, AV.kill, AV.clean, cleanL, AV.only]) (by simp [AV.cells, AV.leaf, Value.oneCell', splice, AV.kill, AV.clean, cleanL, AV.only]) rfl ?_
              refine aops_any ?_
              refine aany_le ?_ hj
              exact le_mem ⟨rfl, rfl, rfl, rfl, rfl, rfl, trivial⟩ (by intro g; first | rfl | exact look_swap (by decide))
        ·
          refine ⟨_, rfl, rfl, ?_⟩
          refine aop_of_aops (ops := #[]) rfl ?_
          refine x_alloc hf rfl rfl rfl Try.z24 ?_
          refine aops_any ?_
          refine aany_step 0 [] (by kernel_rfl) ⟨?_, trivial⟩
          ·
            refine ⟨_, rfl, rfl, ?_⟩
            refine aop_of_aops (ops := #[]) rfl ?_
            first | refine x_pure rfl (p_loads rfl Try.g23 Try.c23 rfl rfl) ?_ | refine x_pure rfl (p_loadsr rfl Try.g23 Try.c23 rfl rfl rfl) ?_
            refine aops_any ?_
            refine aany_step 4 [] (by kernel_rfl) ⟨?_, trivial⟩
            ·
              refine ⟨_, rfl, rfl, ?_⟩
              refine aop_of_aops (ops := #[]) rfl ?_
              refine x_store hf rfl rfl Try.c24 rfl rfl (by simp [AV.cells, AV.one, Value.oneCell', splice, AV.kill, AV.clean, cleanL, AV.only]) (by simp [AV.cells, AV.leaf, Value.oneCell', splice, AV.kill, AV.clean, cleanL, AV.only]) rfl ?_
              refine aops_any ?_
              refine aany_le ?_ hj
              exact le_mem ⟨rfl, rfl, rfl, rfl, rfl, rfl, trivial⟩ (by intro g; first | rfl | exact look_swap (by decide))
      ·
        refine ⟨_, rfl, rfl, ?_⟩
        refine aop_of_aops (ops := #[]) rfl ?_
        refine x_alloc hf rfl rfl rfl Try.z24 ?_
        refine aops_any ?_
        refine aany_step 0 [1] (by kernel_rfl) ⟨?_, ?_, trivial⟩
        ·
          refine ⟨_, rfl, rfl, ?_⟩
          refine aop_of_aops (ops := #[]) rfl ?_
          first | refine x_pure rfl (p_loads rfl Try.g23 Try.c23 rfl rfl) ?_ | refine x_pure rfl (p_loadsr rfl Try.g23 Try.c23 rfl rfl rfl) ?_
          refine aops_any ?_
          refine aany_step 1 [4] (by kernel_rfl) ⟨?_, ?_, trivial⟩
          ·
            refine ⟨_, rfl, rfl, ?_⟩
            refine aop_of_aops (ops := #[]) rfl ?_
            first | refine x_pure rfl (p_loads rfl Try.g23 Try.c23 rfl rfl) ?_ | refine x_pure rfl (p_loadsr rfl Try.g23 Try.c23 rfl rfl rfl) ?_
            refine aops_any ?_
            refine aany_step 4 [] (by kernel_rfl) ⟨?_, trivial⟩
            ·
              refine ⟨_, rfl, rfl, ?_⟩
              refine aop_of_aops (ops := #[]) rfl ?_
              refine x_store hf rfl rfl Try.c24 rfl rfl (by simp [AV.cells, AV.one, Value.oneCell', splice, AV.kill, AV.clean, cleanL, AV.only]) (by simp [AV.cells, AV.leaf, Value.oneCell', splice, AV.kill, AV.clean, cleanL, AV.only]) rfl ?_
              refine aops_any ?_
              refine aany_le ?_ hj
              exact le_mem ⟨rfl, rfl, rfl, rfl, rfl, rfl, trivial⟩ (by intro g; first | rfl | exact look_swap (by decide))
          ·
            refine ⟨_, rfl, rfl, ?_⟩
            refine aop_of_aops (ops := #[]) rfl ?_
            refine x_store hf rfl rfl Try.c24 rfl rfl (by simp [AV.cells, AV.one, Value.oneCell', splice, AV.kill, AV.clean, cleanL, AV.only]) (by simp [AV.cells, AV.leaf, Value.oneCell', splice, AV.kill, AV.clean, cleanL, AV.only]) rfl ?_
            refine aops_any ?_
            refine aany_step 1 [] (by kernel_rfl) ⟨?_, trivial⟩
            ·
              refine ⟨_, rfl, rfl, ?_⟩
              refine aop_of_aops (ops := #[]) rfl ?_
              first | refine x_pure rfl (p_loads rfl Try.g23 Try.c23 rfl rfl) ?_ | refine x_pure rfl (p_loadsr rfl Try.g23 Try.c23 rfl rfl rfl) ?_
              refine aops_any ?_
              refine aany_le ?_ hj
              exact le_mem ⟨rfl, rfl, rfl, rfl, rfl, rfl, trivial⟩ (by intro g; first | rfl | exact look_swap (by decide))
        ·
          refine ⟨_, rfl, rfl, ?_⟩
          refine aop_of_aops (ops := #[]) rfl ?_
          first | refine x_pure rfl (p_loads rfl Try.g23 Try.c23 rfl rfl) ?_ | refine x_pure rfl (p_loadsr rfl Try.g23 Try.c23 rfl rfl rfl) ?_
          refine aops_any ?_
          refine aany_step 0 [] (by kernel_rfl) ⟨?_, trivial⟩
          ·
            refine ⟨_, rfl, rfl, ?_⟩
            refine aop_of_aops (ops := #[]) rfl ?_
            first | refine x_pure rfl (p_loads rfl Try.g23 Try.c23 rfl rfl) ?_ | refine x_pure rfl (p_loadsr rfl Try.g23 Try.c23 rfl rfl rfl) ?_
            refine aops_any ?_
            refine aany_step 4 [] (by kernel_rfl) ⟨?_, trivial⟩
            ·
              refine ⟨_, rfl, rfl, ?_⟩
              refine aop_of_aops (ops := #[]) rfl ?_
              refine x_store hf rfl rfl Try.c24 rfl rfl (by simp [AV.cells, AV.one, Value.oneCell', splice, AV.kill, AV.clean, cleanL, AV.only]) (by simp [AV.cells, AV.leaf, Value.oneCell', splice, AV.kill, AV.clean, cleanL, AV.only]) rfl ?_
              refine aops_any ?_
              refine aany_le ?_ hj
              exact le_mem ⟨rfl, rfl, rfl, rfl, rfl, rfl, trivial⟩ (by intro g; first | rfl | exact look_swap (by decide))
  refine aany_step 5 [] (by kernel_rfl) ⟨?_, trivial⟩
  ·
    refine ⟨_, rfl, rfl, ?_⟩
    refine aop_of_aops (ops := #[]) rfl ?_
    refine x_store hf rfl rfl Try.c24 rfl rfl (by simp [AV.cells, AV.one, Value.oneCell', splice, AV.kill, AV.clean, cleanL, AV.only]) (by simp [AV.cells, AV.leaf, Value.oneCell', splice, AV.kill, AV.clean, cleanL, AV.only]) rfl ?_
    refine aops_any ?_
    refine aany_end (by kernel_rfl) ?_
    refine hK2 _ ?_
    refine aw_seq_k (fun K3 hK3 => ?_)
    refine aw_region ?_
    refine aops_le (le_freeze (sl' := [(2, .s (.string s)), (3, .adr [.s (.string p1), .s (.string p2)]), (4, .adr [.s (.string q1), .s (.string q2)]), (7, .adr [.s (.string p1), .s (.string p2)]), (8, .adr [.s (.string q1), .s (.string q2)])]) ⟨⟨_, rfl, rfl⟩, ⟨_, rfl, rfl⟩, ⟨_, rfl, rfl⟩, ⟨_, rfl, rfl⟩, ⟨_, rfl, rfl⟩, trivial⟩) ?_
    refine x_pure rfl (p_assign rfl) ?_
    first | refine aops_end ?_ | refine aops_nil ?_
    refine hK3 _ ?_
    refine aw_seq_k (fun K4 hK4 => ?_)
    refine aw_seq_k (fun K5 hK5 => ?_)
    refine aw_region ?_
    first | refine x_pure rfl (p_loads rfl Try.g23 Try.c23 rfl rfl) ?_ | refine x_pure rfl (p_loadsr rfl Try.g23 Try.c23 rfl rfl rfl) ?_
    first | refine x_pure rfl (p_loads rfl Try.g23 Try.c23 rfl rfl) ?_ | refine x_pure rfl (p_loadsr rfl Try.g23 Try.c23 rfl rfl rfl) ?_
    refine x_step hf rfl (r_call rfl rfl Try.ent14 rfl (ahead_den p1 p2 q1 q2 hp1 hp2 hq1 hq2)) ?_
    first | refine aops_end ?_ | refine aops_nil ?_
    refine hK5 _ ?_
    refine aw_cond_s rfl (fun hc1 => ?_) (fun hc1 => ?_)
    ·
      try simp only [Bool.not_eq_true', Bool.not_eq_false', Bool.not_true, Bool.not_false, Bool.not_not, decide_eq_true_eq, decide_eq_false_iff_not, beq_iff_eq, beq_eq_false_iff_ne, bne_iff_ne, bne_eq_false_iff_eq, ne_eq, Int.not_lt, Int.not_le, Nat.not_lt, Nat.not_le, gt_iff_lt, ge_iff_le, Bool.and_eq_true, Bool.or_eq_true, Int.ofNat_lt, Int.ofNat_le, Int.natCast_inj, strs_len, ints_len, List.length_cons, List.length_nil] at hc1
      refine aw_region ?_
      refine x_pure rfl (p_assign rfl) ?_
      first | refine aops_end ?_ | refine aops_nil ?_
      refine hK4 _ ?_
      refine aw_seq_k (fun K6 hK6 => ?_)
      refine aw_seq_k (fun K7 hK7 => ?_)
      refine aw_region ?_
      first | refine x_pure rfl (p_loads rfl Try.g23 Try.c23 rfl rfl) ?_ | refine x_pure rfl (p_loadsr rfl Try.g23 Try.c23 rfl rfl rfl) ?_
      first | refine x_pure rfl (p_loads rfl Try.g23 Try.c23 rfl rfl) ?_ | refine x_pure rfl (p_loadsr rfl Try.g23 Try.c23 rfl rfl rfl) ?_
      refine x_step hf rfl (r_call rfl rfl Try.ent14 rfl (ahead_den q1 q2 p1 p2 hq1 hq2 hp1 hp2)) ?_
      first | refine aops_end ?_ | refine aops_nil ?_
      refine hK7 _ ?_
      refine aw_cond_s rfl (fun hc2 => ?_) (fun hc2 => ?_)
      ·
        try simp only [Bool.not_eq_true', Bool.not_eq_false', Bool.not_true, Bool.not_false, Bool.not_not, decide_eq_true_eq, decide_eq_false_iff_not, beq_iff_eq, beq_eq_false_iff_ne, bne_iff_ne, bne_eq_false_iff_eq, ne_eq, Int.not_lt, Int.not_le, Nat.not_lt, Nat.not_le, gt_iff_lt, ge_iff_le, Bool.and_eq_true, Bool.or_eq_true, Int.ofNat_lt, Int.ofNat_le, Int.natCast_inj, strs_len, ints_len, List.length_cons, List.length_nil] at hc2
        refine aw_region ?_
        refine x_pure rfl (p_assign rfl) ?_
        first | refine aops_end ?_ | refine aops_nil ?_
        refine hK6 _ ?_
        refine aw_seq_k (fun K8 hK8 => ?_)
        refine aw_draw hf Try.mixed (by kernel_rfl) rfl ?_
        refine d_rstep [] rfl rfl trivial rfl (r_call rfl rfl Try.ent15 rfl (alive_den)) ?_
        refine d_pure [(18, _)] rfl rfl ⟨⟨rfl, rfl⟩, trivial⟩ rfl (p_move rfl) ?_
        first | refine d_pure [(7, _)] rfl rfl ⟨⟨rfl, rfl⟩, trivial⟩ rfl (p_loads rfl Try.g24 Try.c24 rfl rfl) ?_ | refine d_pure [(7, _)] rfl rfl ⟨⟨rfl, rfl⟩, trivial⟩ rfl (p_loadsr rfl Try.g24 Try.c24 rfl rfl rfl) ?_
        refine d_rstep [(20, _)] rfl rfl ⟨⟨rfl, rfl⟩, trivial⟩ rfl (r_call rfl rfl Try.ent16 rfl (pairRight_den p1 p2 hp1 hp2)) ?_
        first | refine d_pure [(3, _)] rfl rfl ⟨⟨rfl, rfl⟩, trivial⟩ rfl (p_fld_adr rfl Try.fd23_0 Try.c9 rfl) ?_ | refine d_pure [(3, _)] rfl rfl ⟨⟨rfl, rfl⟩, trivial⟩ rfl (p_fld_ref rfl Try.fd23_0 Try.c9 rfl) ?_
        first | refine d_pure [(22, _)] rfl rfl ⟨⟨rfl, rfl⟩, trivial⟩ rfl (p_load1 rfl Try.g9 rfl) ?_ | refine d_pure [(22, _)] rfl rfl ⟨⟨rfl, rfl⟩, trivial⟩ rfl (p_load1r rfl Try.g9 rfl rfl) ?_ | refine d_pure [(22, _)] rfl rfl ⟨⟨rfl, rfl⟩, trivial⟩ rfl (p_load1r rfl Try.g9 rfl (strs_ref (by simp only [List.length_cons] at *; omega))) ?_ | refine d_pure [(22, _)] rfl rfl ⟨⟨rfl, rfl⟩, trivial⟩ rfl (p_load1r rfl Try.g9 rfl (strs_ref (by omega))) ?_
        refine d_rstep [(23, _)] rfl rfl ⟨⟨rfl, rfl⟩, trivial⟩ rfl (r_call rfl rfl Try.ent17 rfl (refRight_den p1 hp1)) ?_
        refine d_pure [(24, _)] rfl rfl ⟨⟨rfl, rfl⟩, trivial⟩ rfl (p_move rfl) ?_
        refine d_split 25 true rfl (fun hg3 => ?_) (fun hg3 => ?_)
        ·
          try simp only [Bool.not_eq_true', Bool.not_eq_false', Bool.not_true, Bool.not_false, Bool.not_not, decide_eq_true_eq, decide_eq_false_iff_not, beq_iff_eq, beq_eq_false_iff_ne, bne_iff_ne, bne_eq_false_iff_eq, ne_eq, Int.not_lt, Int.not_le, Nat.not_lt, Nat.not_le, gt_iff_lt, ge_iff_le, Bool.and_eq_true, Bool.or_eq_true, Int.ofNat_lt, Int.ofNat_le, Int.natCast_inj, strs_len, ints_len, List.length_cons, List.length_nil] at hg3
          first | refine d_pure [(3, _)] rfl rfl ⟨⟨rfl, rfl⟩, trivial⟩ rfl (p_fld_adr rfl Try.fd23_1 Try.c9 rfl) ?_ | refine d_pure [(3, _)] rfl rfl ⟨⟨rfl, rfl⟩, trivial⟩ rfl (p_fld_ref rfl Try.fd23_1 Try.c9 rfl) ?_
          first | refine d_pure [(26, _)] rfl rfl ⟨⟨rfl, rfl⟩, trivial⟩ rfl (p_load1 rfl Try.g9 rfl) ?_ | refine d_pure [(26, _)] rfl rfl ⟨⟨rfl, rfl⟩, trivial⟩ rfl (p_load1r rfl Try.g9 rfl rfl) ?_ | refine d_pure [(26, _)] rfl rfl ⟨⟨rfl, rfl⟩, trivial⟩ rfl (p_load1r rfl Try.g9 rfl (strs_ref (by simp only [List.length_cons] at *; omega))) ?_ | refine d_pure [(26, _)] rfl rfl ⟨⟨rfl, rfl⟩, trivial⟩ rfl (p_load1r rfl Try.g9 rfl (strs_ref (by omega))) ?_
          refine d_rstep [(27, _)] rfl rfl ⟨⟨rfl, rfl⟩, trivial⟩ rfl (r_call rfl rfl Try.ent17 rfl (refRight_den p2 hp2)) ?_
          refine d_pure [(25, _), (28, _)] rfl rfl ⟨⟨rfl, rfl⟩, ⟨rfl, rfl⟩, trivial⟩ rfl (p_pick_t rfl rfl) ?_
          refine d_pure [(21, _), (29, _)] rfl rfl ⟨⟨rfl, rfl⟩, ⟨rfl, rfl⟩, trivial⟩ rfl (p_bin rfl rfl (booleq_t Try.underlying4 (by simp_all))) ?_
          refine d_pure [(19, _), (30, _)] rfl rfl ⟨⟨rfl, rfl⟩, ⟨rfl, rfl⟩, trivial⟩ rfl (p_pick_t rfl rfl) ?_
          refine d_pure [(31, _)] rfl rfl ⟨⟨rfl, rfl⟩, trivial⟩ rfl (p_move rfl) ?_
          first | refine d_pure [(7, _)] rfl rfl ⟨⟨rfl, rfl⟩, trivial⟩ rfl (p_loads rfl Try.g24 Try.c24 rfl rfl) ?_ | refine d_pure [(7, _)] rfl rfl ⟨⟨rfl, rfl⟩, trivial⟩ rfl (p_loadsr rfl Try.g24 Try.c24 rfl rfl rfl) ?_
          first | refine d_pure [(8, _)] rfl rfl ⟨⟨rfl, rfl⟩, trivial⟩ rfl (p_loads rfl Try.g24 Try.c24 rfl rfl) ?_ | refine d_pure [(8, _)] rfl rfl ⟨⟨rfl, rfl⟩, trivial⟩ rfl (p_loadsr rfl Try.g24 Try.c24 rfl rfl rfl) ?_
          refine d_rstep [(33, _), (34, _)] rfl rfl ⟨⟨rfl, rfl⟩, ⟨rfl, rfl⟩, trivial⟩ rfl (r_call rfl rfl Try.ent18 rfl (pairCmp_den p1 p2 q1 q2)) ?_
          refine d_pure [(9, _)] rfl rfl ⟨⟨rfl, rfl⟩, trivial⟩ rfl (p_move rfl) ?_
          refine d_pure [(35, _), (36, _)] rfl rfl ⟨⟨rfl, rfl⟩, ⟨rfl, rfl⟩, trivial⟩ rfl (p_bin rfl rfl (inteq_t (by rcases pair_cases p1 p2 q1 q2 with ⟨e1, e2, e3, e4⟩ | ⟨e1, e2, e3, e4⟩ | ⟨e1, e2, e3, e4⟩ <;> first | (simp_all; done) | (rw [e4]; rfl)))) ?_
          refine d_pure [(32, _), (37, _)] rfl rfl ⟨⟨rfl, rfl⟩, ⟨rfl, rfl⟩, trivial⟩ rfl (p_pick_t rfl rfl) ?_
          refine d_pure [(38, _)] rfl rfl ⟨⟨rfl, rfl⟩, trivial⟩ rfl (p_move rfl) ?_
          first | refine d_pure [(8, _)] rfl rfl ⟨⟨rfl, rfl⟩, trivial⟩ rfl (p_loads rfl Try.g24 Try.c24 rfl rfl) ?_ | refine d_pure [(8, _)] rfl rfl ⟨⟨rfl, rfl⟩, trivial⟩ rfl (p_loadsr rfl Try.g24 Try.c24 rfl rfl rfl) ?_
          first | refine d_pure [(7, _)] rfl rfl ⟨⟨rfl, rfl⟩, trivial⟩ rfl (p_loads rfl Try.g24 Try.c24 rfl rfl) ?_ | refine d_pure [(7, _)] rfl rfl ⟨⟨rfl, rfl⟩, trivial⟩ rfl (p_loadsr rfl Try.g24 Try.c24 rfl rfl rfl) ?_
          refine d_rstep [(40, _), (41, _)] rfl rfl ⟨⟨rfl, rfl⟩, ⟨rfl, rfl⟩, trivial⟩ rfl (r_call rfl rfl Try.ent18 rfl (pairCmp_den q1 q2 p1 p2)) ?_
          refine d_pure [(9, _)] rfl rfl ⟨⟨rfl, rfl⟩, trivial⟩ rfl (p_move rfl) ?_
          refine d_pure [(43, _)] rfl rfl ⟨⟨rfl, rfl⟩, trivial⟩ rfl (p_neg rfl) ?_
          refine d_pure [(42, _), (44, _)] rfl rfl ⟨⟨rfl, rfl⟩, ⟨rfl, rfl⟩, trivial⟩ rfl (p_bin rfl rfl (inteq_t (by rcases pair_cases p1 p2 q1 q2 with ⟨e1, e2, e3, e4⟩ | ⟨e1, e2, e3, e4⟩ | ⟨e1, e2, e3, e4⟩ <;> first | (simp_all; done) | (rw [e4]; rfl)))) ?_
          refine d_pure [(39, _), (45, _)] rfl rfl ⟨⟨rfl, rfl⟩, ⟨rfl, rfl⟩, trivial⟩ rfl (p_pick_t rfl rfl) ?_
          refine d_pure [(46, _)] rfl rfl ⟨⟨rfl, rfl⟩, trivial⟩ rfl (p_move rfl) ?_
          first | refine d_pure [(7, _)] rfl rfl ⟨⟨rfl, rfl⟩, trivial⟩ rfl (p_loads rfl Try.g24 Try.c24 rfl rfl) ?_ | refine d_pure [(7, _)] rfl rfl ⟨⟨rfl, rfl⟩, trivial⟩ rfl (p_loadsr rfl Try.g24 Try.c24 rfl rfl rfl) ?_
          refine d_pure [(2, _)] rfl rfl ⟨⟨rfl, rfl⟩, trivial⟩ rfl (p_move rfl) ?_
          refine d_rstep [(48, _), (49, _)] rfl rfl ⟨⟨rfl, rfl⟩, ⟨rfl, rfl⟩, trivial⟩ rfl (r_call rfl rfl Try.ent19 rfl (pairHas_den p1 p2 s)) ?_
          refine d_pure [(2, _)] rfl rfl ⟨⟨rfl, rfl⟩, trivial⟩ rfl (p_move rfl) ?_
          first | refine d_pure [(3, _)] rfl rfl ⟨⟨rfl, rfl⟩, trivial⟩ rfl (p_fld_adr rfl Try.fd23_0 Try.c9 rfl) ?_ | refine d_pure [(3, _)] rfl rfl ⟨⟨rfl, rfl⟩, trivial⟩ rfl (p_fld_ref rfl Try.fd23_0 Try.c9 rfl) ?_
          first | refine d_pure [(52, _)] rfl rfl ⟨⟨rfl, rfl⟩, trivial⟩ rfl (p_load1 rfl Try.g9 rfl) ?_ | refine d_pure [(52, _)] rfl rfl ⟨⟨rfl, rfl⟩, trivial⟩ rfl (p_load1r rfl Try.g9 rfl rfl) ?_ | refine d_pure [(52, _)] rfl rfl ⟨⟨rfl, rfl⟩, trivial⟩ rfl (p_load1r rfl Try.g9 rfl (strs_ref (by simp only [List.length_cons] at *; omega))) ?_ | refine d_pure [(52, _)] rfl rfl ⟨⟨rfl, rfl⟩, trivial⟩ rfl (p_load1r rfl Try.g9 rfl (strs_ref (by omega))) ?_
          refine d_pure [(51, _), (53, _)] rfl rfl ⟨⟨rfl, rfl⟩, ⟨rfl, rfl⟩, trivial⟩ rfl (p_bin rfl rfl rfl) ?_
          refine d_pure [(54, _)] rfl rfl ⟨⟨rfl, rfl⟩, trivial⟩ rfl (p_move rfl) ?_
          refine d_split 55 false rfl (fun hg4 => ?_) (fun hg4 => ?_)
          ·
            try simp only [Bool.not_eq_true', Bool.not_eq_false', Bool.not_true, Bool.not_false, Bool.not_not, decide_eq_true_eq, decide_eq_false_iff_not, beq_iff_eq, beq_eq_false_iff_ne, bne_iff_ne, bne_eq_false_iff_eq, ne_eq, Int.not_lt, Int.not_le, Nat.not_lt, Nat.not_le, gt_iff_lt, ge_iff_le, Bool.and_eq_true, Bool.or_eq_true, Int.ofNat_lt, Int.ofNat_le, Int.natCast_inj, strs_len, ints_len, List.length_cons, List.length_nil] at hg4
            refine d_pure [(2, _)] rfl rfl ⟨⟨rfl, rfl⟩, trivial⟩ rfl (p_move rfl) ?_
            first | refine d_pure [(3, _)] rfl rfl ⟨⟨rfl, rfl⟩, trivial⟩ rfl (p_fld_adr rfl Try.fd23_1 Try.c9 rfl) ?_ | refine d_pure [(3, _)] rfl rfl ⟨⟨rfl, rfl⟩, trivial⟩ rfl (p_fld_ref rfl Try.fd23_1 Try.c9 rfl) ?_
            first | refine d_pure [(57, _)] rfl rfl ⟨⟨rfl, rfl⟩, trivial⟩ rfl (p_load1 rfl Try.g9 rfl) ?_ | refine d_pure [(57, _)] rfl rfl ⟨⟨rfl, rfl⟩, trivial⟩ rfl (p_load1r rfl Try.g9 rfl rfl) ?_ | refine d_pure [(57, _)] rfl rfl ⟨⟨rfl, rfl⟩, trivial⟩ rfl (p_load1r rfl Try.g9 rfl (strs_ref (by simp only [List.length_cons] at *; omega))) ?_ | refine d_pure [(57, _)] rfl rfl ⟨⟨rfl, rfl⟩, trivial⟩ rfl (p_load1r rfl Try.g9 rfl (strs_ref (by omega))) ?_
            refine d_pure [(56, _), (58, _)] rfl rfl ⟨⟨rfl, rfl⟩, ⟨rfl, rfl⟩, trivial⟩ rfl (p_bin rfl rfl rfl) ?_
            refine d_pure [(55, _), (59, _)] rfl rfl ⟨⟨rfl, rfl⟩, ⟨rfl, rfl⟩, trivial⟩ rfl (p_pick_f rfl rfl) ?_
            refine d_pure [(50, _), (60, _)] rfl rfl ⟨⟨rfl, rfl⟩, ⟨rfl, rfl⟩, trivial⟩ rfl (p_bin rfl rfl (booleq_t Try.underlying4 (by first | exact has_t (by assumption) | exact has_f (by assumption)))) ?_
            refine d_pure [(47, _), (61, _)] rfl rfl ⟨⟨rfl, rfl⟩, ⟨rfl, rfl⟩, trivial⟩ rfl (p_pick_t rfl rfl) ?_
            refine d_pure [(62, _)] rfl rfl ⟨⟨rfl, rfl⟩, trivial⟩ rfl (p_move rfl) ?_
            first | refine d_pure [(7, _)] rfl rfl ⟨⟨rfl, rfl⟩, trivial⟩ rfl (p_loads rfl Try.g24 Try.c24 rfl rfl) ?_ | refine d_pure [(7, _)] rfl rfl ⟨⟨rfl, rfl⟩, trivial⟩ rfl (p_loadsr rfl Try.g24 Try.c24 rfl rfl rfl) ?_
            first | refine d_pure [(3, _)] rfl rfl ⟨⟨rfl, rfl⟩, trivial⟩ rfl (p_fld_adr rfl Try.fd23_1 Try.c9 rfl) ?_ | refine d_pure [(3, _)] rfl rfl ⟨⟨rfl, rfl⟩, trivial⟩ rfl (p_fld_ref rfl Try.fd23_1 Try.c9 rfl) ?_
            first | refine d_pure [(65, _)] rfl rfl ⟨⟨rfl, rfl⟩, trivial⟩ rfl (p_load1 rfl Try.g9 rfl) ?_ | refine d_pure [(65, _)] rfl rfl ⟨⟨rfl, rfl⟩, trivial⟩ rfl (p_load1r rfl Try.g9 rfl rfl) ?_ | refine d_pure [(65, _)] rfl rfl ⟨⟨rfl, rfl⟩, trivial⟩ rfl (p_load1r rfl Try.g9 rfl (strs_ref (by simp only [List.length_cons] at *; omega))) ?_ | refine d_pure [(65, _)] rfl rfl ⟨⟨rfl, rfl⟩, trivial⟩ rfl (p_load1r rfl Try.g9 rfl (strs_ref (by omega))) ?_
            refine d_rstep [(64, _), (66, _)] rfl rfl ⟨⟨rfl, rfl⟩, ⟨rfl, rfl⟩, trivial⟩ rfl (r_call rfl rfl Try.ent19 rfl ((show Den Try.prog _ _ (· = .s (.bool true)) from (pairHas_den p1 p2 p2).mono (fun r h => h.trans (by simp [hasB]))))) ?_
            refine d_pure [(63, _), (67, _)] rfl rfl ⟨⟨rfl, rfl⟩, ⟨rfl, rfl⟩, trivial⟩ rfl (p_pick_t rfl rfl) ?_
            refine d_pure [(68, _)] rfl rfl ⟨⟨rfl, rfl⟩, trivial⟩ rfl (p_assign rfl) ?_
            refine lex_end (sl' := [(6, _)]) rfl ⟨rfl, trivial⟩ rfl ?_
            refine hK8 _ ?_
            refine aw_ret ?_
            refine ⟨_, rfl, ?_⟩
            rfl
          ·
            try simp only [Bool.not_eq_true', Bool.not_eq_false', Bool.not_true, Bool.not_false, Bool.not_not, decide_eq_true_eq, decide_eq_false_iff_not, beq_iff_eq, beq_eq_false_iff_ne, bne_iff_ne, bne_eq_false_iff_eq, ne_eq, Int.not_lt, Int.not_le, Nat.not_lt, Nat.not_le, gt_iff_lt, ge_iff_le, Bool.and_eq_true, Bool.or_eq_true, Int.ofNat_lt, Int.ofNat_le, Int.natCast_inj, strs_len, ints_len, List.length_cons, List.length_nil] at hg4
            refine d_skip rfl rfl ?_
            refine d_skip rfl rfl ?_
            refine d_skip rfl rfl ?_
            refine d_skip rfl rfl ?_
            refine d_pure [(55, _), (59, _)] rfl rfl ⟨⟨rfl, rfl⟩, ⟨rfl, rfl⟩, trivial⟩ rfl (p_pick_t rfl rfl) ?_
            refine d_pure [(50, _), (60, _)] rfl rfl ⟨⟨rfl, rfl⟩, ⟨rfl, rfl⟩, trivial⟩ rfl (p_bin rfl rfl (booleq_t Try.underlying4 (by first | exact has_t (by assumption) | exact has_f (by assumption)))) ?_
            refine d_pure [(47, _), (61, _)] rfl rfl ⟨⟨rfl, rfl⟩, ⟨rfl, rfl⟩, trivial⟩ rfl (p_pick_t rfl rfl) ?_
            refine d_pure [(62, _)] rfl rfl ⟨⟨rfl, rfl⟩, trivial⟩ rfl (p_move rfl) ?_
            first | refine d_pure [(7, _)] rfl rfl ⟨⟨rfl, rfl⟩, trivial⟩ rfl (p_loads rfl Try.g24 Try.c24 rfl rfl) ?_ | refine d_pure [(7, _)] rfl rfl ⟨⟨rfl, rfl⟩, trivial⟩ rfl (p_loadsr rfl Try.g24 Try.c24 rfl rfl rfl) ?_
            first | refine d_pure [(3, _)] rfl rfl ⟨⟨rfl, rfl⟩, trivial⟩ rfl (p_fld_adr rfl Try.fd23_1 Try.c9 rfl) ?_ | refine d_pure [(3, _)] rfl rfl ⟨⟨rfl, rfl⟩, trivial⟩ rfl (p_fld_ref rfl Try.fd23_1 Try.c9 rfl) ?_
            first | refine d_pure [(65, _)] rfl rfl ⟨⟨rfl, rfl⟩, trivial⟩ rfl (p_load1 rfl Try.g9 rfl) ?_ | refine d_pure [(65, _)] rfl rfl ⟨⟨rfl, rfl⟩, trivial⟩ rfl (p_load1r rfl Try.g9 rfl rfl) ?_ | refine d_pure [(65, _)] rfl rfl ⟨⟨rfl, rfl⟩, trivial⟩ rfl (p_load1r rfl Try.g9 rfl (strs_ref (by simp only [List.length_cons] at *; omega))) ?_ | refine d_pure [(65, _)] rfl rfl ⟨⟨rfl, rfl⟩, trivial⟩ rfl (p_load1r rfl Try.g9 rfl (strs_ref (by omega))) ?_
            refine d_rstep [(64, _), (66, _)] rfl rfl ⟨⟨rfl, rfl⟩, ⟨rfl, rfl⟩, trivial⟩ rfl (r_call rfl rfl Try.ent19 rfl ((show Den Try.prog _ _ (· = .s (.bool true)) from (pairHas_den p1 p2 p2).mono (fun r h => h.trans (by simp [hasB]))))) ?_
            refine d_pure [(63, _), (67, _)] rfl rfl ⟨⟨rfl, rfl⟩, ⟨rfl, rfl⟩, trivial⟩ rfl (p_pick_t rfl rfl) ?_
            refine d_pure [(68, _)] rfl rfl ⟨⟨rfl, rfl⟩, trivial⟩ rfl (p_assign rfl) ?_
            refine lex_end (sl' := [(6, _)]) rfl ⟨rfl, trivial⟩ rfl ?_
            refine hK8 _ ?_
            refine aw_ret ?_
            refine ⟨_, rfl, ?_⟩
            rfl
        ·
          try simp only [Bool.not_eq_true', Bool.not_eq_false', Bool.not_true, Bool.not_false, Bool.not_not, decide_eq_true_eq, decide_eq_false_iff_not, beq_iff_eq, beq_eq_false_iff_ne, bne_iff_ne, bne_eq_false_iff_eq, ne_eq, Int.not_lt, Int.not_le, Nat.not_lt, Nat.not_le, gt_iff_lt, ge_iff_le, Bool.and_eq_true, Bool.or_eq_true, Int.ofNat_lt, Int.ofNat_le, Int.natCast_inj, strs_len, ints_len, List.length_cons, List.length_nil] at hg3
          refine d_skip rfl rfl ?_
          refine d_skip rfl rfl ?_
          refine d_skip rfl rfl ?_
          refine d_pure [(25, _), (28, _)] rfl rfl ⟨⟨rfl, rfl⟩, ⟨rfl, rfl⟩, trivial⟩ rfl (p_pick_f rfl rfl) ?_
          refine d_pure [(21, _), (29, _)] rfl rfl ⟨⟨rfl, rfl⟩, ⟨rfl, rfl⟩, trivial⟩ rfl (p_bin rfl rfl (booleq_t Try.underlying4 (by simp_all))) ?_
          refine d_pure [(19, _), (30, _)] rfl rfl ⟨⟨rfl, rfl⟩, ⟨rfl, rfl⟩, trivial⟩ rfl (p_pick_t rfl rfl) ?_
          refine d_pure [(31, _)] rfl rfl ⟨⟨rfl, rfl⟩, trivial⟩ rfl (p_move rfl) ?_
          first | refine d_pure [(7, _)] rfl rfl ⟨⟨rfl, rfl⟩, trivial⟩ rfl (p_loads rfl Try.g24 Try.c24 rfl rfl) ?_ | refine d_pure [(7, _)] rfl rfl ⟨⟨rfl, rfl⟩, trivial⟩ rfl (p_loadsr rfl Try.g24 Try.c24 rfl rfl rfl) ?_
          first | refine d_pure [(8, _)] rfl rfl ⟨⟨rfl, rfl⟩, trivial⟩ rfl (p_loads rfl Try.g24 Try.c24 rfl rfl) ?_ | refine d_pure [(8, _)] rfl rfl ⟨⟨rfl, rfl⟩, trivial⟩ rfl (p_loadsr rfl Try.g24 Try.c24 rfl rfl rfl) ?_
          refine d_rstep [(33, _), (34, _)] rfl rfl ⟨⟨rfl, rfl⟩, ⟨rfl, rfl⟩, trivial⟩ rfl (r_call rfl rfl Try.ent18 rfl (pairCmp_den p1 p2 q1 q2)) ?_
          refine d_pure [(9, _)] rfl rfl ⟨⟨rfl, rfl⟩, trivial⟩ rfl (p_move rfl) ?_
          refine d_pure [(35, _), (36, _)] rfl rfl ⟨⟨rfl, rfl⟩, ⟨rfl, rfl⟩, trivial⟩ rfl (p_bin rfl rfl (inteq_t (by rcases pair_cases p1 p2 q1 q2 with ⟨e1, e2, e3, e4⟩ | ⟨e1, e2, e3, e4⟩ | ⟨e1, e2, e3, e4⟩ <;> first | (simp_all; done) | (rw [e4]; rfl)))) ?_
          refine d_pure [(32, _), (37, _)] rfl rfl ⟨⟨rfl, rfl⟩, ⟨rfl, rfl⟩, trivial⟩ rfl (p_pick_t rfl rfl) ?_
          refine d_pure [(38, _)] rfl rfl ⟨⟨rfl, rfl⟩, trivial⟩ rfl (p_move rfl) ?_
          first | refine d_pure [(8, _)] rfl rfl ⟨⟨rfl, rfl⟩, trivial⟩ rfl (p_loads rfl Try.g24 Try.c24 rfl rfl) ?_ | refine d_pure [(8, _)] rfl rfl ⟨⟨rfl, rfl⟩, trivial⟩ rfl (p_loadsr rfl Try.g24 Try.c24 rfl rfl rfl) ?_
          first | refine d_pure [(7, _)] rfl rfl ⟨⟨rfl, rfl⟩, trivial⟩ rfl (p_loads rfl Try.g24 Try.c24 rfl rfl) ?_ | refine d_pure [(7, _)] rfl rfl ⟨⟨rfl, rfl⟩, trivial⟩ rfl (p_loadsr rfl Try.g24 Try.c24 rfl rfl rfl) ?_
          refine d_rstep [(40, _), (41, _)] rfl rfl ⟨⟨rfl, rfl⟩, ⟨rfl, rfl⟩, trivial⟩ rfl (r_call rfl rfl Try.ent18 rfl (pairCmp_den q1 q2 p1 p2)) ?_
          refine d_pure [(9, _)] rfl rfl ⟨⟨rfl, rfl⟩, trivial⟩ rfl (p_move rfl) ?_
          refine d_pure [(43, _)] rfl rfl ⟨⟨rfl, rfl⟩, trivial⟩ rfl (p_neg rfl) ?_
          refine d_pure [(42, _), (44, _)] rfl rfl ⟨⟨rfl, rfl⟩, ⟨rfl, rfl⟩, trivial⟩ rfl (p_bin rfl rfl (inteq_t (by rcases pair_cases p1 p2 q1 q2 with ⟨e1, e2, e3, e4⟩ | ⟨e1, e2, e3, e4⟩ | ⟨e1, e2, e3, e4⟩ <;> first | (simp_all; done) | (rw [e4]; rfl)))) ?_
          refine d_pure [(39, _), (45, _)] rfl rfl ⟨⟨rfl, rfl⟩, ⟨rfl, rfl⟩, trivial⟩ rfl (p_pick_t rfl rfl) ?_
          refine d_pure [(46, _)] rfl rfl ⟨⟨rfl, rfl⟩, trivial⟩ rfl (p_move rfl) ?_
          first | refine d_pure [(7, _)] rfl rfl ⟨⟨rfl, rfl⟩, trivial⟩ rfl (p_loads rfl Try.g24 Try.c24 rfl rfl) ?_ | refine d_pure [(7, _)] rfl rfl ⟨⟨rfl, rfl⟩, trivial⟩ rfl (p_loadsr rfl Try.g24 Try.c24 rfl rfl rfl) ?_
          refine d_pure [(2, _)] rfl rfl ⟨⟨rfl, rfl⟩, trivial⟩ rfl (p_move rfl) ?_
          refine d_rstep [(48, _), (49, _)] rfl rfl ⟨⟨rfl, rfl⟩, ⟨rfl, rfl⟩, trivial⟩ rfl (r_call rfl rfl Try.ent19 rfl (pairHas_den p1 p2 s)) ?_
          refine d_pure [(2, _)] rfl rfl ⟨⟨rfl, rfl⟩, trivial⟩ rfl (p_move rfl) ?_
          first | refine d_pure [(3, _)] rfl rfl ⟨⟨rfl, rfl⟩, trivial⟩ rfl (p_fld_adr rfl Try.fd23_0 Try.c9 rfl) ?_ | refine d_pure [(3, _)] rfl rfl ⟨⟨rfl, rfl⟩, trivial⟩ rfl (p_fld_ref rfl Try.fd23_0 Try.c9 rfl) ?_
          first | refine d_pure [(52, _)] rfl rfl ⟨⟨rfl, rfl⟩, trivial⟩ rfl (p_load1 rfl Try.g9 rfl) ?_ | refine d_pure [(52, _)] rfl rfl ⟨⟨rfl, rfl⟩, trivial⟩ rfl (p_load1r rfl Try.g9 rfl rfl) ?_ | refine d_pure [(52, _)] rfl rfl ⟨⟨rfl, rfl⟩, trivial⟩ rfl (p_load1r rfl Try.g9 rfl (strs_ref (by simp only [List.length_cons] at *; omega))) ?_ | refine d_pure [(52, _)] rfl rfl ⟨⟨rfl, rfl⟩, trivial⟩ rfl (p_load1r rfl Try.g9 rfl (strs_ref (by omega))) ?_
          refine d_pure [(51, _), (53, _)] rfl rfl ⟨⟨rfl, rfl⟩, ⟨rfl, rfl⟩, trivial⟩ rfl (p_bin rfl rfl rfl) ?_
          refine d_pure [(54, _)] rfl rfl ⟨⟨rfl, rfl⟩, trivial⟩ rfl (p_move rfl) ?_
          refine d_split 55 false rfl (fun hg5 => ?_) (fun hg5 => ?_)
          ·
            try simp only [Bool.not_eq_true', Bool.not_eq_false', Bool.not_true, Bool.not_false, Bool.not_not, decide_eq_true_eq, decide_eq_false_iff_not, beq_iff_eq, beq_eq_false_iff_ne, bne_iff_ne, bne_eq_false_iff_eq, ne_eq, Int.not_lt, Int.not_le, Nat.not_lt, Nat.not_le, gt_iff_lt, ge_iff_le, Bool.and_eq_true, Bool.or_eq_true, Int.ofNat_lt, Int.ofNat_le, Int.natCast_inj, strs_len, ints_len, List.length_cons, List.length_nil] at hg5
            refine d_pure [(2, _)] rfl rfl ⟨⟨rfl, rfl⟩, trivial⟩ rfl (p_move rfl) ?_
            first | refine d_pure [(3, _)] rfl rfl ⟨⟨rfl, rfl⟩, trivial⟩ rfl (p_fld_adr rfl Try.fd23_1 Try.c9 rfl) ?_ | refine d_pure [(3, _)] rfl rfl ⟨⟨rfl, rfl⟩, trivial⟩ rfl (p_fld_ref rfl Try.fd23_1 Try.c9 rfl) ?_
            first | refine d_pure [(57, _)] rfl rfl ⟨⟨rfl, rfl⟩, trivial⟩ rfl (p_load1 rfl Try.g9 rfl) ?_ | refine d_pure [(57, _)] rfl rfl ⟨⟨rfl, rfl⟩, trivial⟩ rfl (p_load1r rfl Try.g9 rfl rfl) ?_ | refine d_pure [(57, _)] rfl rfl ⟨⟨rfl, rfl⟩, trivial⟩ rfl (p_load1r rfl Try.g9 rfl (strs_ref (by simp only [List.length_cons] at *; omega))) ?_ | refine d_pure [(57, _)] rfl rfl ⟨⟨rfl, rfl⟩, trivial⟩ rfl (p_load1r rfl Try.g9 rfl (strs_ref (by omega))) ?_
            refine d_pure [(56, _), (58, _)] rfl rfl ⟨⟨rfl, rfl⟩, ⟨rfl, rfl⟩, trivial⟩ rfl (p_bin rfl rfl rfl) ?_
            refine d_pure [(55, _), (59, _)] rfl rfl ⟨⟨rfl, rfl⟩, ⟨rfl, rfl⟩, trivial⟩ rfl (p_pick_f rfl rfl) ?_
            refine d_pure [(50, _), (60, _)] rfl rfl ⟨⟨rfl, rfl⟩, ⟨rfl, rfl⟩, trivial⟩ rfl (p_bin rfl rfl (booleq_t Try.underlying4 (by first | exact has_t (by assumption) | exact has_f (by assumption)))) ?_
            refine d_pure [(47, _), (61, _)] rfl rfl ⟨⟨rfl, rfl⟩, ⟨rfl, rfl⟩, trivial⟩ rfl (p_pick_t rfl rfl) ?_
            refine d_pure [(62, _)] rfl rfl ⟨⟨rfl, rfl⟩, trivial⟩ rfl (p_move rfl) ?_
            first | refine d_pure [(7, _)] rfl rfl ⟨⟨rfl, rfl⟩, trivial⟩ rfl (p_loads rfl Try.g24 Try.c24 rfl rfl) ?_ | refine d_pure [(7, _)] rfl rfl ⟨⟨rfl, rfl⟩, trivial⟩ rfl (p_loadsr rfl Try.g24 Try.c24 rfl rfl rfl) ?_
            first | refine d_pure [(3, _)] rfl rfl ⟨⟨rfl, rfl⟩, trivial⟩ rfl (p_fld_adr rfl Try.fd23_1 Try.c9 rfl) ?_ | refine d_pure [(3, _)] rfl rfl ⟨⟨rfl, rfl⟩, trivial⟩ rfl (p_fld_ref rfl Try.fd23_1 Try.c9 rfl) ?_
            first | refine d_pure [(65, _)] rfl rfl ⟨⟨rfl, rfl⟩, trivial⟩ rfl (p_load1 rfl Try.g9 rfl) ?_ | refine d_pure [(65, _)] rfl rfl ⟨⟨rfl, rfl⟩, trivial⟩ rfl (p_load1r rfl Try.g9 rfl rfl) ?_ | refine d_pure [(65, _)] rfl rfl ⟨⟨rfl, rfl⟩, trivial⟩ rfl (p_load1r rfl Try.g9 rfl (strs_ref (by simp only [List.length_cons] at *; omega))) ?_ | refine d_pure [(65, _)] rfl rfl ⟨⟨rfl, rfl⟩, trivial⟩ rfl (p_load1r rfl Try.g9 rfl (strs_ref (by omega))) ?_
            refine d_rstep [(64, _), (66, _)] rfl rfl ⟨⟨rfl, rfl⟩, ⟨rfl, rfl⟩, trivial⟩ rfl (r_call rfl rfl Try.ent19 rfl ((show Den Try.prog _ _ (· = .s (.bool true)) from (pairHas_den p1 p2 p2).mono (fun r h => h.trans (by simp [hasB]))))) ?_
            refine d_pure [(63, _), (67, _)] rfl rfl ⟨⟨rfl, rfl⟩, ⟨rfl, rfl⟩, trivial⟩ rfl (p_pick_t rfl rfl) ?_
            refine d_pure [(68, _)] rfl rfl ⟨⟨rfl, rfl⟩, trivial⟩ rfl (p_assign rfl) ?_
            refine lex_end (sl' := [(6, _)]) rfl ⟨rfl, trivial⟩ rfl ?_
            refine hK8 _ ?_
            refine aw_ret ?_
            refine ⟨_, rfl, ?_⟩
            rfl
          ·
            try simp only [Bool.not_eq_true', Bool.not_eq_false', Bool.not_true, Bool.not_false, Bool.not_not, decide_eq_true_eq, decide_eq_false_iff_not, beq_iff_eq, beq_eq_false_iff_ne, bne_iff_ne, bne_eq_false_iff_eq, ne_eq, Int.not_lt, Int.not_le, Nat.not_lt, Nat.not_le, gt_iff_lt, ge_iff_le, Bool.and_eq_true, Bool.or_eq_true, Int.ofNat_lt, Int.ofNat_le, Int.natCast_inj, strs_len, ints_len, List.length_cons, List.length_nil] at hg5
            refine d_skip rfl rfl ?_
            refine d_skip rfl rfl ?_
            refine d_skip rfl rfl ?_
            refine d_skip rfl rfl ?_
            refine d_pure [(55, _), (59, _)] rfl rfl ⟨⟨rfl, rfl⟩, ⟨rfl, rfl⟩, trivial⟩ rfl (p_pick_t rfl rfl) ?_
            refine d_pure [(50, _), (60, _)] rfl rfl ⟨⟨rfl, rfl⟩, ⟨rfl, rfl⟩, trivial⟩ rfl (p_bin rfl rfl (booleq_t Try.underlying4 (by first | exact has_t (by assumption) | exact has_f (by assumption)))) ?_
            refine d_pure [(47, _), (61, _)] rfl rfl ⟨⟨rfl, rfl⟩, ⟨rfl, rfl⟩, trivial⟩ rfl (p_pick_t rfl rfl) ?_
            refine d_pure [(62, _)] rfl rfl ⟨⟨rfl, rfl⟩, trivial⟩ rfl (p_move rfl) ?_
            first | refine d_pure [(7, _)] rfl rfl ⟨⟨rfl, rfl⟩, trivial⟩ rfl (p_loads rfl Try.g24 Try.c24 rfl rfl) ?_ | refine d_pure [(7, _)] rfl rfl ⟨⟨rfl, rfl⟩, trivial⟩ rfl (p_loadsr rfl Try.g24 Try.c24 rfl rfl rfl) ?_
            first | refine d_pure [(3, _)] rfl rfl ⟨⟨rfl, rfl⟩, trivial⟩ rfl (p_fld_adr rfl Try.fd23_1 Try.c9 rfl) ?_ | refine d_pure [(3, _)] rfl rfl ⟨⟨rfl, rfl⟩, trivial⟩ rfl (p_fld_ref rfl Try.fd23_1 Try.c9 rfl) ?_
            first | refine d_pure [(65, _)] rfl rfl ⟨⟨rfl, rfl⟩, trivial⟩ rfl (p_load1 rfl Try.g9 rfl) ?_ | refine d_pure [(65, _)] rfl rfl ⟨⟨rfl, rfl⟩, trivial⟩ rfl (p_load1r rfl Try.g9 rfl rfl) ?_ | refine d_pure [(65, _)] rfl rfl ⟨⟨rfl, rfl⟩, trivial⟩ rfl (p_load1r rfl Try.g9 rfl (strs_ref (by simp only [List.length_cons] at *; omega))) ?_ | refine d_pure [(65, _)] rfl rfl ⟨⟨rfl, rfl⟩, trivial⟩ rfl (p_load1r rfl Try.g9 rfl (strs_ref (by omega))) ?_
            refine d_rstep [(64, _), (66, _)] rfl rfl ⟨⟨rfl, rfl⟩, ⟨rfl, rfl⟩, trivial⟩ rfl (r_call rfl rfl Try.ent19 rfl ((show Den Try.prog _ _ (· = .s (.bool true)) from (pairHas_den p1 p2 p2).mono (fun r h => h.trans (by simp [hasB]))))) ?_
            refine d_pure [(63, _), (67, _)] rfl rfl ⟨⟨rfl, rfl⟩, ⟨rfl, rfl⟩, trivial⟩ rfl (p_pick_t rfl rfl) ?_
            refine d_pure [(68, _)] rfl rfl ⟨⟨rfl, rfl⟩, trivial⟩ rfl (p_assign rfl) ?_
            refine lex_end (sl' := [(6, _)]) rfl ⟨rfl, trivial⟩ rfl ?_
            refine hK8 _ ?_
            refine aw_ret ?_
            refine ⟨_, rfl, ?_⟩
            rfl
      ·
        try simp only [Bool.not_eq_true', Bool.not_eq_false', Bool.not_true, Bool.not_false, Bool.not_not, decide_eq_true_eq, decide_eq_false_iff_not, beq_iff_eq, beq_eq_false_iff_ne, bne_iff_ne, bne_eq_false_iff_eq, ne_eq, Int.not_lt, Int.not_le, Nat.not_lt, Nat.not_le, gt_iff_lt, ge_iff_le, Bool.and_eq_true, Bool.or_eq_true, Int.ofNat_lt, Int.ofNat_le, Int.natCast_inj, strs_len, ints_len, List.length_cons, List.length_nil] at hc2
        refine aw_skip ?_
        refine hK6 _ ?_
        refine aw_seq_k (fun K9 hK9 => ?_)
        refine aw_draw hf Try.mixed (by kernel_rfl) rfl ?_
        refine d_rstep [] rfl rfl trivial rfl (r_call rfl rfl Try.ent15 rfl (alive_den)) ?_
        refine d_pure [(18, _)] rfl rfl ⟨⟨rfl, rfl⟩, trivial⟩ rfl (p_move rfl) ?_
        first | refine d_pure [(7, _)] rfl rfl ⟨⟨rfl, rfl⟩, trivial⟩ rfl (p_loads rfl Try.g24 Try.c24 rfl rfl) ?_ | refine d_pure [(7, _)] rfl rfl ⟨⟨rfl, rfl⟩, trivial⟩ rfl (p_loadsr rfl Try.g24 Try.c24 rfl rfl rfl) ?_
        refine d_rstep [(20, _)] rfl rfl ⟨⟨rfl, rfl⟩, trivial⟩ rfl (r_call rfl rfl Try.ent16 rfl (pairRight_den p1 p2 hp1 hp2)) ?_
        first | refine d_pure [(3, _)] rfl rfl ⟨⟨rfl, rfl⟩, trivial⟩ rfl (p_fld_adr rfl Try.fd23_0 Try.c9 rfl) ?_ | refine d_pure [(3, _)] rfl rfl ⟨⟨rfl, rfl⟩, trivial⟩ rfl (p_fld_ref rfl Try.fd23_0 Try.c9 rfl) ?_
        first | refine d_pure [(22, _)] rfl rfl ⟨⟨rfl, rfl⟩, trivial⟩ rfl (p_load1 rfl Try.g9 rfl) ?_ | refine d_pure [(22, _)] rfl rfl ⟨⟨rfl, rfl⟩, trivial⟩ rfl (p_load1r rfl Try.g9 rfl rfl) ?_ | refine d_pure [(22, _)] rfl rfl ⟨⟨rfl, rfl⟩, trivial⟩ rfl (p_load1r rfl Try.g9 rfl (strs_ref (by simp only [List.length_cons] at *; omega))) ?_ | refine d_pure [(22, _)] rfl rfl ⟨⟨rfl, rfl⟩, trivial⟩ rfl (p_load1r rfl Try.g9 rfl (strs_ref (by omega))) ?_
        refine d_rstep [(23, _)] rfl rfl ⟨⟨rfl, rfl⟩, trivial⟩ rfl (r_call rfl rfl Try.ent17 rfl (refRight_den p1 hp1)) ?_
        refine d_pure [(24, _)] rfl rfl ⟨⟨rfl, rfl⟩, trivial⟩ rfl (p_move rfl) ?_
        refine d_split 25 true rfl (fun hg6 => ?_) (fun hg6 => ?_)
        ·
          try simp only [Bool.not_eq_true', Bool.not_eq_false', Bool.not_true, Bool.not_false, Bool.not_not, decide_eq_true_eq, decide_eq_false_iff_not, beq_iff_eq, beq_eq_false_iff_ne, bne_iff_ne, bne_eq_false_iff_eq, ne_eq, Int.not_lt, Int.not_le, Nat.not_lt, Nat.not_le, gt_iff_lt, ge_iff_le, Bool.and_eq_true, Bool.or_eq_true, Int.ofNat_lt, Int.ofNat_le, Int.natCast_inj, strs_len, ints_len, List.length_cons, List.length_nil] at hg6
          first | refine d_pure [(3, _)] rfl rfl ⟨⟨rfl, rfl⟩, trivial⟩ rfl (p_fld_adr rfl Try.fd23_1 Try.c9 rfl) ?_ | refine d_pure [(3, _)] rfl rfl ⟨⟨rfl, rfl⟩, trivial⟩ rfl (p_fld_ref rfl Try.fd23_1 Try.c9 rfl) ?_
          first | refine d_pure [(26, _)] rfl rfl ⟨⟨rfl, rfl⟩, trivial⟩ rfl (p_load1 rfl Try.g9 rfl) ?_ | refine d_pure [(26, _)] rfl rfl ⟨⟨rfl, rfl⟩, trivial⟩ rfl (p_load1r rfl Try.g9 rfl rfl) ?_ | refine d_pure [(26, _)] rfl rfl ⟨⟨rfl, rfl⟩, trivial⟩ rfl (p_load1r rfl Try.g9 rfl (strs_ref (by simp only [List.length_cons] at *; omega))) ?_ | refine d_pure [(26, _)] rfl rfl ⟨⟨rfl, rfl⟩, trivial⟩ rfl (p_load1r rfl Try.g9 rfl (strs_ref (by omega))) ?_
          refine d_rstep [(27, _)] rfl rfl ⟨⟨rfl, rfl⟩, trivial⟩ rfl (r_call rfl rfl Try.ent17 rfl (refRight_den p2 hp2)) ?_
          refine d_pure [(25, _), (28, _)] rfl rfl ⟨⟨rfl, rfl⟩, ⟨rfl, rfl⟩, trivial⟩ rfl (p_pick_t rfl rfl) ?_
          refine d_pure [(21, _), (29, _)] rfl rfl ⟨⟨rfl, rfl⟩, ⟨rfl, rfl⟩, trivial⟩ rfl (p_bin rfl rfl (booleq_t Try.underlying4 (by simp_all))) ?_
          refine d_pure [(19, _), (30, _)] rfl rfl ⟨⟨rfl, rfl⟩, ⟨rfl, rfl⟩, trivial⟩ rfl (p_pick_t rfl rfl) ?_
          refine d_pure [(31, _)] rfl rfl ⟨⟨rfl, rfl⟩, trivial⟩ rfl (p_move rfl) ?_
          first | refine d_pure [(7, _)] rfl rfl ⟨⟨rfl, rfl⟩, trivial⟩ rfl (p_loads rfl Try.g24 Try.c24 rfl rfl) ?_ | refine d_pure [(7, _)] rfl rfl ⟨⟨rfl, rfl⟩, trivial⟩ rfl (p_loadsr rfl Try.g24 Try.c24 rfl rfl rfl) ?_
          first | refine d_pure [(8, _)] rfl rfl ⟨⟨rfl, rfl⟩, trivial⟩ rfl (p_loads rfl Try.g24 Try.c24 rfl rfl) ?_ | refine d_pure [(8, _)] rfl rfl ⟨⟨rfl, rfl⟩, trivial⟩ rfl (p_loadsr rfl Try.g24 Try.c24 rfl rfl rfl) ?_
          refine d_rstep [(33, _), (34, _)] rfl rfl ⟨⟨rfl, rfl⟩, ⟨rfl, rfl⟩, trivial⟩ rfl (r_call rfl rfl Try.ent18 rfl (pairCmp_den p1 p2 q1 q2)) ?_
          refine d_pure [(9, _)] rfl rfl ⟨⟨rfl, rfl⟩, trivial⟩ rfl (p_move rfl) ?_
          refine d_pure [(35, _), (36, _)] rfl rfl ⟨⟨rfl, rfl⟩, ⟨rfl, rfl⟩, trivial⟩ rfl (p_bin rfl rfl (inteq_t (by rcases pair_cases p1 p2 q1 q2 with ⟨e1, e2, e3, e4⟩ | ⟨e1, e2, e3, e4⟩ | ⟨e1, e2, e3, e4⟩ <;> first | (simp_all; done) | (rw [e4]; rfl)))) ?_
          refine d_pure [(32, _), (37, _)] rfl rfl ⟨⟨rfl, rfl⟩, ⟨rfl, rfl⟩, trivial⟩ rfl (p_pick_t rfl rfl) ?_
          refine d_pure [(38, _)] rfl rfl ⟨⟨rfl, rfl⟩, trivial⟩ rfl (p_move rfl) ?_
          first | refine d_pure [(8, _)] rfl rfl ⟨⟨rfl, rfl⟩, trivial⟩ rfl (p_loads rfl Try.g24 Try.c24 rfl rfl) ?_ | refine d_pure [(8, _)] rfl rfl ⟨⟨rfl, rfl⟩, trivial⟩ rfl (p_loadsr rfl Try.g24 Try.c24 rfl rfl rfl) ?_
          first | refine d_pure [(7, _)] rfl rfl ⟨⟨rfl, rfl⟩, trivial⟩ rfl (p_loads rfl Try.g24 Try.c24 rfl rfl) ?_ | refine d_pure [(7, _)] rfl rfl ⟨⟨rfl, rfl⟩, trivial⟩ rfl (p_loadsr rfl Try.g24 Try.c24 rfl rfl rfl) ?_
          refine d_rstep [(40, _), (41, _)] rfl rfl ⟨⟨rfl, rfl⟩, ⟨rfl, rfl⟩, trivial⟩ rfl (r_call rfl rfl Try.ent18 rfl (pairCmp_den q1 q2 p1 p2)) ?_
          refine d_pure [(9, _)] rfl rfl ⟨⟨rfl, rfl⟩, trivial⟩ rfl (p_move rfl) ?_
          refine d_pure [(43, _)] rfl rfl ⟨⟨rfl, rfl⟩, trivial⟩ rfl (p_neg rfl) ?_
          refine d_pure [(42, _), (44, _)] rfl rfl ⟨⟨rfl, rfl⟩, ⟨rfl, rfl⟩, trivial⟩ rfl (p_bin rfl rfl (inteq_t (by rcases pair_cases p1 p2 q1 q2 with ⟨e1, e2, e3, e4⟩ | ⟨e1, e2, e3, e4⟩ | ⟨e1, e2, e3, e4⟩ <;> first | (simp_all; done) | (rw [e4]; rfl)))) ?_
          refine d_pure [(39, _), (45, _)] rfl rfl ⟨⟨rfl, rfl⟩, ⟨rfl, rfl⟩, trivial⟩ rfl (p_pick_t rfl rfl) ?_
          refine d_pure [(46, _)] rfl rfl ⟨⟨rfl, rfl⟩, trivial⟩ rfl (p_move rfl) ?_
          first | refine d_pure [(7, _)] rfl rfl ⟨⟨rfl, rfl⟩, trivial⟩ rfl (p_loads rfl Try.g24 Try.c24 rfl rfl) ?_ | refine d_pure [(7, _)] rfl rfl ⟨⟨rfl, rfl⟩, trivial⟩ rfl (p_loadsr rfl Try.g24 Try.c24 rfl rfl rfl) ?_
          refine d_pure [(2, _)] rfl rfl ⟨⟨rfl, rfl⟩, trivial⟩ rfl (p_move rfl) ?_
          refine d_rstep [(48, _), (49, _)] rfl rfl ⟨⟨rfl, rfl⟩, ⟨rfl, rfl⟩, trivial⟩ rfl (r_call rfl rfl Try.ent19 rfl (pairHas_den p1 p2 s)) ?_
          refine d_pure [(2, _)] rfl rfl ⟨⟨rfl, rfl⟩, trivial⟩ rfl (p_move rfl) ?_
          first | refine d_pure [(3, _)] rfl rfl ⟨⟨rfl, rfl⟩, trivial⟩ rfl (p_fld_adr rfl Try.fd23_0 Try.c9 rfl) ?_ | refine d_pure [(3, _)] rfl rfl ⟨⟨rfl, rfl⟩, trivial⟩ rfl (p_fld_ref rfl Try.fd23_0 Try.c9 rfl) ?_
          first | refine d_pure [(52, _)] rfl rfl ⟨⟨rfl, rfl⟩, trivial⟩ rfl (p_load1 rfl Try.g9 rfl) ?_ | refine d_pure [(52, _)] rfl rfl ⟨⟨rfl, rfl⟩, trivial⟩ rfl (p_load1r rfl Try.g9 rfl rfl) ?_ | refine d_pure [(52, _)] rfl rfl ⟨⟨rfl, rfl⟩, trivial⟩ rfl (p_load1r rfl Try.g9 rfl (strs_ref (by simp only [List.length_cons] at *; omega))) ?_ | refine d_pure [(52, _)] rfl rfl ⟨⟨rfl, rfl⟩, trivial⟩ rfl (p_load1r rfl Try.g9 rfl (strs_ref (by omega))) ?_
          refine d_pure [(51, _), (53, _)] rfl rfl ⟨⟨rfl, rfl⟩, ⟨rfl, rfl⟩, trivial⟩ rfl (p_bin rfl rfl rfl) ?_
          refine d_pure [(54, _)] rfl rfl ⟨⟨rfl, rfl⟩, trivial⟩ rfl (p_move rfl) ?_
          refine d_split 55 false rfl (fun hg7 => ?_) (fun hg7 => ?_)
          ·
            try simp only [Bool.not_eq_true', Bool.not_eq_false', Bool.not_true, Bool.not_false, Bool.not_not, decide_eq_true_eq, decide_eq_false_iff_not, beq_iff_eq, beq_eq_false_iff_ne, bne_iff_ne, bne_eq_false_iff_eq, ne_eq, Int.not_lt, Int.not_le, Nat.not_lt, Nat.not_le, gt_iff_lt, ge_iff_le, Bool.and_eq_true, Bool.or_eq_true, Int.ofNat_lt, Int.ofNat_le, Int.natCast_inj, strs_len, ints_len, List.length_cons, List.length_nil] at hg7
            refine d_pure [(2, _)] rfl rfl ⟨⟨rfl, rfl⟩, trivial⟩ rfl (p_move rfl) ?_
            first | refine d_pure [(3, _)] rfl rfl ⟨⟨rfl, rfl⟩, trivial⟩ rfl (p_fld_adr rfl Try.fd23_1 Try.c9 rfl) ?_ | refine d_pure [(3, _)] rfl rfl ⟨⟨rfl, rfl⟩, trivial⟩ rfl (p_fld_ref rfl Try.fd23_1 Try.c9 rfl) ?_
            first | refine d_pure [(57, _)] rfl rfl ⟨⟨rfl, rfl⟩, trivial⟩ rfl (p_load1 rfl Try.g9 rfl) ?_ | refine d_pure [(57, _)] rfl rfl ⟨⟨rfl, rfl⟩, trivial⟩ rfl (p_load1r rfl Try.g9 rfl rfl) ?_ | refine d_pure [(57, _)] rfl rfl ⟨⟨rfl, rfl⟩, trivial⟩ rfl (p_load1r rfl Try.g9 rfl (strs_ref (by simp only [List.length_cons] at *; omega))) ?_ | refine d_pure [(57, _)] rfl rfl ⟨⟨rfl, rfl⟩, trivial⟩ rfl (p_load1r rfl Try.g9 rfl (strs_ref (by omega))) ?_
            refine d_pure [(56, _), (58, _)] rfl rfl ⟨⟨rfl, rfl⟩, ⟨rfl, rfl⟩, trivial⟩ rfl (p_bin rfl rfl rfl) ?_
            refine d_pure [(55, _), (59, _)] rfl rfl ⟨⟨rfl, rfl⟩, ⟨rfl, rfl⟩, trivial⟩ rfl (p_pick_f rfl rfl) ?_
            refine d_pure [(50, _), (60, _)] rfl rfl ⟨⟨rfl, rfl⟩, ⟨rfl, rfl⟩, trivial⟩ rfl (p_bin rfl rfl (booleq_t Try.underlying4 (by first | exact has_t (by assumption) | exact has_f (by assumption)))) ?_
            refine d_pure [(47, _), (61, _)] rfl rfl ⟨⟨rfl, rfl⟩, ⟨rfl, rfl⟩, trivial⟩ rfl (p_pick_t rfl rfl) ?_
            refine d_pure [(62, _)] rfl rfl ⟨⟨rfl, rfl⟩, trivial⟩ rfl (p_move rfl) ?_
            first | refine d_pure [(7, _)] rfl rfl ⟨⟨rfl, rfl⟩, trivial⟩ rfl (p_loads rfl Try.g24 Try.c24 rfl rfl) ?_ | refine d_pure [(7, _)] rfl rfl ⟨⟨rfl, rfl⟩, trivial⟩ rfl (p_loadsr rfl Try.g24 Try.c24 rfl rfl rfl) ?_
            first | refine d_pure [(3, _)] rfl rfl ⟨⟨rfl, rfl⟩, trivial⟩ rfl (p_fld_adr rfl Try.fd23_1 Try.c9 rfl) ?_ | refine d_pure [(3, _)] rfl rfl ⟨⟨rfl, rfl⟩, trivial⟩ rfl (p_fld_ref rfl Try.fd23_1 Try.c9 rfl) ?_
            first | refine d_pure [(65, _)] rfl rfl ⟨⟨rfl, rfl⟩, trivial⟩ rfl (p_load1 rfl Try.g9 rfl) ?_ | refine d_pure [(65, _)] rfl rfl ⟨⟨rfl, rfl⟩, trivial⟩ rfl (p_load1r rfl Try.g9 rfl rfl) ?_ | refine d_pure [(65, _)] rfl rfl ⟨⟨rfl, rfl⟩, trivial⟩ rfl (p_load1r rfl Try.g9 rfl (strs_ref (by simp only [List.length_cons] at *; omega))) ?_ | refine d_pure [(65, _)] rfl rfl ⟨⟨rfl, rfl⟩, trivial⟩ rfl (p_load1r rfl Try.g9 rfl (strs_ref (by omega))) ?_
            refine d_rstep [(64, _), (66, _)] rfl rfl ⟨⟨rfl, rfl⟩, ⟨rfl, rfl⟩, trivial⟩ rfl (r_call rfl rfl Try.ent19 rfl ((show Den Try.prog _ _ (· = .s (.bool true)) from (pairHas_den p1 p2 p2).mono (fun r h => h.trans (by simp [hasB]))))) ?_
            refine d_pure [(63, _), (67, _)] rfl rfl ⟨⟨rfl, rfl⟩, ⟨rfl, rfl⟩, trivial⟩ rfl (p_pick_t rfl rfl) ?_
            refine d_pure [(68, _)] rfl rfl ⟨⟨rfl, rfl⟩, trivial⟩ rfl (p_assign rfl) ?_
            refine lex_end (sl' := [(6, _)]) rfl ⟨rfl, trivial⟩ rfl ?_
            refine hK9 _ ?_
            refine aw_ret ?_
            refine ⟨_, rfl, ?_⟩
            rfl
          ·
            try simp only [Bool.not_eq_true', Bool.not_eq_false', Bool.not_true, Bool.not_false, Bool.not_not, decide_eq_true_eq, decide_eq_false_iff_not, beq_iff_eq, beq_eq_false_iff_ne, bne_iff_ne, bne_eq_false_iff_eq, ne_eq, Int.not_lt, Int.not_le, Nat.not_lt, Nat.not_le, gt_iff_lt, ge_iff_le, Bool.and_eq_true, Bool.or_eq_true, Int.ofNat_lt, Int.ofNat_le, Int.natCast_inj, strs_len, ints_len, List.length_cons, List.length_nil] at hg7
            refine d_skip rfl rfl ?_
            refine d_skip rfl rfl ?_
            refine d_skip rfl rfl ?_
            refine d_skip rfl rfl ?_
            refine d_pure [(55, _), (59, _)] rfl rfl ⟨⟨rfl, rfl⟩, ⟨rfl, rfl⟩, trivial⟩ rfl (p_pick_t rfl rfl) ?_
            refine d_pure [(50, _), (60, _)] rfl rfl ⟨⟨rfl, rfl⟩, ⟨rfl, rfl⟩, trivial⟩ rfl (p_bin rfl rfl (booleq_t Try.underlying4 (by first | exact has_t (by assumption) | exact has_f (by assumption)))) ?_
            refine d_pure [(47, _), (61, _)] rfl rfl ⟨⟨rfl, rfl⟩, ⟨rfl, rfl⟩, trivial⟩ rfl (p_pick_t rfl rfl) ?_
            refine d_pure [(62, _)] rfl rfl ⟨⟨rfl, rfl⟩, trivial⟩ rfl (p_move rfl) ?_
            first | refine d_pure [(7, _)] rfl rfl ⟨⟨rfl, rfl⟩, trivial⟩ rfl (p_loads rfl Try.g24 Try.c24 rfl rfl) ?_ | refine d_pure [(7, _)] rfl rfl ⟨⟨rfl, rfl⟩, trivial⟩ rfl (p_loadsr rfl Try.g24 Try.c24 rfl rfl rfl) ?_
            first | refine d_pure [(3, _)] rfl rfl ⟨⟨rfl, rfl⟩, trivial⟩ rfl (p_fld_adr rfl Try.fd23_1 Try.c9 rfl) ?_ | refine d_pure [(3, _)] rfl rfl ⟨⟨rfl, rfl⟩, trivial⟩ rfl (p_fld_ref rfl Try.fd23_1 Try.c9 rfl) ?_
            first | refine d_pure [(65, _)] rfl rfl ⟨⟨rfl, rfl⟩, trivial⟩ rfl (p_load1 rfl Try.g9 rfl) ?_ | refine d_pure [(65, _)] rfl rfl ⟨⟨rfl, rfl⟩, trivial⟩ rfl (p_load1r rfl Try.g9 rfl rfl) ?_ | refine d_pure [(65, _)] rfl rfl ⟨⟨rfl, rfl⟩, trivial⟩ rfl (p_load1r rfl Try.g9 rfl (strs_ref (by simp only [List.length_cons] at *; omega))) ?_ | refine d_pure [(65, _)] rfl rfl ⟨⟨rfl, rfl⟩, trivial⟩ rfl (p_load1r rfl Try.g9 rfl (strs_ref (by omega))) ?_
            refine d_rstep [(64, _), (66, _)] rfl rfl ⟨⟨rfl, rfl⟩, ⟨rfl, rfl⟩, trivial⟩ rfl (r_call rfl rfl Try.ent19 rfl ((show Den Try.prog _ _ (· = .s (.bool true)) from (pairHas_den p1 p2 p2).mono (fun r h => h.trans (by simp [hasB]))))) ?_
            refine d_pure [(63, _), (67, _)] rfl rfl ⟨⟨rfl, rfl⟩, ⟨rfl, rfl⟩, trivial⟩ rfl (p_pick_t rfl rfl) ?_
            refine d_pure [(68, _)] rfl rfl ⟨⟨rfl, rfl⟩, trivial⟩ rfl (p_assign rfl) ?_
            refine lex_end (sl' := [(6, _)]) rfl ⟨rfl, trivial⟩ rfl ?_
            refine hK9 _ ?_
            refine aw_ret ?_
            refine ⟨_, rfl, ?_⟩
            rfl
        ·
          try simp only [Bool.not_eq_true', Bool.not_eq_false', Bool.not_true, Bool.not_false, Bool.not_not, decide_eq_true_eq, decide_eq_false_iff_not, beq_iff_eq, beq_eq_false_iff_ne, bne_iff_ne, bne_eq_false_iff_eq, ne_eq, Int.not_lt, Int.not_le, Nat.not_lt, Nat.not_le, gt_iff_lt, ge_iff_le, Bool.and_eq_true, Bool.or_eq_true, Int.ofNat_lt, Int.ofNat_le, Int.natCast_inj, strs_len, ints_len, List.length_cons, List.length_nil] at hg6
          refine d_skip rfl rfl ?_
          refine d_skip rfl rfl ?_
          refine d_skip rfl rfl ?_
          refine d_pure [(25, _), (28, _)] rfl rfl ⟨⟨rfl, rfl⟩, ⟨rfl, rfl⟩, trivial⟩ rfl (p_pick_f rfl rfl) ?_
          refine d_pure [(21, _), (29, _)] rfl rfl ⟨⟨rfl, rfl⟩, ⟨rfl, rfl⟩, trivial⟩ rfl (p_bin rfl rfl (booleq_t Try.underlying4 (by simp_all))) ?_
          refine d_pure [(19, _), (30, _)] rfl rfl ⟨⟨rfl, rfl⟩, ⟨rfl, rfl⟩, trivial⟩ rfl (p_pick_t rfl rfl) ?_
          refine d_pure [(31, _)] rfl rfl ⟨⟨rfl, rfl⟩, trivial⟩ rfl (p_move rfl) ?_
          first | refine d_pure [(7, _)] rfl rfl ⟨⟨rfl, rfl⟩, trivial⟩ rfl (p_loads rfl Try.g24 Try.c24 rfl rfl) ?_ | refine d_pure [(7, _)] rfl rfl ⟨⟨rfl, rfl⟩, trivial⟩ rfl (p_loadsr rfl Try.g24 Try.c24 rfl rfl rfl) ?_
          first | refine d_pure [(8, _)] rfl rfl ⟨⟨rfl, rfl⟩, trivial⟩ rfl (p_loads rfl Try.g24 Try.c24 rfl rfl) ?_ | refine d_pure [(8, _)] rfl rfl ⟨⟨rfl, rfl⟩, trivial⟩ rfl (p_loadsr rfl Try.g24 Try.c24 rfl rfl rfl) ?_
          refine d_rstep [(33, _), (34, _)] rfl rfl ⟨⟨rfl, rfl⟩, ⟨rfl, rfl⟩, trivial⟩ rfl (r_call rfl rfl Try.ent18 rfl (pairCmp_den p1 p2 q1 q2)) ?_
          refine d_pure [(9, _)] rfl rfl ⟨⟨rfl, rfl⟩, trivial⟩ rfl (p_move rfl) ?_
          refine d_pure [(35, _), (36, _)] rfl rfl ⟨⟨rfl, rfl⟩, ⟨rfl, rfl⟩, trivial⟩ rfl (p_bin rfl rfl (inteq_t (by rcases pair_cases p1 p2 q1 q2 with ⟨e1, e2, e3, e4⟩ | ⟨e1, e2, e3, e4⟩ | ⟨e1, e2, e3, e4⟩ <;> first | (simp_all; done) | (rw [e4]; rfl)))) ?_
          refine d_pure [(32, _), (37, _)] rfl rfl ⟨⟨rfl, rfl⟩, ⟨rfl, rfl⟩, trivial⟩ rfl (p_pick_t rfl rfl) ?_
          refine d_pure [(38, _)] rfl rfl ⟨⟨rfl, rfl⟩, trivial⟩ rfl (p_move rfl) ?_
          first | refine d_pure [(8, _)] rfl rfl ⟨⟨rfl, rfl⟩, trivial⟩ rfl (p_loads rfl Try.g24 Try.c24 rfl rfl) ?_ | refine d_pure [(8, _)] rfl rfl ⟨⟨rfl, rfl⟩, trivial⟩ rfl (p_loadsr rfl Try.g24 Try.c24 rfl rfl rfl) ?_
          first | refine d_pure [(7, _)] rfl rfl ⟨⟨rfl, rfl⟩, trivial⟩ rfl (p_loads rfl Try.g24 Try.c24 rfl rfl) ?_ | refine d_pure [(7, _)] rfl rfl ⟨⟨rfl, rfl⟩, trivial⟩ rfl (p_loadsr rfl Try.g24 Try.c24 rfl rfl rfl) ?_
          refine d_rstep [(40, _), (41, _)] rfl rfl ⟨⟨rfl, rfl⟩, ⟨rfl, rfl⟩, trivial⟩ rfl (r_call rfl rfl Try.ent18 rfl (pairCmp_den q1 q2 p1 p2)) ?_
          refine d_pure [(9, _)] rfl rfl ⟨⟨rfl, rfl⟩, trivial⟩ rfl (p_move rfl) ?_
          refine d_pure [(43, _)] rfl rfl ⟨⟨rfl, rfl⟩, trivial⟩ rfl (p_neg rfl) ?_
          refine d_pure [(42, _), (44, _)] rfl rfl ⟨⟨rfl, rfl⟩, ⟨rfl, rfl⟩, trivial⟩ rfl (p_bin rfl rfl (inteq_t (by rcases pair_cases p1 p2 q1 q2 with ⟨e1, e2, e3, e4⟩ | ⟨e1, e2, e3, e4⟩ | ⟨e1, e2, e3, e4⟩ <;> first | (simp_all; done) | (rw [e4]; rfl)))) ?_
          refine d_pure [(39, _), (45, _)] rfl rfl ⟨⟨rfl, rfl⟩, ⟨rfl, rfl⟩, trivial⟩ rfl (p_pick_t rfl rfl) ?_
          refine d_pure [(46, _)] rfl rfl ⟨⟨rfl, rfl⟩, trivial⟩ rfl (p_move rfl) ?_
          first | refine d_pure [(7, _)] rfl rfl ⟨⟨rfl, rfl⟩, trivial⟩ rfl (p_loads rfl Try.g24 Try.c24 rfl rfl) ?_ | refine d_pure [(7, _)] rfl rfl ⟨⟨rfl, rfl⟩, trivial⟩ rfl (p_loadsr rfl Try.g24 Try.c24 rfl rfl rfl) ?_
          refine d_pure [(2, _)] rfl rfl ⟨⟨rfl, rfl⟩, trivial⟩ rfl (p_move rfl) ?_
          refine d_rstep [(48, _), (49, _)] rfl rfl ⟨⟨rfl, rfl⟩, ⟨rfl, rfl⟩, trivial⟩ rfl (r_call rfl rfl Try.ent19 rfl (pairHas_den p1 p2 s)) ?_
          refine d_pure [(2, _)] rfl rfl ⟨⟨rfl, rfl⟩, trivial⟩ rfl (p_move rfl) ?_
          first | refine d_pure [(3, _)] rfl rfl ⟨⟨rfl, rfl⟩, trivial⟩ rfl (p_fld_adr rfl Try.fd23_0 Try.c9 rfl) ?_ | refine d_pure [(3, _)] rfl rfl ⟨⟨rfl, rfl⟩, trivial⟩ rfl (p_fld_ref rfl Try.fd23_0 Try.c9 rfl) ?_
          first | refine d_pure [(52, _)] rfl rfl ⟨⟨rfl, rfl⟩, trivial⟩ rfl (p_load1 rfl Try.g9 rfl) ?_ | refine d_pure [(52, _)] rfl rfl ⟨⟨rfl, rfl⟩, trivial⟩ rfl (p_load1r rfl Try.g9 rfl rfl) ?_ | refine d_pure [(52, _)] rfl rfl ⟨⟨rfl, rfl⟩, trivial⟩ rfl (p_load1r rfl Try.g9 rfl (strs_ref (by simp only [List.length_cons] at *; omega))) ?_ | refine d_pure [(52, _)] rfl rfl ⟨⟨rfl, rfl⟩, trivial⟩ rfl (p_load1r rfl Try.g9 rfl (strs_ref (by omega))) ?_
          refine d_pure [(51, _), (53, _)] rfl rfl ⟨⟨rfl, rfl⟩, ⟨rfl, rfl⟩, trivial⟩ rfl (p_bin rfl rfl rfl) ?_
          refine d_pure [(54, _)] rfl rfl ⟨⟨rfl, rfl⟩, trivial⟩ rfl (p_move rfl) ?_
          refine d_split 55 false rfl (fun hg8 => ?_) (fun hg8 => ?_)
          ·
            try simp only [Bool.not_eq_true', Bool.not_eq_false', Bool.not_true, Bool.not_false, Bool.not_not, decide_eq_true_eq, decide_eq_false_iff_not, beq_iff_eq, beq_eq_false_iff_ne, bne_iff_ne, bne_eq_false_iff_eq, ne_eq, Int.not_lt, Int.not_le, Nat.not_lt, Nat.not_le, gt_iff_lt, ge_iff_le, Bool.and_eq_true, Bool.or_eq_true, Int.ofNat_lt, Int.ofNat_le, Int.natCast_inj, strs_len, ints_len, List.length_cons, List.length_nil] at hg8
            refine d_pure [(2, _)] rfl rfl ⟨⟨rfl, rfl⟩, trivial⟩ rfl (p_move rfl) ?_
            first | refine d_pure [(3, _)] rfl rfl ⟨⟨rfl, rfl⟩, trivial⟩ rfl (p_fld_adr rfl Try.fd23_1 Try.c9 rfl) ?_ | refine d_pure [(3, _)] rfl rfl ⟨⟨rfl, rfl⟩, trivial⟩ rfl (p_fld_ref rfl Try.fd23_1 Try.c9 rfl) ?_
            first | refine d_pure [(57, _)] rfl rfl ⟨⟨rfl, rfl⟩, trivial⟩ rfl (p_load1 rfl Try.g9 rfl) ?_ | refine d_pure [(57, _)] rfl rfl ⟨⟨rfl, rfl⟩, trivial⟩ rfl (p_load1r rfl Try.g9 rfl rfl) ?_ | refine d_pure [(57, _)] rfl rfl ⟨⟨rfl, rfl⟩, trivial⟩ rfl (p_load1r rfl Try.g9 rfl (strs_ref (by simp only [List.length_cons] at *; omega))) ?_ | refine d_pure [(57, _)] rfl rfl ⟨⟨rfl, rfl⟩, trivial⟩ rfl (p_load1r rfl Try.g9 rfl (strs_ref (by omega))) ?_
            refine d_pure [(56, _), (58, _)] rfl rfl ⟨⟨rfl, rfl⟩, ⟨rfl, rfl⟩, trivial⟩ rfl (p_bin rfl rfl rfl) ?_
            refine d_pure [(55, _), (59, _)] rfl rfl ⟨⟨rfl, rfl⟩, ⟨rfl, rfl⟩, trivial⟩ rfl (p_pick_f rfl rfl) ?_
            refine d_pure [(50, _), (60, _)] rfl rfl ⟨⟨rfl, rfl⟩, ⟨rfl, rfl⟩, trivial⟩ rfl (p_bin rfl rfl (booleq_t Try.underlying4 (by first | exact has_t (by assumption) | exact has_f (by assumption)))) ?_
            refine d_pure [(47, _), (61, _)] rfl rfl ⟨⟨rfl, rfl⟩, ⟨rfl, rfl⟩, trivial⟩ rfl (p_pick_t rfl rfl) ?_
            refine d_pure [(62, _)] rfl rfl ⟨⟨rfl, rfl⟩, trivial⟩ rfl (p_move rfl) ?_
            first | refine d_pure [(7, _)] rfl rfl ⟨⟨rfl, rfl⟩, trivial⟩ rfl (p_loads rfl Try.g24 Try.c24 rfl rfl) ?_ | refine d_pure [(7, _)] rfl rfl ⟨⟨rfl, rfl⟩, trivial⟩ rfl (p_loadsr rfl Try.g24 Try.c24 rfl rfl rfl) ?_
            first | refine d_pure [(3, _)] rfl rfl ⟨⟨rfl, rfl⟩, trivial⟩ rfl (p_fld_adr rfl Try.fd23_1 Try.c9 rfl) ?_ | refine d_pure [(3, _)] rfl rfl ⟨⟨rfl, rfl⟩, trivial⟩ rfl (p_fld_ref rfl Try.fd23_1 Try.c9 rfl) ?_
            first | refine d_pure [(65, _)] rfl rfl ⟨⟨rfl, rfl⟩, trivial⟩ rfl (p_load1 rfl Try.g9 rfl) ?_ | refine d_pure [(65, _)] rfl rfl ⟨⟨rfl, rfl⟩, trivial⟩ rfl (p_load1r rfl Try.g9 rfl rfl) ?_ | refine d_pure [(65, _)] rfl rfl ⟨⟨rfl, rfl⟩, trivial⟩ rfl (p_load1r rfl Try.g9 rfl (strs_ref (by simp only [List.length_cons] at *; omega))) ?_ | refine d_pure [(65, _)] rfl rfl ⟨⟨rfl, rfl⟩, trivial⟩ rfl (p_load1r rfl Try.g9 rfl (strs_ref (by omega))) ?_
            refine d_rstep [(64, _), (66, _)] rfl rfl ⟨⟨rfl, rfl⟩, ⟨rfl, rfl⟩, trivial⟩ rfl (r_call rfl rfl Try.ent19 rfl ((show Den Try.prog _ _ (· = .s (.bool true)) from (pairHas_den p1 p2 p2).mono (fun r h => h.trans (by simp [hasB]))))) ?_
            refine d_pure [(63, _), (67, _)] rfl rfl ⟨⟨rfl, rfl⟩, ⟨rfl, rfl⟩, trivial⟩ rfl (p_pick_t rfl rfl) ?_
            refine d_pure [(68, _)] rfl rfl ⟨⟨rfl, rfl⟩, trivial⟩ rfl (p_assign rfl) ?_
            refine lex_end (sl' := [(6, _)]) rfl ⟨rfl, trivial⟩ rfl ?_
            refine hK9 _ ?_
            refine aw_ret ?_
            refine ⟨_, rfl, ?_⟩
            rfl
          ·
            try simp only [Bool.not_eq_true', Bool.not_eq_false', Bool.not_true, Bool.not_false, Bool.not_not, decide_eq_true_eq, decide_eq_false_iff_not, beq_iff_eq, beq_eq_false_iff_ne, bne_iff_ne, bne_eq_false_iff_eq, ne_eq, Int.not_lt, Int.not_le, Nat.not_lt, Nat.not_le, gt_iff_lt, ge_iff_le, Bool.and_eq_true, Bool.or_eq_true, Int.ofNat_lt, Int.ofNat_le, Int.natCast_inj, strs_len, ints_len, List.length_cons, List.length_nil] at hg8
            refine d_skip rfl rfl ?_
            refine d_skip rfl rfl ?_
            refine d_skip rfl rfl ?_
            refine d_skip rfl rfl ?_
            refine d_pure [(55, _), (59, _)] rfl rfl ⟨⟨rfl, rfl⟩, ⟨rfl, rfl⟩, trivial⟩ rfl (p_pick_t rfl rfl) ?_
            refine d_pure [(50, _), (60, _)] rfl rfl ⟨⟨rfl, rfl⟩, ⟨rfl, rfl⟩, trivial⟩ rfl (p_bin rfl rfl (booleq_t Try.underlying4 (by first | exact has_t (by assumption) | exact has_f (by assumption)))) ?_
            refine d_pure [(47, _), (61, _)] rfl rfl ⟨⟨rfl, rfl⟩, ⟨rfl, rfl⟩, trivial⟩ rfl (p_pick_t rfl rfl) ?_
            refine d_pure [(62, _)] rfl rfl ⟨⟨rfl, rfl⟩, trivial⟩ rfl (p_move rfl) ?_
            first | refine d_pure [(7, _)] rfl rfl ⟨⟨rfl, rfl⟩, trivial⟩ rfl (p_loads rfl Try.g24 Try.c24 rfl rfl) ?_ | refine d_pure [(7, _)] rfl rfl ⟨⟨rfl, rfl⟩, trivial⟩ rfl (p_loadsr rfl Try.g24 Try.c24 rfl rfl rfl) ?_
            first | refine d_pure [(3, _)] rfl rfl ⟨⟨rfl, rfl⟩, trivial⟩ rfl (p_fld_adr rfl Try.fd23_1 Try.c9 rfl) ?_ | refine d_pure [(3, _)] rfl rfl ⟨⟨rfl, rfl⟩, trivial⟩ rfl (p_fld_ref rfl Try.fd23_1 Try.c9 rfl) ?_
            first | refine d_pure [(65, _)] rfl rfl ⟨⟨rfl, rfl⟩, trivial⟩ rfl (p_load1 rfl Try.g9 rfl) ?_ | refine d_pure [(65, _)] rfl rfl ⟨⟨rfl, rfl⟩, trivial⟩ rfl (p_load1r rfl Try.g9 rfl rfl) ?_ | refine d_pure [(65, _)] rfl rfl ⟨⟨rfl, rfl⟩, trivial⟩ rfl (p_load1r rfl Try.g9 rfl (strs_ref (by simp only [List.length_cons] at *; omega))) ?_ | refine d_pure [(65, _)] rfl rfl ⟨⟨rfl, rfl⟩, trivial⟩ rfl (p_load1r rfl Try.g9 rfl (strs_ref (by omega))) ?_
            refine d_rstep [(64, _), (66, _)] rfl rfl ⟨⟨rfl, rfl⟩, ⟨rfl, rfl⟩, trivial⟩ rfl (r_call rfl rfl Try.ent19 rfl ((show Den Try.prog _ _ (· = .s (.bool true)) from (pairHas_den p1 p2 p2).mono (fun r h => h.trans (by simp [hasB]))))) ?_
            refine d_pure [(63, _), (67, _)] rfl rfl ⟨⟨rfl, rfl⟩, ⟨rfl, rfl⟩, trivial⟩ rfl (p_pick_t rfl rfl) ?_
            refine d_pure [(68, _)] rfl rfl ⟨⟨rfl, rfl⟩, trivial⟩ rfl (p_assign rfl) ?_
            refine lex_end (sl' := [(6, _)]) rfl ⟨rfl, trivial⟩ rfl ?_
            refine hK9 _ ?_
            refine aw_ret ?_
            refine ⟨_, rfl, ?_⟩
            rfl
    ·
      try simp only [Bool.not_eq_true', Bool.not_eq_false', Bool.not_true, Bool.not_false, Bool.not_not, decide_eq_true_eq, decide_eq_false_iff_not, beq_iff_eq, beq_eq_false_iff_ne, bne_iff_ne, bne_eq_false_iff_eq, ne_eq, Int.not_lt, Int.not_le, Nat.not_lt, Nat.not_le, gt_iff_lt, ge_iff_le, Bool.and_eq_true, Bool.or_eq_true, Int.ofNat_lt, Int.ofNat_le, Int.natCast_inj, strs_len, ints_len, List.length_cons, List.length_nil] at hc1
      refine aw_skip ?_
      refine hK4 _ ?_
      refine aw_seq_k (fun K10 hK10 => ?_)
      refine aw_seq_k (fun K11 hK11 => ?_)
      refine aw_region ?_
      first | refine x_pure rfl (p_loads rfl Try.g23 Try.c23 rfl rfl) ?_ | refine x_pure rfl (p_loadsr rfl Try.g23 Try.c23 rfl rfl rfl) ?_
      first | refine x_pure rfl (p_loads rfl Try.g23 Try.c23 rfl rfl) ?_ | refine x_pure rfl (p_loadsr rfl Try.g23 Try.c23 rfl rfl rfl) ?_
      refine x_step hf rfl (r_call rfl rfl Try.ent14 rfl (ahead_den q1 q2 p1 p2 hq1 hq2 hp1 hp2)) ?_
      first | refine aops_end ?_ | refine aops_nil ?_
      refine hK11 _ ?_
      refine aw_cond_s rfl (fun hc9 => ?_) (fun hc9 => ?_)
      ·
        try simp only [Bool.not_eq_true', Bool.not_eq_false', Bool.not_true, Bool.not_false, Bool.not_not, decide_eq_true_eq, decide_eq_false_iff_not, beq_iff_eq, beq_eq_false_iff_ne, bne_iff_ne, bne_eq_false_iff_eq, ne_eq, Int.not_lt, Int.not_le, Nat.not_lt, Nat.not_le, gt_iff_lt, ge_iff_le, Bool.and_eq_true, Bool.or_eq_true, Int.ofNat_lt, Int.ofNat_le, Int.natCast_inj, strs_len, ints_len, List.length_cons, List.length_nil] at hc9
        refine aw_region ?_
        refine x_pure rfl (p_assign rfl) ?_
        first | refine aops_end ?_ | refine aops_nil ?_
        refine hK10 _ ?_
        refine aw_seq_k (fun K12 hK12 => ?_)
        refine aw_draw hf Try.mixed (by kernel_rfl) rfl ?_
        refine d_rstep [] rfl rfl trivial rfl (r_call rfl rfl Try.ent15 rfl (alive_den)) ?_
        refine d_pure [(18, _)] rfl rfl ⟨⟨rfl, rfl⟩, trivial⟩ rfl (p_move rfl) ?_
        first | refine d_pure [(7, _)] rfl rfl ⟨⟨rfl, rfl⟩, trivial⟩ rfl (p_loads rfl Try.g24 Try.c24 rfl rfl) ?_ | refine d_pure [(7, _)] rfl rfl ⟨⟨rfl, rfl⟩, trivial⟩ rfl (p_loadsr rfl Try.g24 Try.c24 rfl rfl rfl) ?_
        refine d_rstep [(20, _)] rfl rfl ⟨⟨rfl, rfl⟩, trivial⟩ rfl (r_call rfl rfl Try.ent16 rfl (pairRight_den p1 p2 hp1 hp2)) ?_
        first | refine d_pure [(3, _)] rfl rfl ⟨⟨rfl, rfl⟩, trivial⟩ rfl (p_fld_adr rfl Try.fd23_0 Try.c9 rfl) ?_ | refine d_pure [(3, _)] rfl rfl ⟨⟨rfl, rfl⟩, trivial⟩ rfl (p_fld_ref rfl Try.fd23_0 Try.c9 rfl) ?_
        first | refine d_pure [(22, _)] rfl rfl ⟨⟨rfl, rfl⟩, trivial⟩ rfl (p_load1 rfl Try.g9 rfl) ?_ | refine d_pure [(22, _)] rfl rfl ⟨⟨rfl, rfl⟩, trivial⟩ rfl (p_load1r rfl Try.g9 rfl rfl) ?_ | refine d_pure [(22, _)] rfl rfl ⟨⟨rfl, rfl⟩, trivial⟩ rfl (p_load1r rfl Try.g9 rfl (strs_ref (by simp only [List.length_cons] at *; omega))) ?_ | refine d_pure [(22, _)] rfl rfl ⟨⟨rfl, rfl⟩, trivial⟩ rfl (p_load1r rfl Try.g9 rfl (strs_ref (by omega))) ?_
        refine d_rstep [(23, _)] rfl rfl ⟨⟨rfl, rfl⟩, trivial⟩ rfl (r_call rfl rfl Try.ent17 rfl (refRight_den p1 hp1)) ?_
        refine d_pure [(24, _)] rfl rfl ⟨⟨rfl, rfl⟩, trivial⟩ rfl (p_move rfl) ?_
        refine d_split 25 true rfl (fun hg10 => ?_) (fun hg10 => ?_)
        ·
          try simp only [Bool.not_eq_true', Bool.not_eq_false', Bool.not_true, Bool.not_false, Bool.not_not, decide_eq_true_eq, decide_eq_false_iff_not, beq_iff_eq, beq_eq_false_iff_ne, bne_iff_ne, bne_eq_false_iff_eq, ne_eq, Int.not_lt, Int.not_le, Nat.not_lt, Nat.not_le, gt_iff_lt, ge_iff_le, Bool.and_eq_true, Bool.or_eq_true, Int.ofNat_lt, Int.ofNat_le, Int.natCast_inj, strs_len, ints_len, List.length_cons, List.length_nil] at hg10
          first | refine d_pure [(3, _)] rfl rfl ⟨⟨rfl, rfl⟩, trivial⟩ rfl (p_fld_adr rfl Try.fd23_1 Try.c9 rfl) ?_ | refine d_pure [(3, _)] rfl rfl ⟨⟨rfl, rfl⟩, trivial⟩ rfl (p_fld_ref rfl Try.fd23_1 Try.c9 rfl) ?_
          first | refine d_pure [(26, _)] rfl rfl ⟨⟨rfl, rfl⟩, trivial⟩ rfl (p_load1 rfl Try.g9 rfl) ?_ | refine d_pure [(26, _)] rfl rfl ⟨⟨rfl, rfl⟩, trivial⟩ rfl (p_load1r rfl Try.g9 rfl rfl) ?_ | refine d_pure [(26, _)] rfl rfl ⟨⟨rfl, rfl⟩, trivial⟩ rfl (p_load1r rfl Try.g9 rfl (strs_ref (by simp only [List.length_cons] at *; omega))) ?_ | refine d_pure [(26, _)] rfl rfl ⟨⟨rfl, rfl⟩, trivial⟩ rfl (p_load1r rfl Try.g9 rfl (strs_ref (by omega))) ?_
          refine d_rstep [(27, _)] rfl rfl ⟨⟨rfl, rfl⟩, trivial⟩ rfl (r_call rfl rfl Try.ent17 rfl (refRight_den p2 hp2)) ?_
          refine d_pure [(25, _), (28, _)] rfl rfl ⟨⟨rfl, rfl⟩, ⟨rfl, rfl⟩, trivial⟩ rfl (p_pick_t rfl rfl) ?_
          refine d_pure [(21, _), (29, _)] rfl rfl ⟨⟨rfl, rfl⟩, ⟨rfl, rfl⟩, trivial⟩ rfl (p_bin rfl rfl (booleq_t Try.underlying4 (by simp_all))) ?_
          refine d_pure [(19, _), (30, _)] rfl rfl ⟨⟨rfl, rfl⟩, ⟨rfl, rfl⟩, trivial⟩ rfl (p_pick_t rfl rfl) ?_
          refine d_pure [(31, _)] rfl rfl ⟨⟨rfl, rfl⟩, trivial⟩ rfl (p_move rfl) ?_
          first | refine d_pure [(7, _)] rfl rfl ⟨⟨rfl, rfl⟩, trivial⟩ rfl (p_loads rfl Try.g24 Try.c24 rfl rfl) ?_ | refine d_pure [(7, _)] rfl rfl ⟨⟨rfl, rfl⟩, trivial⟩ rfl (p_loadsr rfl Try.g24 Try.c24 rfl rfl rfl) ?_
          first | refine d_pure [(8, _)] rfl rfl ⟨⟨rfl, rfl⟩, trivial⟩ rfl (p_loads rfl Try.g24 Try.c24 rfl rfl) ?_ | refine d_pure [(8, _)] rfl rfl ⟨⟨rfl, rfl⟩, trivial⟩ rfl (p_loadsr rfl Try.g24 Try.c24 rfl rfl rfl) ?_
          refine d_rstep [(33, _), (34, _)] rfl rfl ⟨⟨rfl, rfl⟩, ⟨rfl, rfl⟩, trivial⟩ rfl (r_call rfl rfl Try.ent18 rfl (pairCmp_den p1 p2 q1 q2)) ?_
          refine d_pure [(9, _)] rfl rfl ⟨⟨rfl, rfl⟩, trivial⟩ rfl (p_move rfl) ?_
          refine d_pure [(35, _), (36, _)] rfl rfl ⟨⟨rfl, rfl⟩, ⟨rfl, rfl⟩, trivial⟩ rfl (p_bin rfl rfl (inteq_t (by rcases pair_cases p1 p2 q1 q2 with ⟨e1, e2, e3, e4⟩ | ⟨e1, e2, e3, e4⟩ | ⟨e1, e2, e3, e4⟩ <;> first | (simp_all; done) | (rw [e4]; rfl)))) ?_
          refine d_pure [(32, _), (37, _)] rfl rfl ⟨⟨rfl, rfl⟩, ⟨rfl, rfl⟩, trivial⟩ rfl (p_pick_t rfl rfl) ?_
          refine d_pure [(38, _)] rfl rfl ⟨⟨rfl, rfl⟩, trivial⟩ rfl (p_move rfl) ?_
          first | refine d_pure [(8, _)] rfl rfl ⟨⟨rfl, rfl⟩, trivial⟩ rfl (p_loads rfl Try.g24 Try.c24 rfl rfl) ?_ | refine d_pure [(8, _)] rfl rfl ⟨⟨rfl, rfl⟩, trivial⟩ rfl (p_loadsr rfl Try.g24 Try.c24 rfl rfl rfl) ?_
          first | refine d_pure [(7, _)] rfl rfl ⟨⟨rfl, rfl⟩, trivial⟩ rfl (p_loads rfl Try.g24 Try.c24 rfl rfl) ?_ | refine d_pure [(7, _)] rfl rfl ⟨⟨rfl, rfl⟩, trivial⟩ rfl (p_loadsr rfl Try.g24 Try.c24 rfl rfl rfl) ?_
          refine d_rstep [(40, _), (41, _)] rfl rfl ⟨⟨rfl, rfl⟩, ⟨rfl, rfl⟩, trivial⟩ rfl (r_call rfl rfl Try.ent18 rfl (pairCmp_den q1 q2 p1 p2)) ?_
          refine d_pure [(9, _)] rfl rfl ⟨⟨rfl, rfl⟩, trivial⟩ rfl (p_move rfl) ?_
          refine d_pure [(43, _)] rfl rfl ⟨⟨rfl, rfl⟩, trivial⟩ rfl (p_neg rfl) ?_
          refine d_pure [(42, _), (44, _)] rfl rfl ⟨⟨rfl, rfl⟩, ⟨rfl, rfl⟩, trivial⟩ rfl (p_bin rfl rfl (inteq_t (by rcases pair_cases p1 p2 q1 q2 with ⟨e1, e2, e3, e4⟩ | ⟨e1, e2, e3, e4⟩ | ⟨e1, e2, e3, e4⟩ <;> first | (simp_all; done) | (rw [e4]; rfl)))) ?_
          refine d_pure [(39, _), (45, _)] rfl rfl ⟨⟨rfl, rfl⟩, ⟨rfl, rfl⟩, trivial⟩ rfl (p_pick_t rfl rfl) ?_
          refine d_pure [(46, _)] rfl rfl ⟨⟨rfl, rfl⟩, trivial⟩ rfl (p_move rfl) ?_
          first | refine d_pure [(7, _)] rfl rfl ⟨⟨rfl, rfl⟩, trivial⟩ rfl (p_loads rfl Try.g24 Try.c24 rfl rfl) ?_ | refine d_pure [(7, _)] rfl rfl ⟨⟨rfl, rfl⟩, trivial⟩ rfl (p_loadsr rfl Try.g24 Try.c24 rfl rfl rfl) ?_
          refine d_pure [(2, _)] rfl rfl ⟨⟨rfl, rfl⟩, trivial⟩ rfl (p_move rfl) ?_
          refine d_rstep [(48, _), (49, _)] rfl rfl ⟨⟨rfl, rfl⟩, ⟨rfl, rfl⟩, trivial⟩ rfl (r_call rfl rfl Try.ent19 rfl (pairHas_den p1 p2 s)) ?_
          refine d_pure [(2, _)] rfl rfl ⟨⟨rfl, rfl⟩, trivial⟩ rfl (p_move rfl) ?_
          first | refine d_pure [(3, _)] rfl rfl ⟨⟨rfl, rfl⟩, trivial⟩ rfl (p_fld_adr rfl Try.fd23_0 Try.c9 rfl) ?_ | refine d_pure [(3, _)] rfl rfl ⟨⟨rfl, rfl⟩, trivial⟩ rfl (p_fld_ref rfl Try.fd23_0 Try.c9 rfl) ?_
          first | refine d_pure [(52, _)] rfl rfl ⟨⟨rfl, rfl⟩, trivial⟩ rfl (p_load1 rfl Try.g9 rfl) ?_ | refine d_pure [(52, _)] rfl rfl ⟨⟨rfl, rfl⟩, trivial⟩ rfl (p_load1r rfl Try.g9 rfl rfl) ?_ | refine d_pure [(52, _)] rfl rfl ⟨⟨rfl, rfl⟩, trivial⟩ rfl (p_load1r rfl Try.g9 rfl (strs_ref (by simp only [List.length_cons] at *; omega))) ?_ | refine d_pure [(52, _)] rfl rfl ⟨⟨rfl, rfl⟩, trivial⟩ rfl (p_load1r rfl Try.g9 rfl (strs_ref (by omega))) ?_
          refine d_pure [(51, _), (53, _)] rfl rfl ⟨⟨rfl, rfl⟩, ⟨rfl, rfl⟩, trivial⟩ rfl (p_bin rfl rfl rfl) ?_
          refine d_pure [(54, _)] rfl rfl ⟨⟨rfl, rfl⟩, trivial⟩ rfl (p_move rfl) ?_
          refine d_split 55 false rfl (fun hg11 => ?_) (fun hg11 => ?_)
          ·
            try simp only [Bool.not_eq_true', Bool.not_eq_false', Bool.not_true, Bool.not_false, Bool.not_not, decide_eq_true_eq, decide_eq_false_iff_not, beq_iff_eq, beq_eq_false_iff_ne, bne_iff_ne, bne_eq_false_iff_eq, ne_eq, Int.not_lt, Int.not_le, Nat.not_lt, Nat.not_le, gt_iff_lt, ge_iff_le, Bool.and_eq_true, Bool.or_eq_true, Int.ofNat_lt, Int.ofNat_le, Int.natCast_inj, strs_len, ints_len, List.length_cons, List.length_nil] at hg11
            refine d_pure [(2, _)] rfl rfl ⟨⟨rfl, rfl⟩, trivial⟩ rfl (p_move rfl) ?_
            first | refine d_pure [(3, _)] rfl rfl ⟨⟨rfl, rfl⟩, trivial⟩ rfl (p_fld_adr rfl Try.fd23_1 Try.c9 rfl) ?_ | refine d_pure [(3, _)] rfl rfl ⟨⟨rfl, rfl⟩, trivial⟩ rfl (p_fld_ref rfl Try.fd23_1 Try.c9 rfl) ?_
            first | refine d_pure [(57, _)] rfl rfl ⟨⟨rfl, rfl⟩, trivial⟩ rfl (p_load1 rfl Try.g9 rfl) ?_ | refine d_pure [(57, _)] rfl rfl ⟨⟨rfl, rfl⟩, trivial⟩ rfl (p_load1r rfl Try.g9 rfl rfl) ?_ | refine d_pure [(57, _)] rfl rfl ⟨⟨rfl, rfl⟩, trivial⟩ rfl (p_load1r rfl Try.g9 rfl (strs_ref (by simp only [List.length_cons] at *; omega))) ?_ | refine d_pure [(57, _)] rfl rfl ⟨⟨rfl, rfl⟩, trivial⟩ rfl (p_load1r rfl Try.g9 rfl (strs_ref (by omega))) ?_
            refine d_pure [(56, _), (58, _)] rfl rfl ⟨⟨rfl, rfl⟩, ⟨rfl, rfl⟩, trivial⟩ rfl (p_bin rfl rfl rfl) ?_
            refine d_pure [(55, _), (59, _)] rfl rfl ⟨⟨rfl, rfl⟩, ⟨rfl, rfl⟩, trivial⟩ rfl (p_pick_f rfl rfl) ?_
            refine d_pure [(50, _), (60, _)] rfl rfl ⟨⟨rfl, rfl⟩, ⟨rfl, rfl⟩, trivial⟩ rfl (p_bin rfl rfl (booleq_t Try.underlying4 (by first | exact has_t (by assumption) | exact has_f (by assumption)))) ?_
            refine d_pure [(47, _), (61, _)] rfl rfl ⟨⟨rfl, rfl⟩, ⟨rfl, rfl⟩, trivial⟩ rfl (p_pick_t rfl rfl) ?_
            refine d_pure [(62, _)] rfl rfl ⟨⟨rfl, rfl⟩, trivial⟩ rfl (p_move rfl) ?_
            first | refine d_pure [(7, _)] rfl rfl ⟨⟨rfl, rfl⟩, trivial⟩ rfl (p_loads rfl Try.g24 Try.c24 rfl rfl) ?_ | refine d_pure [(7, _)] rfl rfl ⟨⟨rfl, rfl⟩, trivial⟩ rfl (p_loadsr rfl Try.g24 Try.c24 rfl rfl rfl) ?_
            first | refine d_pure [(3, _)] rfl rfl ⟨⟨rfl, rfl⟩, trivial⟩ rfl (p_fld_adr rfl Try.fd23_1 Try.c9 rfl) ?_ | refine d_pure [(3, _)] rfl rfl ⟨⟨rfl, rfl⟩, trivial⟩ rfl (p_fld_ref rfl Try.fd23_1 Try.c9 rfl) ?_
            first | refine d_pure [(65, _)] rfl rfl ⟨⟨rfl, rfl⟩, trivial⟩ rfl (p_load1 rfl Try.g9 rfl) ?_ | refine d_pure [(65, _)] rfl rfl ⟨⟨rfl, rfl⟩, trivial⟩ rfl (p_load1r rfl Try.g9 rfl rfl) ?_ | refine d_pure [(65, _)] rfl rfl ⟨⟨rfl, rfl⟩, trivial⟩ rfl (p_load1r rfl Try.g9 rfl (strs_ref (by simp only [List.length_cons] at *; omega))) ?_ | refine d_pure [(65, _)] rfl rfl ⟨⟨rfl, rfl⟩, trivial⟩ rfl (p_load1r rfl Try.g9 rfl (strs_ref (by omega))) ?_
            refine d_rstep [(64, _), (66, _)] rfl rfl ⟨⟨rfl, rfl⟩, ⟨rfl, rfl⟩, trivial⟩ rfl (r_call rfl rfl Try.ent19 rfl ((show Den Try.prog _ _ (· = .s (.bool true)) from (pairHas_den p1 p2 p2).mono (fun r h => h.trans (by simp [hasB]))))) ?_
            refine d_pure [(63, _), (67, _)] rfl rfl ⟨⟨rfl, rfl⟩, ⟨rfl, rfl⟩, trivial⟩ rfl (p_pick_t rfl rfl) ?_
            refine d_pure [(68, _)] rfl rfl ⟨⟨rfl, rfl⟩, trivial⟩ rfl (p_assign rfl) ?_
            refine lex_end (sl' := [(6, _)]) rfl ⟨rfl, trivial⟩ rfl ?_
            refine hK12 _ ?_
            refine aw_ret ?_
            refine ⟨_, rfl, ?_⟩
            rfl
          ·
            try simp only [Bool.not_eq_true', Bool.not_eq_false', Bool.not_true, Bool.not_false, Bool.not_not, decide_eq_true_eq, decide_eq_false_iff_not, beq_iff_eq, beq_eq_false_iff_ne, bne_iff_ne, bne_eq_false_iff_eq, ne_eq, Int.not_lt, Int.not_le, Nat.not_lt, Nat.not_le, gt_iff_lt, ge_iff_le, Bool.and_eq_true, Bool.or_eq_true, Int.ofNat_lt, Int.ofNat_le, Int.natCast_inj, strs_len, ints_len, List.length_cons, List.length_nil] at hg11
            refine d_skip rfl rfl ?_
            refine d_skip rfl rfl ?_
            refine d_skip rfl rfl ?_
            refine d_skip rfl rfl ?_
            refine d_pure [(55, _), (59, _)] rfl rfl ⟨⟨rfl, rfl⟩, ⟨rfl, rfl⟩, trivial⟩ rfl (p_pick_t rfl rfl) ?_
            refine d_pure [(50, _), (60, _)] rfl rfl ⟨⟨rfl, rfl⟩, ⟨rfl, rfl⟩, trivial⟩ rfl (p_bin rfl rfl (booleq_t Try.underlying4 (by first | exact has_t (by assumption) | exact has_f (by assumption)))) ?_
            refine d_pure [(47, _), (61, _)] rfl rfl ⟨⟨rfl, rfl⟩, ⟨rfl, rfl⟩, trivial⟩ rfl (p_pick_t rfl rfl) ?_
            refine d_pure [(62, _)] rfl rfl ⟨⟨rfl, rfl⟩, trivial⟩ rfl (p_move rfl) ?_
            first | refine d_pure [(7, _)] rfl rfl ⟨⟨rfl, rfl⟩, trivial⟩ rfl (p_loads rfl Try.g24 Try.c24 rfl rfl) ?_ | refine d_pure [(7, _)] rfl rfl ⟨⟨rfl, rfl⟩, trivial⟩ rfl (p_loadsr rfl Try.g24 Try.c24 rfl rfl rfl) ?_
            first | refine d_pure [(3, _)] rfl rfl ⟨⟨rfl, rfl⟩, trivial⟩ rfl (p_fld_adr rfl Try.fd23_1 Try.c9 rfl) ?_ | refine d_pure [(3, _)] rfl rfl ⟨⟨rfl, rfl⟩, trivial⟩ rfl (p_fld_ref rfl Try.fd23_1 Try.c9 rfl) ?_
            first | refine d_pure [(65, _)] rfl rfl ⟨⟨rfl, rfl⟩, trivial⟩ rfl (p_load1 rfl Try.g9 rfl) ?_ | refine d_pure [(65, _)] rfl rfl ⟨⟨rfl, rfl⟩, trivial⟩ rfl (p_load1r rfl Try.g9 rfl rfl) ?_ | refine d_pure [(65, _)] rfl rfl ⟨⟨rfl, rfl⟩, trivial⟩ rfl (p_load1r rfl Try.g9 rfl (strs_ref (by simp only [List.length_cons] at *; omega))) ?_ | refine d_pure [(65, _)] rfl rfl ⟨⟨rfl, rfl⟩, trivial⟩ rfl (p_load1r rfl Try.g9 rfl (strs_ref (by omega))) ?_
            refine d_rstep [(64, _), (66, _)] rfl rfl ⟨⟨rfl, rfl⟩, ⟨rfl, rfl⟩, trivial⟩ rfl (r_call rfl rfl Try.ent19 rfl ((show Den Try.prog _ _ (· = .s (.bool true)) from (pairHas_den p1 p2 p2).mono (fun r h => h.trans (by simp [hasB]))))) ?_
            refine d_pure [(63, _), (67, _)] rfl rfl ⟨⟨rfl, rfl⟩, ⟨rfl, rfl⟩, trivial⟩ rfl (p_pick_t rfl rfl) ?_
            refine d_pure [(68, _)] rfl rfl ⟨⟨rfl, rfl⟩, trivial⟩ rfl (p_assign rfl) ?_
            refine lex_end (sl' := [(6, _)]) rfl ⟨rfl, trivial⟩ rfl ?_
            refine hK12 _ ?_
            refine aw_ret ?_
            refine ⟨_, rfl, ?_⟩
            rfl
        ·
          try simp only [Bool.not_eq_true', Bool.not_eq_false', Bool.not_true, Bool.not_false, Bool.not_not, decide_eq_true_eq, decide_eq_false_iff_not, beq_iff_eq, beq_eq_false_iff_ne, bne_iff_ne, bne_eq_false_iff_eq, ne_eq, Int.not_lt, Int.not_le, Nat.not_lt, Nat.not_le, gt_iff_lt, ge_iff_le, Bool.and_eq_true, Bool.or_eq_true, Int.ofNat_lt, Int.ofNat_le, Int.natCast_inj, strs_len, ints_len, List.length_cons, List.length_nil] at hg10
          refine d_skip rfl rfl ?_
          refine d_skip rfl rfl ?_
          refine d_skip rfl rfl ?_
          refine d_pure [(25, _), (28, _)] rfl rfl ⟨⟨rfl, rfl⟩, ⟨rfl, rfl⟩, trivial⟩ rfl (p_pick_f rfl rfl) ?_
          refine d_pure [(21, _), (29, _)] rfl rfl ⟨⟨rfl, rfl⟩, ⟨rfl, rfl⟩, trivial⟩ rfl (p_bin rfl rfl (booleq_t Try.underlying4 (by simp_all))) ?_
          refine d_pure [(19, _), (30, _)] rfl rfl ⟨⟨rfl, rfl⟩, ⟨rfl, rfl⟩, trivial⟩ rfl (p_pick_t rfl rfl) ?_
          refine d_pure [(31, _)] rfl rfl ⟨⟨rfl, rfl⟩, trivial⟩ rfl (p_move rfl) ?_
          first | refine d_pure [(7, _)] rfl rfl ⟨⟨rfl, rfl⟩, trivial⟩ rfl (p_loads rfl Try.g24 Try.c24 rfl rfl) ?_ | refine d_pure [(7, _)] rfl rfl ⟨⟨rfl, rfl⟩, trivial⟩ rfl (p_loadsr rfl Try.g24 Try.c24 rfl rfl rfl) ?_
          first | refine d_pure [(8, _)] rfl rfl ⟨⟨rfl, rfl⟩, trivial⟩ rfl (p_loads rfl Try.g24 Try.c24 rfl rfl) ?_ | refine d_pure [(8, _)] rfl rfl ⟨⟨rfl, rfl⟩, trivial⟩ rfl (p_loadsr rfl Try.g24 Try.c24 rfl rfl rfl) ?_
          refine d_rstep [(33, _), (34, _)] rfl rfl ⟨⟨rfl, rfl⟩, ⟨rfl, rfl⟩, trivial⟩ rfl (r_call rfl rfl Try.ent18 rfl (pairCmp_den p1 p2 q1 q2)) ?_
          refine d_pure [(9, _)] rfl rfl ⟨⟨rfl, rfl⟩, trivial⟩ rfl (p_move rfl) ?_
          refine d_pure [(35, _), (36, _)] rfl rfl ⟨⟨rfl, rfl⟩, ⟨rfl, rfl⟩, trivial⟩ rfl (p_bin rfl rfl (inteq_t (by rcases pair_cases p1 p2 q1 q2 with ⟨e1, e2, e3, e4⟩ | ⟨e1, e2, e3, e4⟩ | ⟨e1, e2, e3, e4⟩ <;> first | (simp_all; done) | (rw [e4]; rfl)))) ?_
          refine d_pure [(32, _), (37, _)] rfl rfl ⟨⟨rfl, rfl⟩, ⟨rfl, rfl⟩, trivial⟩ rfl (p_pick_t rfl rfl) ?_
          refine d_pure [(38, _)] rfl rfl ⟨⟨rfl, rfl⟩, trivial⟩ rfl (p_move rfl) ?_
          first | refine d_pure [(8, _)] rfl rfl ⟨⟨rfl, rfl⟩, trivial⟩ rfl (p_loads rfl Try.g24 Try.c24 rfl rfl) ?_ | refine d_pure [(8, _)] rfl rfl ⟨⟨rfl, rfl⟩, trivial⟩ rfl (p_loadsr rfl Try.g24 Try.c24 rfl rfl rfl) ?_
          first | refine d_pure [(7, _)] rfl rfl ⟨⟨rfl, rfl⟩, trivial⟩ rfl (p_loads rfl Try.g24 Try.c24 rfl rfl) ?_ | refine d_pure [(7, _)] rfl rfl ⟨⟨rfl, rfl⟩, trivial⟩ rfl (p_loadsr rfl Try.g24 Try.c24 rfl rfl rfl) ?_
          refine d_rstep [(40, _), (41, _)] rfl rfl ⟨⟨rfl, rfl⟩, ⟨rfl, rfl⟩, trivial⟩ rfl (r_call rfl rfl Try.ent18 rfl (pairCmp_den q1 q2 p1 p2)) ?_
          refine d_pure [(9, _)] rfl rfl ⟨⟨rfl, rfl⟩, trivial⟩ rfl (p_move rfl) ?_
          refine d_pure [(43, _)] rfl rfl ⟨⟨rfl, rfl⟩, trivial⟩ rfl (p_neg rfl) ?_
          refine d_pure [(42, _), (44, _)] rfl rfl ⟨⟨rfl, rfl⟩, ⟨rfl, rfl⟩, trivial⟩ rfl (p_bin rfl rfl (inteq_t (by rcases pair_cases p1 p2 q1 q2 with ⟨e1, e2, e3, e4⟩ | ⟨e1, e2, e3, e4⟩ | ⟨e1, e2, e3, e4⟩ <;> first | (simp_all; done) | (rw [e4]; rfl)))) ?_
          refine d_pure [(39, _), (45, _)] rfl rfl ⟨⟨rfl, rfl⟩, ⟨rfl, rfl⟩, trivial⟩ rfl (p_pick_t rfl rfl) ?_
          refine d_pure [(46, _)] rfl rfl ⟨⟨rfl, rfl⟩, trivial⟩ rfl (p_move rfl) ?_
          first | refine d_pure [(7, _)] rfl rfl ⟨⟨rfl, rfl⟩, trivial⟩ rfl (p_loads rfl Try.g24 Try.c24 rfl rfl) ?_ | refine d_pure [(7, _)] rfl rfl ⟨⟨rfl, rfl⟩, trivial⟩ rfl (p_loadsr rfl Try.g24 Try.c24 rfl rfl rfl) ?_
          refine d_pure [(2, _)] rfl rfl ⟨⟨rfl, rfl⟩, trivial⟩ rfl (p_move rfl) ?_
          refine d_rstep [(48, _), (49, _)] rfl rfl ⟨⟨rfl, rfl⟩, ⟨rfl, rfl⟩, trivial⟩ rfl (r_call rfl rfl Try.ent19 rfl (pairHas_den p1 p2 s)) ?_
          refine d_pure [(2, _)] rfl rfl ⟨⟨rfl, rfl⟩, trivial⟩ rfl (p_move rfl) ?_
          first | refine d_pure [(3, _)] rfl rfl ⟨⟨rfl, rfl⟩, trivial⟩ rfl (p_fld_adr rfl Try.fd23_0 Try.c9 rfl) ?_ | refine d_pure [(3, _)] rfl rfl ⟨⟨rfl, rfl⟩, trivial⟩ rfl (p_fld_ref rfl Try.fd23_0 Try.c9 rfl) ?_
          first | refine d_pure [(52, _)] rfl rfl ⟨⟨rfl, rfl⟩, trivial⟩ rfl (p_load1 rfl Try.g9 rfl) ?_ | refine d_pure [(52, _)] rfl rfl ⟨⟨rfl, rfl⟩, trivial⟩ rfl (p_load1r rfl Try.g9 rfl rfl) ?_ | refine d_pure [(52, _)] rfl rfl ⟨⟨rfl, rfl⟩, trivial⟩ rfl (p_load1r rfl Try.g9 rfl (strs_ref (by simp only [List.length_cons] at *; omega))) ?_ | refine d_pure [(52, _)] rfl rfl ⟨⟨rfl, rfl⟩, trivial⟩ rfl (p_load1r rfl Try.g9 rfl (strs_ref (by omega))) ?_
          refine d_pure [(51, _), (53, _)] rfl rfl ⟨⟨rfl, rfl⟩, ⟨rfl, rfl⟩, trivial⟩ rfl (p_bin rfl rfl rfl) ?_
          refine d_pure [(54, _)] rfl rfl ⟨⟨rfl, rfl⟩, trivial⟩ rfl (p_move rfl) ?_
          refine d_split 55 false rfl (fun hg12 => ?_) (fun hg12 => ?_)
          ·
            try simp only [Bool.not_eq_true', Bool.not_eq_false', Bool.not_true, Bool.not_false, Bool.not_not, decide_eq_true_eq, decide_eq_false_iff_not, beq_iff_eq, beq_eq_false_iff_ne, bne_iff_ne, bne_eq_false_iff_eq, ne_eq, Int.not_lt, Int.not_le, Nat.not_lt, Nat.not_le, gt_iff_lt, ge_iff_le, Bool.and_eq_true, Bool.or_eq_true, Int.ofNat_lt, Int.ofNat_le, Int.natCast_inj, strs_len, ints_len, List.length_cons, List.length_nil] at hg12
            refine d_pure [(2, _)] rfl rfl ⟨⟨rfl, rfl⟩, trivial⟩ rfl (p_move rfl) ?_
            first | refine d_pure [(3, _)] rfl rfl ⟨⟨rfl, rfl⟩, trivial⟩ rfl (p_fld_adr rfl Try.fd23_1 Try.c9 rfl) ?_ | refine d_pure [(3, _)] rfl rfl ⟨⟨rfl, rfl⟩, trivial⟩ rfl (p_fld_ref rfl Try.fd23_1 Try.c9 rfl) ?_
            first | refine d_pure [(57, _)] rfl rfl ⟨⟨rfl, rfl⟩, trivial⟩ rfl (p_load1 rfl Try.g9 rfl) ?_ | refine d_pure [(57, _)] rfl rfl ⟨⟨rfl, rfl⟩, trivial⟩ rfl (p_load1r rfl Try.g9 rfl rfl) ?_ | refine d_pure [(57, _)] rfl rfl ⟨⟨rfl, rfl⟩, trivial⟩ rfl (p_load1r rfl Try.g9 rfl (strs_ref (by simp only [List.length_cons] at *; omega))) ?_ | refine d_pure [(57, _)] rfl rfl ⟨⟨rfl, rfl⟩, trivial⟩ rfl (p_load1r rfl Try.g9 rfl (strs_ref (by omega))) ?_
            refine d_pure [(56, _), (58, _)] rfl rfl ⟨⟨rfl, rfl⟩, ⟨rfl, rfl⟩, trivial⟩ rfl (p_bin rfl rfl rfl) ?_
            refine d_pure [(55, _), (59, _)] rfl rfl ⟨⟨rfl, rfl⟩, ⟨rfl, rfl⟩, trivial⟩ rfl (p_pick_f rfl rfl) ?_
            refine d_pure [(50, _), (60, _)] rfl rfl ⟨⟨rfl, rfl⟩, ⟨rfl, rfl⟩, trivial⟩ rfl (p_bin rfl rfl (booleq_t Try.underlying4 (by first | exact has_t (by assumption) | exact has_f (by assumption)))) ?_
            refine d_pure [(47, _), (61, _)] rfl rfl ⟨⟨rfl, rfl⟩, ⟨rfl, rfl⟩, trivial⟩ rfl (p_pick_t rfl rfl) ?_
            refine d_pure [(62, _)] rfl rfl ⟨⟨rfl, rfl⟩, trivial⟩ rfl (p_move rfl) ?_
            first | refine d_pure [(7, _)] rfl rfl ⟨⟨rfl, rfl⟩, trivial⟩ rfl (p_loads rfl Try.g24 Try.c24 rfl rfl) ?_ | refine d_pure [(7, _)] rfl rfl ⟨⟨rfl, rfl⟩, trivial⟩ rfl (p_loadsr rfl Try.g24 Try.c24 rfl rfl rfl) ?_
            first | refine d_pure [(3, _)] rfl rfl ⟨⟨rfl, rfl⟩, trivial⟩ rfl (p_fld_adr rfl Try.fd23_1 Try.c9 rfl) ?_ | refine d_pure [(3, _)] rfl rfl ⟨⟨rfl, rfl⟩, trivial⟩ rfl (p_fld_ref rfl Try.fd23_1 Try.c9 rfl) ?_
            first | refine d_pure [(65, _)] rfl rfl ⟨⟨rfl, rfl⟩, trivial⟩ rfl (p_load1 rfl Try.g9 rfl) ?_ | refine d_pure [(65, _)] rfl rfl ⟨⟨rfl, rfl⟩, trivial⟩ rfl (p_load1r rfl Try.g9 rfl rfl) ?_ | refine d_pure [(65, _)] rfl rfl ⟨⟨rfl, rfl⟩, trivial⟩ rfl (p_load1r rfl Try.g9 rfl (strs_ref (by simp only [List.length_cons] at *; omega))) ?_ | refine d_pure [(65, _)] rfl rfl ⟨⟨rfl, rfl⟩, trivial⟩ rfl (p_load1r rfl Try.g9 rfl (strs_ref (by omega))) ?_
            refine d_rstep [(64, _), (66, _)] rfl rfl ⟨⟨rfl, rfl⟩, ⟨rfl, rfl⟩, trivial⟩ rfl (r_call rfl rfl Try.ent19 rfl ((show Den Try.prog _ _ (· = .s (.bool true)) from (pairHas_den p1 p2 p2).mono (fun r h => h.trans (by simp [hasB]))))) ?_
            refine d_pure [(63, _), (67, _)] rfl rfl ⟨⟨rfl, rfl⟩, ⟨rfl, rfl⟩, trivial⟩ rfl (p_pick_t rfl rfl) ?_
            refine d_pure [(68, _)] rfl rfl ⟨⟨rfl, rfl⟩, trivial⟩ rfl (p_assign rfl) ?_
            refine lex_end (sl' := [(6, _)]) rfl ⟨rfl, trivial⟩ rfl ?_
            refine hK12 _ ?_
            refine aw_ret ?_
            refine ⟨_, rfl, ?_⟩
            rfl
          ·
            try simp only [Bool.not_eq_true', Bool.not_eq_false', Bool.not_true, Bool.not_false, Bool.not_not, decide_eq_true_eq, decide_eq_false_iff_not, beq_iff_eq, beq_eq_false_iff_ne, bne_iff_ne, bne_eq_false_iff_eq, ne_eq, Int.not_lt, Int.not_le, Nat.not_lt, Nat.not_le, gt_iff_lt, ge_iff_le, Bool.and_eq_true, Bool.or_eq_true, Int.ofNat_lt, Int.ofNat_le, Int.natCast_inj, strs_len, ints_len, List.length_cons, List.length_nil] at hg12
            refine d_skip rfl rfl ?_
            refine d_skip rfl rfl ?_
            refine d_skip rfl rfl ?_
            refine d_skip rfl rfl ?_
            refine d_pure [(55, _), (59, _)] rfl rfl ⟨⟨rfl, rfl⟩, ⟨rfl, rfl⟩, trivial⟩ rfl (p_pick_t rfl rfl) ?_
            refine d_pure [(50, _), (60, _)] rfl rfl ⟨⟨rfl, rfl⟩, ⟨rfl, rfl⟩, trivial⟩ rfl (p_bin rfl rfl (booleq_t Try.underlying4 (by first | exact has_t (by assumption) | exact has_f (by assumption)))) ?_
            refine d_pure [(47, _), (61, _)] rfl rfl ⟨⟨rfl, rfl⟩, ⟨rfl, rfl⟩, trivial⟩ rfl (p_pick_t rfl rfl) ?_
            refine d_pure [(62, _)] rfl rfl ⟨⟨rfl, rfl⟩, trivial⟩ rfl (p_move rfl) ?_
            first | refine d_pure [(7, _)] rfl rfl ⟨⟨rfl, rfl⟩, trivial⟩ rfl (p_loads rfl Try.g24 Try.c24 rfl rfl) ?_ | refine d_pure [(7, _)] rfl rfl ⟨⟨rfl, rfl⟩, trivial⟩ rfl (p_loadsr rfl Try.g24 Try.c24 rfl rfl rfl) ?_
            first | refine d_pure [(3, _)] rfl rfl ⟨⟨rfl, rfl⟩, trivial⟩ rfl (p_fld_adr rfl Try.fd23_1 Try.c9 rfl) ?_ | refine d_pure [(3, _)] rfl rfl ⟨⟨rfl, rfl⟩, trivial⟩ rfl (p_fld_ref rfl Try.fd23_1 Try.c9 rfl) ?_
            first | refine d_pure [(65, _)] rfl rfl ⟨⟨rfl, rfl⟩, trivial⟩ rfl (p_load1 rfl Try.g9 rfl) ?_ | refine d_pure [(65, _)] rfl rfl ⟨⟨rfl, rfl⟩, trivial⟩ rfl (p_load1r rfl Try.g9 rfl rfl) ?_ | refine d_pure [(65, _)] rfl rfl ⟨⟨rfl, rfl⟩, trivial⟩ rfl (p_load1r rfl Try.g9 rfl (strs_ref (by simp only [List.length_cons] at *; omega))) ?_ | refine d_pure [(65, _)] rfl rfl ⟨⟨rfl, rfl⟩, trivial⟩ rfl (p_load1r rfl Try.g9 rfl (strs_ref (by omega))) ?_
            refine d_rstep [(64, _), (66, _)] rfl rfl ⟨⟨rfl, rfl⟩, ⟨rfl, rfl⟩, trivial⟩ rfl (r_call rfl rfl Try.ent19 rfl ((show Den Try.prog _ _ (· = .s (.bool true)) from (pairHas_den p1 p2 p2).mono (fun r h => h.trans (by simp [hasB]))))) ?_
            refine d_pure [(63, _), (67, _)] rfl rfl ⟨⟨rfl, rfl⟩, ⟨rfl, rfl⟩, trivial⟩ rfl (p_pick_t rfl rfl) ?_
            refine d_pure [(68, _)] rfl rfl ⟨⟨rfl, rfl⟩, trivial⟩ rfl (p_assign rfl) ?_
            refine lex_end (sl' := [(6, _)]) rfl ⟨rfl, trivial⟩ rfl ?_
            refine hK12 _ ?_
            refine aw_ret ?_
            refine ⟨_, rfl, ?_⟩
            rfl
      ·
        try simp only [Bool.not_eq_true', Bool.not_eq_false', Bool.not_true, Bool.not_false, Bool.not_not, decide_eq_true_eq, decide_eq_false_iff_not, beq_iff_eq, beq_eq_false_iff_ne, bne_iff_ne, bne_eq_false_iff_eq, ne_eq, Int.not_lt, Int.not_le, Nat.not_lt, Nat.not_le, gt_iff_lt, ge_iff_le, Bool.and_eq_true, Bool.or_eq_true, Int.ofNat_lt, Int.ofNat_le, Int.natCast_inj, strs_len, ints_len, List.length_cons, List.length_nil] at hc9
        refine aw_skip ?_
        refine hK10 _ ?_
        refine aw_seq_k (fun K13 hK13 => ?_)
        refine aw_draw hf Try.mixed (by kernel_rfl) rfl ?_
        refine d_rstep [] rfl rfl trivial rfl (r_call rfl rfl Try.ent15 rfl (alive_den)) ?_
        refine d_pure [(18, _)] rfl rfl ⟨⟨rfl, rfl⟩, trivial⟩ rfl (p_move rfl) ?_
        first | refine d_pure [(7, _)] rfl rfl ⟨⟨rfl, rfl⟩, trivial⟩ rfl (p_loads rfl Try.g24 Try.c24 rfl rfl) ?_ | refine d_pure [(7, _)] rfl rfl ⟨⟨rfl, rfl⟩, trivial⟩ rfl (p_loadsr rfl Try.g24 Try.c24 rfl rfl rfl) ?_
        refine d_rstep [(20, _)] rfl rfl ⟨⟨rfl, rfl⟩, trivial⟩ rfl (r_call rfl rfl Try.ent16 rfl (pairRight_den p1 p2 hp1 hp2)) ?_
        first | refine d_pure [(3, _)] rfl rfl ⟨⟨rfl, rfl⟩, trivial⟩ rfl (p_fld_adr rfl Try.fd23_0 Try.c9 rfl) ?_ | refine d_pure [(3, _)] rfl rfl ⟨⟨rfl, rfl⟩, trivial⟩ rfl (p_fld_ref rfl Try.fd23_0 Try.c9 rfl) ?_
        first | refine d_pure [(22, _)] rfl rfl ⟨⟨rfl, rfl⟩, trivial⟩ rfl (p_load1 rfl Try.g9 rfl) ?_ | refine d_pure [(22, _)] rfl rfl ⟨⟨rfl, rfl⟩, trivial⟩ rfl (p_load1r rfl Try.g9 rfl rfl) ?_ | refine d_pure [(22, _)] rfl rfl ⟨⟨rfl, rfl⟩, trivial⟩ rfl (p_load1r rfl Try.g9 rfl (strs_ref (by simp only [List.length_cons] at *; omega))) ?_ | refine d_pure [(22, _)] rfl rfl ⟨⟨rfl, rfl⟩, trivial⟩ rfl (p_load1r rfl Try.g9 rfl (strs_ref (by omega))) ?_
        refine d_rstep [(23, _)] rfl rfl ⟨⟨rfl, rfl⟩, trivial⟩ rfl (r_call rfl rfl Try.ent17 rfl (refRight_den p1 hp1)) ?_
        refine d_pure [(24, _)] rfl rfl ⟨⟨rfl, rfl⟩, trivial⟩ rfl (p_move rfl) ?_
        refine d_split 25 true rfl (fun hg13 => ?_) (fun hg13 => ?_)
        ·
          try simp only [Bool.not_eq_true', Bool.not_eq_false', Bool.not_true, Bool.not_false, Bool.not_not, decide_eq_true_eq, decide_eq_false_iff_not, beq_iff_eq, beq_eq_false_iff_ne, bne_iff_ne, bne_eq_false_iff_eq, ne_eq, Int.not_lt, Int.not_le, Nat.not_lt, Nat.not_le, gt_iff_lt, ge_iff_le, Bool.and_eq_true, Bool.or_eq_true, Int.ofNat_lt, Int.ofNat_le, Int.natCast_inj, strs_len, ints_len, List.length_cons, List.length_nil] at hg13
          first | refine d_pure [(3, _)] rfl rfl ⟨⟨rfl, rfl⟩, trivial⟩ rfl (p_fld_adr rfl Try.fd23_1 Try.c9 rfl) ?_ | refine d_pure [(3, _)] rfl rfl ⟨⟨rfl, rfl⟩, trivial⟩ rfl (p_fld_ref rfl Try.fd23_1 Try.c9 rfl) ?_
          first | refine d_pure [(26, _)] rfl rfl ⟨⟨rfl, rfl⟩, trivial⟩ rfl (p_load1 rfl Try.g9 rfl) ?_ | refine d_pure [(26, _)] rfl rfl ⟨⟨rfl, rfl⟩, trivial⟩ rfl (p_load1r rfl Try.g9 rfl rfl) ?_ | refine d_pure [(26, _)] rfl rfl ⟨⟨rfl, rfl⟩, trivial⟩ rfl (p_load1r rfl Try.g9 rfl (strs_ref (by simp only [List.length_cons] at *; omega))) ?_ | refine d_pure [(26, _)] rfl rfl ⟨⟨rfl, rfl⟩, trivial⟩ rfl (p_load1r rfl Try.g9 rfl (strs_ref (by omega))) ?_
          refine d_rstep [(27, _)] rfl rfl ⟨⟨rfl, rfl⟩, trivial⟩ rfl (r_call rfl rfl Try.ent17 rfl (refRight_den p2 hp2)) ?_
          refine d_pure [(25, _), (28, _)] rfl rfl ⟨⟨rfl, rfl⟩, ⟨rfl, rfl⟩, trivial⟩ rfl (p_pick_t rfl rfl) ?_
          refine d_pure [(21, _), (29, _)] rfl rfl ⟨⟨rfl, rfl⟩, ⟨rfl, rfl⟩, trivial⟩ rfl (p_bin rfl rfl (booleq_t Try.underlying4 (by simp_all))) ?_
          refine d_pure [(19, _), (30, _)] rfl rfl ⟨⟨rfl, rfl⟩, ⟨rfl, rfl⟩, trivial⟩ rfl (p_pick_t rfl rfl) ?_
          refine d_pure [(31, _)] rfl rfl ⟨⟨rfl, rfl⟩, trivial⟩ rfl (p_move rfl) ?_
          first | refine d_pure [(7, _)] rfl rfl ⟨⟨rfl, rfl⟩, trivial⟩ rfl (p_loads rfl Try.g24 Try.c24 rfl rfl) ?_ | refine d_pure [(7, _)] rfl rfl ⟨⟨rfl, rfl⟩, trivial⟩ rfl (p_loadsr rfl Try.g24 Try.c24 rfl rfl rfl) ?_
          first | refine d_pure [(8, _)] rfl rfl ⟨⟨rfl, rfl⟩, trivial⟩ rfl (p_loads rfl Try.g24 Try.c24 rfl rfl) ?_ | refine d_pure [(8, _)] rfl rfl ⟨⟨rfl, rfl⟩, trivial⟩ rfl (p_loadsr rfl Try.g24 Try.c24 rfl rfl rfl) ?_
          refine d_rstep [(33, _), (34, _)] rfl rfl ⟨⟨rfl, rfl⟩, ⟨rfl, rfl⟩, trivial⟩ rfl (r_call rfl rfl Try.ent18 rfl (pairCmp_den p1 p2 q1 q2)) ?_
          refine d_pure [(9, _)] rfl rfl ⟨⟨rfl, rfl⟩, trivial⟩ rfl (p_move rfl) ?_
          refine d_pure [(35, _), (36, _)] rfl rfl ⟨⟨rfl, rfl⟩, ⟨rfl, rfl⟩, trivial⟩ rfl (p_bin rfl rfl (inteq_t (by rcases pair_cases p1 p2 q1 q2 with ⟨e1, e2, e3, e4⟩ | ⟨e1, e2, e3, e4⟩ | ⟨e1, e2, e3, e4⟩ <;> first | (simp_all; done) | (rw [e4]; rfl)))) ?_
          refine d_pure [(32, _), (37, _)] rfl rfl ⟨⟨rfl, rfl⟩, ⟨rfl, rfl⟩, trivial⟩ rfl (p_pick_t rfl rfl) ?_
          refine d_pure [(38, _)] rfl rfl ⟨⟨rfl, rfl⟩, trivial⟩ rfl (p_move rfl) ?_
          first | refine d_pure [(8, _)] rfl rfl ⟨⟨rfl, rfl⟩, trivial⟩ rfl (p_loads rfl Try.g24 Try.c24 rfl rfl) ?_ | refine d_pure [(8, _)] rfl rfl ⟨⟨rfl, rfl⟩, trivial⟩ rfl (p_loadsr rfl Try.g24 Try.c24 rfl rfl rfl) ?_
          first | refine d_pure [(7, _)] rfl rfl ⟨⟨rfl, rfl⟩, trivial⟩ rfl (p_loads rfl Try.g24 Try.c24 rfl rfl) ?_ | refine d_pure [(7, _)] rfl rfl ⟨⟨rfl, rfl⟩, trivial⟩ rfl (p_loadsr rfl Try.g24 Try.c24 rfl rfl rfl) ?_
          refine d_rstep [(40, _), (41, _)] rfl rfl ⟨⟨rfl, rfl⟩, ⟨rfl, rfl⟩, trivial⟩ rfl (r_call rfl rfl Try.ent18 rfl (pairCmp_den q1 q2 p1 p2)) ?_
          refine d_pure [(9, _)] rfl rfl ⟨⟨rfl, rfl⟩, trivial⟩ rfl (p_move rfl) ?_
          refine d_pure [(43, _)] rfl rfl ⟨⟨rfl, rfl⟩, trivial⟩ rfl (p_neg rfl) ?_
          refine d_pure [(42, _), (44, _)] rfl rfl ⟨⟨rfl, rfl⟩, ⟨rfl, rfl⟩, trivial⟩ rfl (p_bin rfl rfl (inteq_t (by rcases pair_cases p1 p2 q1 q2 with ⟨e1, e2, e3, e4⟩ | ⟨e1, e2, e3, e4⟩ | ⟨e1, e2, e3, e4⟩ <;> first | (simp_all; done) | (rw [e4]; rfl)))) ?_
          refine d_pure [(39, _), (45, _)] rfl rfl ⟨⟨rfl, rfl⟩, ⟨rfl, rfl⟩, trivial⟩ rfl (p_pick_t rfl rfl) ?_
          refine d_pure [(46, _)] rfl rfl ⟨⟨rfl, rfl⟩, trivial⟩ rfl (p_move rfl) ?_
          first | refine d_pure [(7, _)] rfl rfl ⟨⟨rfl, rfl⟩, trivial⟩ rfl (p_loads rfl Try.g24 Try.c24 rfl rfl) ?_ | refine d_pure [(7, _)] rfl rfl ⟨⟨rfl, rfl⟩, trivial⟩ rfl (p_loadsr rfl Try.g24 Try.c24 rfl rfl rfl) ?_
          refine d_pure [(2, _)] rfl rfl ⟨⟨rfl, rfl⟩, trivial⟩ rfl (p_move rfl) ?_
          refine d_rstep [(48, _), (49, _)] rfl rfl ⟨⟨rfl, rfl⟩, ⟨rfl, rfl⟩, trivial⟩ rfl (r_call rfl rfl Try.ent19 rfl (pairHas_den p1 p2 s)) ?_
          refine d_pure [(2, _)] rfl rfl ⟨⟨rfl, rfl⟩, trivial⟩ rfl (p_move rfl) ?_
          first | refine d_pure [(3, _)] rfl rfl ⟨⟨rfl, rfl⟩, trivial⟩ rfl (p_fld_adr rfl Try.fd23_0 Try.c9 rfl) ?_ | refine d_pure [(3, _)] rfl rfl ⟨⟨rfl, rfl⟩, trivial⟩ rfl (p_fld_ref rfl Try.fd23_0 Try.c9 rfl) ?_
          first | refine d_pure [(52, _)] rfl rfl ⟨⟨rfl, rfl⟩, trivial⟩ rfl (p_load1 rfl Try.g9 rfl) ?_ | refine d_pure [(52, _)] rfl rfl ⟨⟨rfl, rfl⟩, trivial⟩ rfl (p_load1r rfl Try.g9 rfl rfl) ?_ | refine d_pure [(52, _)] rfl rfl ⟨⟨rfl, rfl⟩, trivial⟩ rfl (p_load1r rfl Try.g9 rfl (strs_ref (by simp only [List.length_cons] at *; omega))) ?_ | refine d_pure [(52, _)] rfl rfl ⟨⟨rfl, rfl⟩, trivial⟩ rfl (p_load1r rfl Try.g9 rfl (strs_ref (by omega))) ?_
          refine d_pure [(51, _), (53, _)] rfl rfl ⟨⟨rfl, rfl⟩, ⟨rfl, rfl⟩, trivial⟩ rfl (p_bin rfl rfl rfl) ?_
          refine d_pure [(54, _)] rfl rfl ⟨⟨rfl, rfl⟩, trivial⟩ rfl (p_move rfl) ?_
          refine d_split 55 false rfl (fun hg14 => ?_) (fun hg14 => ?_)
          ·
            try simp only [Bool.not_eq_true', Bool.not_eq_false', Bool.not_true, Bool.not_false, Bool.not_not, decide_eq_true_eq, decide_eq_false_iff_not, beq_iff_eq, beq_eq_false_iff_ne, bne_iff_ne, bne_eq_false_iff_eq, ne_eq, Int.not_lt, Int.not_le, Nat.not_lt, Nat.not_le, gt_iff_lt, ge_iff_le, Bool.and_eq_true, Bool.or_eq_true, Int.ofNat_lt, Int.ofNat_le, Int.natCast_inj, strs_len, ints_len, List.length_cons, List.length_nil] at hg14
            refine d_pure [(2, _)] rfl rfl ⟨⟨rfl, rfl⟩, trivial⟩ rfl (p_move rfl) ?_
            first | refine d_pure [(3, _)] rfl rfl ⟨⟨rfl, rfl⟩, trivial⟩ rfl (p_fld_adr rfl Try.fd23_1 Try.c9 rfl) ?_ | refine d_pure [(3, _)] rfl rfl ⟨⟨rfl, rfl⟩, trivial⟩ rfl (p_fld_ref rfl Try.fd23_1 Try.c9 rfl) ?_
            first | refine d_pure [(57, _)] rfl rfl ⟨⟨rfl, rfl⟩, trivial⟩ rfl (p_load1 rfl Try.g9 rfl) ?_ | refine d_pure [(57, _)] rfl rfl ⟨⟨rfl, rfl⟩, trivial⟩ rfl (p_load1r rfl Try.g9 rfl rfl) ?_ | refine d_pure [(57, _)] rfl rfl ⟨⟨rfl, rfl⟩, trivial⟩ rfl (p_load1r rfl Try.g9 rfl (strs_ref (by simp only [List.length_cons] at *; omega))) ?_ | refine d_pure [(57, _)] rfl rfl ⟨⟨rfl, rfl⟩, trivial⟩ rfl (p_load1r rfl Try.g9 rfl (strs_ref (by omega))) ?_
            refine d_pure [(56, _), (58, _)] rfl rfl ⟨⟨rfl, rfl⟩, ⟨rfl, rfl⟩, trivial⟩ rfl (p_bin rfl rfl rfl) ?_
            refine d_pure [(55, _), (59, _)] rfl rfl ⟨⟨rfl, rfl⟩, ⟨rfl, rfl⟩, trivial⟩ rfl (p_pick_f rfl rfl) ?_
            refine d_pure [(50, _), (60, _)] rfl rfl ⟨⟨rfl, rfl⟩, ⟨rfl, rfl⟩, trivial⟩ rfl (p_bin rfl rfl (booleq_t Try.underlying4 (by first | exact has_t (by assumption) | exact has_f (by assumption)))) ?_
            refine d_pure [(47, _), (61, _)] rfl rfl ⟨⟨rfl, rfl⟩, ⟨rfl, rfl⟩, trivial⟩ rfl (p_pick_t rfl rfl) ?_
            refine d_pure [(62, _)] rfl rfl ⟨⟨rfl, rfl⟩, trivial⟩ rfl (p_move rfl) ?_
            first | refine d_pure [(7, _)] rfl rfl ⟨⟨rfl, rfl⟩, trivial⟩ rfl (p_loads rfl Try.g24 Try.c24 rfl rfl) ?_ | refine d_pure [(7, _)] rfl rfl ⟨⟨rfl, rfl⟩, trivial⟩ rfl (p_loadsr rfl Try.g24 Try.c24 rfl rfl rfl) ?_
            first | refine d_pure [(3, _)] rfl rfl ⟨⟨rfl, rfl⟩, trivial⟩ rfl (p_fld_adr rfl Try.fd23_1 Try.c9 rfl) ?_ | refine d_pure [(3, _)] rfl rfl ⟨⟨rfl, rfl⟩, trivial⟩ rfl (p_fld_ref rfl Try.fd23_1 Try.c9 rfl) ?_
            first | refine d_pure [(65, _)] rfl rfl ⟨⟨rfl, rfl⟩, trivial⟩ rfl (p_load1 rfl Try.g9 rfl) ?_ | refine d_pure [(65, _)] rfl rfl ⟨⟨rfl, rfl⟩, trivial⟩ rfl (p_load1r rfl Try.g9 rfl rfl) ?_ | refine d_pure [(65, _)] rfl rfl ⟨⟨rfl, rfl⟩, trivial⟩ rfl (p_load1r rfl Try.g9 rfl (strs_ref (by simp only [List.length_cons] at *; omega))) ?_ | refine d_pure [(65, _)] rfl rfl ⟨⟨rfl, rfl⟩, trivial⟩ rfl (p_load1r rfl Try.g9 rfl (strs_ref (by omega))) ?_
            refine d_rstep [(64, _), (66, _)] rfl rfl ⟨⟨rfl, rfl⟩, ⟨rfl, rfl⟩, trivial⟩ rfl (r_call rfl rfl Try.ent19 rfl ((show Den Try.prog _ _ (· = .s (.bool true)) from (pairHas_den p1 p2 p2).mono (fun r h => h.trans (by simp [hasB]))))) ?_
            refine d_pure [(63, _), (67, _)] rfl rfl ⟨⟨rfl, rfl⟩, ⟨rfl, rfl⟩, trivial⟩ rfl (p_pick_t rfl rfl) ?_
            refine d_pure [(68, _)] rfl rfl ⟨⟨rfl, rfl⟩, trivial⟩ rfl (p_assign rfl) ?_
            refine lex_end (sl' := [(6, _)]) rfl ⟨rfl, trivial⟩ rfl ?_
            refine hK13 _ ?_
            refine aw_ret ?_
            refine ⟨_, rfl, ?_⟩
            rfl
          ·
            try simp only [Bool.not_eq_true', Bool.not_eq_false', Bool.not_true, Bool.not_false, Bool.not_not, decide_eq_true_eq, decide_eq_false_iff_not, beq_iff_eq, beq_eq_false_iff_ne, bne_iff_ne, bne_eq_false_iff_eq, ne_eq, Int.not_lt, Int.not_le, Nat.not_lt, Nat.not_le, gt_iff_lt, ge_iff_le, Bool.and_eq_true, Bool.or_eq_true, Int.ofNat_lt, Int.ofNat_le, Int.natCast_inj, strs_len, ints_len, List.length_cons, List.length_nil] at hg14
            refine d_skip rfl rfl ?_
            refine d_skip rfl rfl ?_
            refine d_skip rfl rfl ?_
            refine d_skip rfl rfl ?_
            refine d_pure [(55, _), (59, _)] rfl rfl ⟨⟨rfl, rfl⟩, ⟨rfl, rfl⟩, trivial⟩ rfl (p_pick_t rfl rfl) ?_
            refine d_pure [(50, _), (60, _)] rfl rfl ⟨⟨rfl, rfl⟩, ⟨rfl, rfl⟩, trivial⟩ rfl (p_bin rfl rfl (booleq_t Try.underlying4 (by first | exact has_t (by assumption) | exact has_f (by assumption)))) ?_
            refine d_pure [(47, _), (61, _)] rfl rfl ⟨⟨rfl, rfl⟩, ⟨rfl, rfl⟩, trivial⟩ rfl (p_pick_t rfl rfl) ?_
            refine d_pure [(62, _)] rfl rfl ⟨⟨rfl, rfl⟩, trivial⟩ rfl (p_move rfl) ?_
            first | refine d_pure [(7, _)] rfl rfl ⟨⟨rfl, rfl⟩, trivial⟩ rfl (p_loads rfl Try.g24 Try.c24 rfl rfl) ?_ | refine d_pure [(7, _)] rfl rfl ⟨⟨rfl, rfl⟩, trivial⟩ rfl (p_loadsr rfl Try.g24 Try.c24 rfl rfl rfl) ?_
            first | refine d_pure [(3, _)] rfl rfl ⟨⟨rfl, rfl⟩, trivial⟩ rfl (p_fld_adr rfl Try.fd23_1 Try.c9 rfl) ?_ | refine d_pure [(3, _)] rfl rfl ⟨⟨rfl, rfl⟩, trivial⟩ rfl (p_fld_ref rfl Try.fd23_1 Try.c9 rfl) ?_
            first | refine d_pure [(65, _)] rfl rfl ⟨⟨rfl, rfl⟩, trivial⟩ rfl (p_load1 rfl Try.g9 rfl) ?_ | refine d_pure [(65, _)] rfl rfl ⟨⟨rfl, rfl⟩, trivial⟩ rfl (p_load1r rfl Try.g9 rfl rfl) ?_ | refine d_pure [(65, _)] rfl rfl ⟨⟨rfl, rfl⟩, trivial⟩ rfl (p_load1r rfl Try.g9 rfl (strs_ref (by simp only [List.length_cons] at *; omega))) ?_ | refine d_pure [(65, _)] rfl rfl ⟨⟨rfl, rfl⟩, trivial⟩ rfl (p_load1r rfl Try.g9 rfl (strs_ref (by omega))) ?_
            refine d_rstep [(64, _), (66, _)] rfl rfl ⟨⟨rfl, rfl⟩, ⟨rfl, rfl⟩, trivial⟩ rfl (r_call rfl rfl Try.ent19 rfl ((show Den Try.prog _ _ (· = .s (.bool true)) from (pairHas_den p1 p2 p2).mono (fun r h => h.trans (by simp [hasB]))))) ?_
            refine d_pure [(63, _), (67, _)] rfl rfl ⟨⟨rfl, rfl⟩, ⟨rfl, rfl⟩, trivial⟩ rfl (p_pick_t rfl rfl) ?_
            refine d_pure [(68, _)] rfl rfl ⟨⟨rfl, rfl⟩, trivial⟩ rfl (p_assign rfl) ?_
            refine lex_end (sl' := [(6, _)]) rfl ⟨rfl, trivial⟩ rfl ?_
            refine hK13 _ ?_
            refine aw_ret ?_
            refine ⟨_, rfl, ?_⟩
            rfl
        ·
          try simp only [Bool.not_eq_true', Bool.not_eq_false', Bool.not_true, Bool.not_false, Bool.not_not, decide_eq_true_eq, decide_eq_false_iff_not, beq_iff_eq, beq_eq_false_iff_ne, bne_iff_ne, bne_eq_false_iff_eq, ne_eq, Int.not_lt, Int.not_le, Nat.not_lt, Nat.not_le, gt_iff_lt, ge_iff_le, Bool.and_eq_true, Bool.or_eq_true, Int.ofNat_lt, Int.ofNat_le, Int.natCast_inj, strs_len, ints_len, List.length_cons, List.length_nil] at hg13
          refine d_skip rfl rfl ?_
          refine d_skip rfl rfl ?_
          refine d_skip rfl rfl ?_
          refine d_pure [(25, _), (28, _)] rfl rfl ⟨⟨rfl, rfl⟩, ⟨rfl, rfl⟩, trivial⟩ rfl (p_pick_f rfl rfl) ?_
          refine d_pure [(21, _), (29, _)] rfl rfl ⟨⟨rfl, rfl⟩, ⟨rfl, rfl⟩, trivial⟩ rfl (p_bin rfl rfl (booleq_t Try.underlying4 (by simp_all))) ?_
          refine d_pure [(19, _), (30, _)] rfl rfl ⟨⟨rfl, rfl⟩, ⟨rfl, rfl⟩, trivial⟩ rfl (p_pick_t rfl rfl) ?_
          refine d_pure [(31, _)] rfl rfl ⟨⟨rfl, rfl⟩, trivial⟩ rfl (p_move rfl) ?_
          first | refine d_pure [(7, _)] rfl rfl ⟨⟨rfl, rfl⟩, trivial⟩ rfl (p_loads rfl Try.g24 Try.c24 rfl rfl) ?_ | refine d_pure [(7, _)] rfl rfl ⟨⟨rfl, rfl⟩, trivial⟩ rfl (p_loadsr rfl Try.g24 Try.c24 rfl rfl rfl) ?_
          first | refine d_pure [(8, _)] rfl rfl ⟨⟨rfl, rfl⟩, trivial⟩ rfl (p_loads rfl Try.g24 Try.c24 rfl rfl) ?_ | refine d_pure [(8, _)] rfl rfl ⟨⟨rfl, rfl⟩, trivial⟩ rfl (p_loadsr rfl Try.g24 Try.c24 rfl rfl rfl) ?_
          refine d_rstep [(33, _), (34, _)] rfl rfl ⟨⟨rfl, rfl⟩, ⟨rfl, rfl⟩, trivial⟩ rfl (r_call rfl rfl Try.ent18 rfl (pairCmp_den p1 p2 q1 q2)) ?_
          refine d_pure [(9, _)] rfl rfl ⟨⟨rfl, rfl⟩, trivial⟩ rfl (p_move rfl) ?_
          refine d_pure [(35, _), (36, _)] rfl rfl ⟨⟨rfl, rfl⟩, ⟨rfl, rfl⟩, trivial⟩ rfl (p_bin rfl rfl (inteq_t (by rcases pair_cases p1 p2 q1 q2 with ⟨e1, e2, e3, e4⟩ | ⟨e1, e2, e3, e4⟩ | ⟨e1, e2, e3, e4⟩ <;> first | (simp_all; done) | (rw [e4]; rfl)))) ?_
          refine d_pure [(32, _), (37, _)] rfl rfl ⟨⟨rfl, rfl⟩, ⟨rfl, rfl⟩, trivial⟩ rfl (p_pick_t rfl rfl) ?_
          refine d_pure [(38, _)] rfl rfl ⟨⟨rfl, rfl⟩, trivial⟩ rfl (p_move rfl) ?_
          first | refine d_pure [(8, _)] rfl rfl ⟨⟨rfl, rfl⟩, trivial⟩ rfl (p_loads rfl Try.g24 Try.c24 rfl rfl) ?_ | refine d_pure [(8, _)] rfl rfl ⟨⟨rfl, rfl⟩, trivial⟩ rfl (p_loadsr rfl Try.g24 Try.c24 rfl rfl rfl) ?_
          first | refine d_pure [(7, _)] rfl rfl ⟨⟨rfl, rfl⟩, trivial⟩ rfl (p_loads rfl Try.g24 Try.c24 rfl rfl) ?_ | refine d_pure [(7, _)] rfl rfl ⟨⟨rfl, rfl⟩, trivial⟩ rfl (p_loadsr rfl Try.g24 Try.c24 rfl rfl rfl) ?_
          refine d_rstep [(40, _), (41, _)] rfl rfl ⟨⟨rfl, rfl⟩, ⟨rfl, rfl⟩, trivial⟩ rfl (r_call rfl rfl Try.ent18 rfl (pairCmp_den q1 q2 p1 p2)) ?_
          refine d_pure [(9, _)] rfl rfl ⟨⟨rfl, rfl⟩, trivial⟩ rfl (p_move rfl) ?_
          refine d_pure [(43, _)] rfl rfl ⟨⟨rfl, rfl⟩, trivial⟩ rfl (p_neg rfl) ?_
          refine d_pure [(42, _), (44, _)] rfl rfl ⟨⟨rfl, rfl⟩, ⟨rfl, rfl⟩, trivial⟩ rfl (p_bin rfl rfl (inteq_t (by rcases pair_cases p1 p2 q1 q2 with ⟨e1, e2, e3, e4⟩ | ⟨e1, e2, e3, e4⟩ | ⟨e1, e2, e3, e4⟩ <;> first | (simp_all; done) | (rw [e4]; rfl)))) ?_
          refine d_pure [(39, _), (45, _)] rfl rfl ⟨⟨rfl, rfl⟩, ⟨rfl, rfl⟩, trivial⟩ rfl (p_pick_t rfl rfl) ?_
          refine d_pure [(46, _)] rfl rfl ⟨⟨rfl, rfl⟩, trivial⟩ rfl (p_move rfl) ?_
          first | refine d_pure [(7, _)] rfl rfl ⟨⟨rfl, rfl⟩, trivial⟩ rfl (p_loads rfl Try.g24 Try.c24 rfl rfl) ?_ | refine d_pure [(7, _)] rfl rfl ⟨⟨rfl, rfl⟩, trivial⟩ rfl (p_loadsr rfl Try.g24 Try.c24 rfl rfl rfl) ?_
          refine d_pure [(2, _)] rfl rfl ⟨⟨rfl, rfl⟩, trivial⟩ rfl (p_move rfl) ?_
          refine d_rstep [(48, _), (49, _)] rfl rfl ⟨⟨rfl, rfl⟩, ⟨rfl, rfl⟩, trivial⟩ rfl (r_call rfl rfl Try.ent19 rfl (pairHas_den p1 p2 s)) ?_
          refine d_pure [(2, _)] rfl rfl ⟨⟨rfl, rfl⟩, trivial⟩ rfl (p_move rfl) ?_
          first | refine d_pure [(3, _)] rfl rfl ⟨⟨rfl, rfl⟩, trivial⟩ rfl (p_fld_adr rfl Try.fd23_0 Try.c9 rfl) ?_ | refine d_pure [(3, _)] rfl rfl ⟨⟨rfl, rfl⟩, trivial⟩ rfl (p_fld_ref rfl Try.fd23_0 Try.c9 rfl) ?_
          first | refine d_pure [(52, _)] rfl rfl ⟨⟨rfl, rfl⟩, trivial⟩ rfl (p_load1 rfl Try.g9 rfl) ?_ | refine d_pure [(52, _)] rfl rfl ⟨⟨rfl, rfl⟩, trivial⟩ rfl (p_load1r rfl Try.g9 rfl rfl) ?_ | refine d_pure [(52, _)] rfl rfl ⟨⟨rfl, rfl⟩, trivial⟩ rfl (p_load1r rfl Try.g9 rfl (strs_ref (by simp only [List.length_cons] at *; omega))) ?_ | refine d_pure [(52, _)] rfl rfl ⟨⟨rfl, rfl⟩, trivial⟩ rfl (p_load1r rfl Try.g9 rfl (strs_ref (by omega))) ?_
          refine d_pure [(51, _), (53, _)] rfl rfl ⟨⟨rfl, rfl⟩, ⟨rfl, rfl⟩, trivial⟩ rfl (p_bin rfl rfl rfl) ?_
          refine d_pure [(54, _)] rfl rfl ⟨⟨rfl, rfl⟩, trivial⟩ rfl (p_move rfl) ?_
          refine d_split 55 false rfl (fun hg15 => ?_) (fun hg15 => ?_)
          ·
            try simp only [Bool.not_eq_true', Bool.not_eq_false', Bool.not_true, Bool.not_false, Bool.not_not, decide_eq_true_eq, decide_eq_false_iff_not, beq_iff_eq, beq_eq_false_iff_ne, bne_iff_ne, bne_eq_false_iff_eq, ne_eq, Int.not_lt, Int.not_le, Nat.not_lt, Nat.not_le, gt_iff_lt, ge_iff_le, Bool.and_eq_true, Bool.or_eq_true, Int.ofNat_lt, Int.ofNat_le, Int.natCast_inj, strs_len, ints_len, List.length_cons, List.length_nil] at hg15
            refine d_pure [(2, _)] rfl rfl ⟨⟨rfl, rfl⟩, trivial⟩ rfl (p_move rfl) ?_
            first | refine d_pure [(3, _)] rfl rfl ⟨⟨rfl, rfl⟩, trivial⟩ rfl (p_fld_adr rfl Try.fd23_1 Try.c9 rfl) ?_ | refine d_pure [(3, _)] rfl rfl ⟨⟨rfl, rfl⟩, trivial⟩ rfl (p_fld_ref rfl Try.fd23_1 Try.c9 rfl) ?_
            first | refine d_pure [(57, _)] rfl rfl ⟨⟨rfl, rfl⟩, trivial⟩ rfl (p_load1 rfl Try.g9 rfl) ?_ | refine d_pure [(57, _)] rfl rfl ⟨⟨rfl, rfl⟩, trivial⟩ rfl (p_load1r rfl Try.g9 rfl rfl) ?_ | refine d_pure [(57, _)] rfl rfl ⟨⟨rfl, rfl⟩, trivial⟩ rfl (p_load1r rfl Try.g9 rfl (strs_ref (by simp only [List.length_cons] at *; omega))) ?_ | refine d_pure [(57, _)] rfl rfl ⟨⟨rfl, rfl⟩, trivial⟩ rfl (p_load1r rfl Try.g9 rfl (strs_ref (by omega))) ?_
            refine d_pure [(56, _), (58, _)] rfl rfl ⟨⟨rfl, rfl⟩, ⟨rfl, rfl⟩, trivial⟩ rfl (p_bin rfl rfl rfl) ?_
            refine d_pure [(55, _), (59, _)] rfl rfl ⟨⟨rfl, rfl⟩, ⟨rfl, rfl⟩, trivial⟩ rfl (p_pick_f rfl rfl) ?_
            refine d_pure [(50, _), (60, _)] rfl rfl ⟨⟨rfl, rfl⟩, ⟨rfl, rfl⟩, trivial⟩ rfl (p_bin rfl rfl (booleq_t Try.underlying4 (by first | exact has_t (by assumption) | exact has_f (by assumption)))) ?_
            refine d_pure [(47, _), (61, _)] rfl rfl ⟨⟨rfl, rfl⟩, ⟨rfl, rfl⟩, trivial⟩ rfl (p_pick_t rfl rfl) ?_
            refine d_pure [(62, _)] rfl rfl ⟨⟨rfl, rfl⟩, trivial⟩ rfl (p_move rfl) ?_
            first | refine d_pure [(7, _)] rfl rfl ⟨⟨rfl, rfl⟩, trivial⟩ rfl (p_loads rfl Try.g24 Try.c24 rfl rfl) ?_ | refine d_pure [(7, _)] rfl rfl ⟨⟨rfl, rfl⟩, trivial⟩ rfl (p_loadsr rfl Try.g24 Try.c24 rfl rfl rfl) ?_
            first | refine d_pure [(3, _)] rfl rfl ⟨⟨rfl, rfl⟩, trivial⟩ rfl (p_fld_adr rfl Try.fd23_1 Try.c9 rfl) ?_ | refine d_pure [(3, _)] rfl rfl ⟨⟨rfl, rfl⟩, trivial⟩ rfl (p_fld_ref rfl Try.fd23_1 Try.c9 rfl) ?_
            first | refine d_pure [(65, _)] rfl rfl ⟨⟨rfl, rfl⟩, trivial⟩ rfl (p_load1 rfl Try.g9 rfl) ?_ | refine d_pure [(65, _)] rfl rfl ⟨⟨rfl, rfl⟩, trivial⟩ rfl (p_load1r rfl Try.g9 rfl rfl) ?_ | refine d_pure [(65, _)] rfl rfl ⟨⟨rfl, rfl⟩, trivial⟩ rfl (p_load1r rfl Try.g9 rfl (strs_ref (by simp only [List.length_cons] at *; omega))) ?_ | refine d_pure [(65, _)] rfl rfl ⟨⟨rfl, rfl⟩, trivial⟩ rfl (p_load1r rfl Try.g9 rfl (strs_ref (by omega))) ?_
            refine d_rstep [(64, _), (66, _)] rfl rfl ⟨⟨rfl, rfl⟩, ⟨rfl, rfl⟩, trivial⟩ rfl (r_call rfl rfl Try.ent19 rfl ((show Den Try.prog _ _ (· = .s (.bool true)) from (pairHas_den p1 p2 p2).mono (fun r h => h.trans (by simp [hasB]))))) ?_
            refine d_pure [(63, _), (67, _)] rfl rfl ⟨⟨rfl, rfl⟩, ⟨rfl, rfl⟩, trivial⟩ rfl (p_pick_t rfl rfl) ?_
            refine d_pure [(68, _)] rfl rfl ⟨⟨rfl, rfl⟩, trivial⟩ rfl (p_assign rfl) ?_
            refine lex_end (sl' := [(6, _)]) rfl ⟨rfl, trivial⟩ rfl ?_
            refine hK13 _ ?_
            refine aw_ret ?_
            refine ⟨_, rfl, ?_⟩
            rfl
          ·
            try simp only [Bool.not_eq_true', Bool.not_eq_false', Bool.not_true, Bool.not_false, Bool.not_not, decide_eq_true_eq, decide_eq_false_iff_not, beq_iff_eq, beq_eq_false_iff_ne, bne_iff_ne, bne_eq_false_iff_eq, ne_eq, Int.not_lt, Int.not_le, Nat.not_lt, Nat.not_le, gt_iff_lt, ge_iff_le, Bool.and_eq_true, Bool.or_eq_true, Int.ofNat_lt, Int.ofNat_le, Int.natCast_inj, strs_len, ints_len, List.length_cons, List.length_nil] at hg15
            refine d_skip rfl rfl ?_
            refine d_skip rfl rfl ?_
            refine d_skip rfl rfl ?_
            refine d_skip rfl rfl ?_
            refine d_pure [(55, _), (59, _)] rfl rfl ⟨⟨rfl, rfl⟩, ⟨rfl, rfl⟩, trivial⟩ rfl (p_pick_t rfl rfl) ?_
            refine d_pure [(50, _), (60, _)] rfl rfl ⟨⟨rfl, rfl⟩, ⟨rfl, rfl⟩, trivial⟩ rfl (p_bin rfl rfl (booleq_t Try.underlying4 (by first | exact has_t (by assumption) | exact has_f (by assumption)))) ?_
            refine d_pure [(47, _), (61, _)] rfl rfl ⟨⟨rfl, rfl⟩, ⟨rfl, rfl⟩, trivial⟩ rfl (p_pick_t rfl rfl) ?_
            refine d_pure [(62, _)] rfl rfl ⟨⟨rfl, rfl⟩, trivial⟩ rfl (p_move rfl) ?_
            first | refine d_pure [(7, _)] rfl rfl ⟨⟨rfl, rfl⟩, trivial⟩ rfl (p_loads rfl Try.g24 Try.c24 rfl rfl) ?_ | refine d_pure [(7, _)] rfl rfl ⟨⟨rfl, rfl⟩, trivial⟩ rfl (p_loadsr rfl Try.g24 Try.c24 rfl rfl rfl) ?_
            first | refine d_pure [(3, _)] rfl rfl ⟨⟨rfl, rfl⟩, trivial⟩ rfl (p_fld_adr rfl Try.fd23_1 Try.c9 rfl) ?_ | refine d_pure [(3, _)] rfl rfl ⟨⟨rfl, rfl⟩, trivial⟩ rfl (p_fld_ref rfl Try.fd23_1 Try.c9 rfl) ?_
            first | refine d_pure [(65, _)] rfl rfl ⟨⟨rfl, rfl⟩, trivial⟩ rfl (p_load1 rfl Try.g9 rfl) ?_ | refine d_pure [(65, _)] rfl rfl ⟨⟨rfl, rfl⟩, trivial⟩ rfl (p_load1r rfl Try.g9 rfl rfl) ?_ | refine d_pure [(65, _)] rfl rfl ⟨⟨rfl, rfl⟩, trivial⟩ rfl (p_load1r rfl Try.g9 rfl (strs_ref (by simp only [List.length_cons] at *; omega))) ?_ | refine d_pure [(65, _)] rfl rfl ⟨⟨rfl, rfl⟩, trivial⟩ rfl (p_load1r rfl Try.g9 rfl (strs_ref (by omega))) ?_
            refine d_rstep [(64, _), (66, _)] rfl rfl ⟨⟨rfl, rfl⟩, ⟨rfl, rfl⟩, trivial⟩ rfl (r_call rfl rfl Try.ent19 rfl ((show Den Try.prog _ _ (· = .s (.bool true)) from (pairHas_den p1 p2 p2).mono (fun r h => h.trans (by simp [hasB]))))) ?_
            refine d_pure [(63, _), (67, _)] rfl rfl ⟨⟨rfl, rfl⟩, ⟨rfl, rfl⟩, trivial⟩ rfl (p_pick_t rfl rfl) ?_
            refine d_pure [(68, _)] rfl rfl ⟨⟨rfl, rfl⟩, trivial⟩ rfl (p_assign rfl) ?_
            refine lex_end (sl' := [(6, _)]) rfl ⟨rfl, trivial⟩ rfl ?_
            refine hK13 _ ?_
            refine aw_ret ?_
            refine ⟨_, rfl, ?_⟩
            rfl
end Go.Proofs.Ytkjniggdldpnoaa.Nm
