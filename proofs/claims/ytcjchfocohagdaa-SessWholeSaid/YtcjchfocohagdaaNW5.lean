import Derived.Test.YtcjchfocohagdaaNW4
import Derived.Test.YtcjchfocohagdaaQ6
import Derived.Test.YtcjchfocohagdaaL
set_option linter.unusedVariables false
set_option linter.unusedSimpArgs false
namespace Go.Proofs.Ytcjchfocohagdaa.Nm
open Go Go.Abs

/-- slices.SortFunc at this seat. -/
theorem sorts1 : Sorts1 Try.prog 70 := fun m enc cf g cb blk off cap d w h1 hO eg hc hH hb hs => Go.Proofs.Any.slices_SortFunc Try.sortS enc h1 cf hO g cb blk off cap d w eg hc hH hb hs
theorem sorts0 : Sorts0 Try.prog 70 := fun p cap fv w => Go.Proofs.AnyF.slices_SortFunc_none { Try.sortS with } p cap fv w
theorem sort_den (l : List ByteArray) (hl : l.length ≤ 1000000) : DenM Try.prog 70 [.own E0 1 0 (strs l).length, .fn 71 []] 1 (strs l)
    (fun r ys => ∃ ms : List ByteArray, ms.Perm l ∧ ms.Pairwise (fun x y => ¬ cmpB y x < 0) ∧ ys = strs ms) := by
  rw [strs_len]
  exact sort_denM sorts1 sorts0 Try.ent71 l encS (fun _ _ => rfl) cmpB cmp_swo (fun x _ y _ => cmp_den x y) (by omega)
theorem compacts1 : Compacts1 Try.prog 72 ByteArray Value.string ⟨#[]⟩ := fun blk off cap d w hH hs hc =>
  Go.Proofs.AnyE.slices_Compact Try.compS Value.string (fun _ => rfl) ⟨fun x y w => by simp only [Go.binOp, Op.stringOp]; simp; rw [Bool.eq_iff_iff]; simp [toList_inj], (Go.Proofs.EqlAt.string _ _).2⟩ ⟨fun x y w => by simp only [Go.binOp, Op.stringOp]; simp; rw [Bool.eq_iff_iff]; simp [toList_inj], (Go.Proofs.NeqAt.string _ _).2⟩ ⟨#[]⟩ (fun w => by kernel_rfl) blk off cap d w hH hs hc
theorem compact_den (ms : List ByteArray) (n : Nat) (hn : n = ms.length) (hl : ms.length ≤ 1000000) : DenM Try.prog 72 [.own E0 1 0 n] 1 (strs ms)
    (fun r ys => r = .own E0 1 0 (Go.Lib.compact ms).length ∧ ∃ z, ys = strs (Go.Lib.compact ms ++ z)) := by
  subst hn
  by_cases h : ms = []
  · subst h
    exact compact0_den.mono fun r ys ⟨h1, h2⟩ => ⟨h1, [], h2⟩
  · exact (compact_denM compacts1 (fun _ => rfl) ms h (by omega)).mono fun r ys ⟨h1, h2⟩ => ⟨h1, _, h2⟩

set_option maxRecDepth 20000 in
set_option maxHeartbeats 400000 in
theorem sorted_den (l : List ByteArray) (hl : l.length ≤ 1000000)  : Den Try.prog 53 [.sl 1 (strs l)]  (· = .sl 1 (strs (sortedL l))) := by
 refine den_of_aw Try.func53 rfl (Nat.le_of_ble_eq_true rfl) (fun w0 A hf => ?_)
 refine aw_seq_k (fun K1 hK1 => ?_)
 refine aw_region ?_
 refine x_pure rfl (p_assign_bad) ?_
 first | refine aops_end ?_ | refine aops_nil ?_
 refine hK1 _ ?_
 refine aw_seq_k (fun K2 hK2 => ?_)
 refine aw_region ?_
 refine x_pure rfl (p_move rfl) ?_
 refine y_callO hf rfl rfl rfl rfl rfl Try.ent69 rfl (clone_den _ (by assumption)) ?_
 rintro _ rfl
 refine x_pure rfl (p_assign rfl) ?_
 first | refine aops_end ?_ | refine aops_nil ?_
 refine hK2 _ ?_
 refine aw_seq_k (fun K3 hK3 => ?_)
 refine aw_region ?_
 refine x_pure rfl (p_move rfl) ?_
 refine y_callM hf 5 rfl rfl rfl rfl rfl Try.ent70 (sort_den _ (by assumption)) ?_
 rintro r zs ⟨ms, hp, hs, rfl⟩
 first | refine aops_end ?_ | refine aops_nil ?_
 refine hK3 _ ?_
 refine aw_seq_k (fun K4 hK4 => ?_)
 refine aw_region ?_
 refine x_pure rfl (p_move rfl) ?_
 refine y_callM hf 5 rfl rfl rfl rfl rfl Try.ent72 (compact_den ms _ (by rw [strs_len, hp.length_eq]) (by rw [hp.length_eq]; assumption)) ?_
 rintro r zs ⟨rfl, z, rfl⟩
 refine x_pure rfl (p_assign rfl) ?_
 first | refine aops_end ?_ | refine aops_nil ?_
 refine hK4 _ ?_
 refine aw_ret ?_
 refine ⟨_, rfl, ?_⟩
 refine (conv_head (g := 5) rfl ?_ (take_strs _ _)).trans ?_
 · rw [strs_len, List.length_append]; exact Nat.le_add_right _ _
 · rw [sorted_of hp hs]
end Go.Proofs.Ytcjchfocohagdaa.Nm
