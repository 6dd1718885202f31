import Derived.Test.YtkjniggdldpnoaaVW0
import Derived.Test.YtkjniggdldpnoaaW3
import Derived.Test.YtkjniggdldpnoaaNW2
set_option linter.unusedVariables false
set_option linter.unusedSimpArgs false
namespace Go.Proofs.Ytkjniggdldpnoaa
open Go Go.Abs

set_option maxRecDepth 20000 in
set_option maxHeartbeats 400000 in
theorem sIndexFunc_den {g : Nat} {cap : List AV} (hent : ∀ args w, (callFunc g args).run Try.prog w = .ok (.enter g args) w) (hcl : cleanL (fun _ => false) cap = true) (p : Stay → Bool) (l : List Stay) (hl : l.length ≤ 9223372036854775807) (hp : ∀ x ∈ l, Den Try.prog g (.agg (stC x) :: cap) (· = .s (.bool (p x))))  : Den Try.prog 99 [.sl 4 (l.map stC), .fn g cap]  (· = .s (.int .i64 (idxB p l))) := by
 refine den_of_aw Try.func99 rfl (Nat.le_of_ble_eq_true rfl) (fun w0 A hf => ?_)
 refine aw_seq_k (fun K1 hK1 => ?_)
 refine aw_region ?_
 refine x_pure rfl (p_assign_bad) ?_
 first | refine aops_end ?_ | refine aops_nil ?_
 refine hK1 _ ?_
 refine aw_seq_k (fun K2 hK2 => ?_)
 refine aw_seq_k (fun K3 hK3 => ?_)
 refine aw_region ?_
 refine x_pure rfl (p_move rfl) ?_
 first | refine x_pure rfl (p_len_sl rfl Try.e61) ?_ | refine x_pure rfl (p_len_own rfl Try.e61) ?_ | refine x_pure rfl (p_len_nil rfl Try.e61) ?_
 refine x_pure rfl (p_move rfl) ?_
 first | refine aops_end ?_ | refine aops_nil ?_
 refine hK3 _ ?_
 refine aw_block ?_
 refine aw_loop (ι := Nat) (fun k => ⟨19, [(0, .sl 4 (l.map stC)), (1, .fn g cap), (7, .s (.int .i64 ((l.map stC).length : Nat))), (8, .s (.int .i64 (k : Nat)))], []⟩) (fun k => k ≤ l.length ∧ ∀ (j : Nat) (hj : j < l.length), j < k → p l[j] = false) (fun k => l.length - k) 0 ?_ ?_ ?_
 · exact ⟨by omega, by omega⟩
 · exact le_of ⟨rfl, rfl, rfl, rfl, trivial⟩
 ·
  rintro k hC
  obtain ⟨h1, h2⟩ := hC
  refine aw_seq_k (fun K4 hK4 => ?_)
  refine aw_region ?_
  refine x_pure rfl (p_bin rfl rfl rfl) ?_
  first | refine aops_end ?_ | refine aops_nil ?_
  refine hK4 _ ?_
  refine aw_seq_k (fun K5 hK5 => ?_)
  refine aw_cond_s rfl (fun hc1 => ?_) (fun hc1 => ?_)
  ·
   try simp only [bs] at hc1
   refine aw_skip ?_
   refine hK5 _ ?_
   refine aw_seq_k (fun K6 hK6 => ?_)
   refine aw_block ?_
   refine aw_seq_k (fun K7 hK7 => ?_)
   refine aw_region ?_
   refine x_pure rfl (p_move rfl) ?_
   refine x_pure rfl (p_assign rfl) ?_
   first | refine aops_end ?_ | refine aops_nil ?_
   refine hK7 _ ?_
   refine aw_seq_k (fun K8 hK8 => ?_)
   refine aw_region ?_
   refine x_pure rfl (p_move rfl) ?_
   refine x_pure rfl (p_move rfl) ?_
   refine x_pure rfl (p_move rfl) ?_
   first | refine x_pure rfl (p_idx_sl rfl rfl Try.e61 Try.c57 (by first | assumption | (refine ⟨by omega, ?_⟩; first | assumption | exact strs_at (by omega) | exact strs_at (by simp only [List.length_cons] at *; omega) | exact ints_at (by omega) | exact map_at (by omega) | exact list_at (by omega)) | exact ⟨by decide, rfl⟩)) ?_ | refine x_pure rfl (p_idx_own rfl rfl Try.e61 Try.c57 (by omega)) ?_
   first | refine x_pure rfl (p_loads rfl Try.g57 Try.c57 rfl rfl) ?_ | refine x_pure rfl (p_loadsr rfl Try.g57 Try.c57 rfl rfl rfl) ?_
   refine x_step hf rfl (r_call rfl rfl hent (by rw [cleanL_cons, hcl]; rfl) (hp _ (List.getElem_mem _))) ?_
   first | refine aops_end ?_ | refine aops_nil ?_
   refine hK8 _ ?_
   refine aw_cond_s rfl (fun hc2 => ?_) (fun hc2 => ?_)
   ·
    try simp only [bs] at hc2
    refine aw_seq_k (fun K9 hK9 => ?_)
    refine aw_region ?_
    refine x_pure rfl (p_move rfl) ?_
    refine x_pure rfl (p_assign rfl) ?_
    first | refine aops_end ?_ | refine aops_nil ?_
    refine hK9 _ ?_
    refine aw_ret ?_
    refine ⟨_, rfl, ?_⟩
    refine ret_int ?_
    rw [idxB_found (by omega) h2 (by assumption)]
   ·
    try simp only [bs] at hc2
    refine aw_skip ?_
    refine hK6 _ ?_
    refine aw_region ?_
    first | refine x_pure rfl (p_add rfl rfl (by omega) (by omega)) ?_ | refine x_pure rfl (p_bin rfl rfl rfl) ?_
    refine x_pure rfl (p_move rfl) ?_
    first | refine aops_end ?_ | refine aops_nil ?_
    exact ⟨k+1, ⟨by omega, fun j hj hjk => by
      by_cases e : j = k
      · subst e; simp_all
      · exact h2 j hj (by omega)⟩, by omega, le_of ⟨rfl, rfl, rfl, rfl, trivial⟩⟩
  ·
   try simp only [bs] at hc1
   refine aw_exit ?_
   refine hK2 _ ?_
   refine aw_seq_k (fun K10 hK10 => ?_)
   refine aw_region ?_
   refine x_pure rfl (p_assign rfl) ?_
   first | refine aops_end ?_ | refine aops_nil ?_
   refine hK10 _ ?_
   refine aw_ret ?_
   refine ⟨_, rfl, ?_⟩
   refine ret_int ?_
   rw [idxB_none (fun j hj => h2 j hj (by omega))]

set_option maxRecDepth 20000 in
set_option maxHeartbeats 1000000 in
theorem sDeleteFunc_den {g : Nat} {cap : List AV} (hent : ∀ args w, (callFunc g args).run Try.prog w = .ok (.enter g args) w) (hcl : cleanL (fun _ => false) cap = true) (hcv : ∀ m, convL m cap = cap) (p : Stay → Bool) (l : List Stay) (n : Nat) (hn : n = l.length) (hl : l.length ≤ 9223372036854775807) (hp : ∀ x ∈ l, Den Try.prog g (.agg (stC x) :: cap) (· = .s (.bool (p x))))  : DenM Try.prog 77 [.own E0 4 0 n, .fn g cap] 4 ((l.map stC)) (fun r ys => r = .own E0 4 0 (l.filter fun x => !p x).length ∧ ys = ((l.filter fun x => !p x).map stC)) := by
 subst hn
 have hq0 : ∀ j, ((l.take j).filter fun x => !p x).length ≤ j := fun j => filter_take_le _ l j
 have hq1 : ∀ j, ((l.take j).filter fun x => !p x).length ≤ l.length := fun j => filter_take_len _ l j
 refine denm_of_aw Try.func77 rfl (Nat.le_of_ble_eq_true rfl) (fun w0 x0 A hf => ?_)
 refine aw_seq_k (fun K1 hK1 => ?_)
 refine aw_region ?_
 refine x_pure rfl (p_assign_bad) ?_
 first | refine aops_end ?_ | refine aops_nil ?_
 refine hK1 _ ?_
 refine aw_seq_k (fun K2 hK2 => ?_)
 refine aw_region ?_
 refine x_pure rfl (p_move rfl) ?_
 refine x_pure rfl (p_move rfl) ?_
 refine x_step hf rfl (r_callB rfl rfl (by show [AV.conv _ _, AV.fn g (convL _ cap)] = _; rw [hcv, conv_whole (g := E0) rfl (by simp)]) Try.ent99 (sIndexFunc_den hent hcl p l hl hp) rfl) ?_
 refine x_pure rfl (p_assign rfl) ?_
 first | refine aops_end ?_ | refine aops_nil ?_
 refine hK2 _ ?_
 refine aw_seq_k (fun K3 hK3 => ?_)
 refine aw_seq_k (fun K4 hK4 => ?_)
 refine aw_region ?_
 refine x_pure rfl (p_move rfl) ?_
 refine x_pure rfl (p_bin rfl rfl rfl) ?_
 first | refine aops_end ?_ | refine aops_nil ?_
 refine hK4 _ ?_
 refine aw_cond_s rfl (fun hc1 => ?_) (fun hc1 => ?_)
 ·
  try simp only [bs] at hc1
  refine aw_seq_k (fun K5 hK5 => ?_)
  refine aw_region ?_
  refine x_pure rfl (p_move rfl) ?_
  refine x_pure rfl (p_assign rfl) ?_
  first | refine aops_end ?_ | refine aops_nil ?_
  refine hK5 _ ?_
  refine aw_ret ?_
  have hno : idxB p l = -1 := by simpa using hc1
  rcases idxB_cases p l with ⟨_, hn⟩ | ⟨k, hk, e, _⟩
  · exact ⟨_, .own E0 4 0 l.length, (l.map stC), Le.refl _, rfl, rfl, by rw [none_filter p l hn], by rw [none_filter p l hn]⟩
  · exfalso; omega
 ·
  try simp only [bs] at hc1
  refine aw_skip ?_
  refine hK3 _ ?_
  refine aw_seq_k (fun K6 hK6 => ?_)
  refine aw_seq_k (fun K7 hK7 => ?_)
  refine aw_region ?_
  rcases idxB_cases p l with ⟨e0, _⟩ | ⟨k0, hk0, ek0, hpk0, hbef⟩
  · exact absurd e0 (by simpa using hc1)
  have hst := delRow_start (fun x => !p x) l k0 hk0 (fun j hj hjk => by simp [hbef j hj hjk]) (by simp [hpk0])
  rw [ek0]
  refine x_pure rfl (p_move rfl) ?_
  first | refine x_pure rfl (p_add rfl rfl (by omega) (by omega)) ?_ | refine x_pure rfl (p_bin rfl rfl rfl) ?_
  refine x_pure rfl (p_assign rfl) ?_
  first | refine aops_end ?_ | refine aops_nil ?_
  refine hK7 _ ?_
  refine aw_block ?_
  refine aw_loop (ι := Nat) (fun j => ⟨42, [(0, .own E0 4 0 l.length), (1, .fn g cap), (5, .s (.int .i64 (((l.take j).filter fun x => !p x).length : Nat))), (6, .s (.int .i64 (j : Nat)))], [(E0, .buf 4 ((delRow (fun x => !p x) l j).map stC))]⟩) (fun j => j ≤ l.length) (fun j => l.length - j) (k0 + 1) ?_ ?_ ?_
  · exact hk0
  · rw [hst.1, hst.2]; exact le_of ⟨rfl, rfl, rfl, rfl, trivial⟩
  ·
   rintro j hC
   let q := fun x => !p x
   have hle : ((l.take j).filter q).length ≤ j := hq0 j
   have hle2 : ((l.take j).filter fun x => !p x).length ≤ j := hq0 j
   refine aw_seq_k (fun K8 hK8 => ?_)
   refine aw_seq_k (fun K9 hK9 => ?_)
   refine aw_region ?_
   refine x_pure rfl (p_move rfl) ?_
   refine x_pure rfl (p_move rfl) ?_
   first | refine x_pure rfl (p_len_sl rfl Try.e61) ?_ | refine x_pure rfl (p_len_own rfl Try.e61) ?_ | refine x_pure rfl (p_len_nil rfl Try.e61) ?_
   refine x_pure rfl (p_bin rfl rfl rfl) ?_
   first | refine aops_end ?_ | refine aops_nil ?_
   refine hK9 _ ?_
   refine aw_cond_s rfl (fun hc2 => ?_) (fun hc2 => ?_)
   ·
    try simp only [bs] at hc2
    refine aw_skip ?_
    refine hK8 _ ?_
    refine aw_seq_k (fun K10 hK10 => ?_)
    refine aw_block ?_
    refine aw_seq_k (fun K11 hK11 => ?_)
    refine aw_region ?_
    refine x_pure rfl (p_move rfl) ?_
    refine x_pure rfl (p_move rfl) ?_
    first | refine x_pure rfl (p_idx_sl rfl rfl Try.e61 Try.c57 (by first | assumption | (refine ⟨by omega, ?_⟩; first | assumption | exact strs_at (by omega) | exact strs_at (by simp only [List.length_cons] at *; omega) | exact ints_at (by omega) | exact map_at (by omega) | exact list_at (by omega)) | exact ⟨by decide, rfl⟩)) ?_ | refine x_pure rfl (p_idx_own rfl rfl Try.e61 Try.c57 (by omega)) ?_
    refine x_pure rfl (p_loadsr rfl Try.g57 Try.c57 rfl (own_ble (c := 4) (k := j) (enc := stC) (by omega) (by rw [delRow_len]; omega) rfl) (cs' := stC l[j]) (by rw [own_take (c := 4) (k := j) (enc := stC) (by omega) (by rw [delRow_len]; omega) rfl, delRow_at q l j j (by omega) hle])) ?_
    refine x_allocst hf rfl Try.z57 rfl Try.c57 rfl rfl rfl rfl (by simp [stC, AV.cells, AV.leaf, Value.oneCell', splice, AV.kill, AV.clean, cleanL, AV.only]) ?_
    first | refine aops_end ?_ | refine aops_nil ?_
    refine hK11 _ ?_
    refine aw_seq_k (fun K12 hK12 => ?_)
    refine aw_region ?_
    refine x_pure rfl (p_move rfl) ?_
    first | refine x_pure rfl (p_loads rfl Try.g57 Try.c57 rfl rfl) ?_ | refine x_pure rfl (p_loadsr rfl Try.g57 Try.c57 rfl rfl rfl) ?_
    refine x_step hf rfl (r_call rfl rfl hent (by rw [cleanL_cons, hcl]; rfl) (hp _ (List.getElem_mem _))) ?_
    refine x_pure rfl (p_not rfl) ?_
    first | refine aops_end ?_ | refine aops_nil ?_
    refine hK12 _ ?_
    refine aw_cond_s rfl (fun hc3 => ?_) (fun hc3 => ?_)
    ·
     try simp only [bs] at hc3
     refine aw_seq_k (fun K13 hK13 => ?_)
     refine aw_region ?_
     refine x_pure rfl (p_move rfl) ?_
     refine x_pure rfl (p_move rfl) ?_
     first | refine x_pure rfl (p_loads rfl Try.g57 Try.c57 rfl rfl) ?_ | refine x_pure rfl (p_loadsr rfl Try.g57 Try.c57 rfl rfl rfl) ?_
     first | refine x_pure rfl (p_idx_sl rfl rfl Try.e61 Try.c57 (by first | assumption | (refine ⟨by omega, ?_⟩; first | assumption | exact strs_at (by omega) | exact strs_at (by simp only [List.length_cons] at *; omega) | exact ints_at (by omega) | exact map_at (by omega) | exact list_at (by omega)) | exact ⟨by decide, rfl⟩)) ?_ | refine x_pure rfl (p_idx_own rfl rfl Try.e61 Try.c57 (by omega)) ?_
     refine x_store hf rfl rfl Try.c57 rfl rfl (by simp [stC, AV.cells, AV.one, Value.oneCell', splice]) (by simp [stC, AV.cells, AV.leaf, Value.oneCell', splice]) (own_store (c := 4) (k := ((l.take j).filter fun x => !p x).length) (enc := stC) (v := l[j]) (by omega) (by rw [delRow_len]; omega) rfl (Nat.le_refl _)) ?_
     first | refine aops_end ?_ | refine aops_nil ?_
     refine hK13 _ ?_
     refine aw_region ?_
     rw [delRow_next_t (fun x => !p x) l j (by omega) (by simp_all)]
     refine x_pure rfl (p_move rfl) ?_
     first | refine x_pure rfl (p_add rfl rfl (by omega) (by omega)) ?_ | refine x_pure rfl (p_bin rfl rfl rfl) ?_
     rw [filt_next_t (fun x => !p x) l j (by omega) (by simp_all)]
     refine x_pure rfl (p_assign rfl) ?_
     first | refine aops_end ?_ | refine aops_nil ?_
     refine hK10 _ ?_
     refine aw_region ?_
     refine x_pure rfl (p_move rfl) ?_
     first | refine x_pure rfl (p_add rfl rfl (by omega) (by omega)) ?_ | refine x_pure rfl (p_bin rfl rfl rfl) ?_
     refine x_pure rfl (p_assign rfl) ?_
     first | refine aops_end ?_ | refine aops_nil ?_
     exact ⟨j+1, (by omega), by omega, le_of ⟨rfl, rfl, rfl, rfl, trivial⟩⟩
    ·
     try simp only [bs] at hc3
     rw [delRow_next_f (fun x => !p x) l j (by omega) (by simp_all), filt_next_f (fun x => !p x) l j (by omega) (by simp_all)]
     refine aw_skip ?_
     refine hK10 _ ?_
     refine aw_region ?_
     refine x_pure rfl (p_move rfl) ?_
     first | refine x_pure rfl (p_add rfl rfl (by omega) (by omega)) ?_ | refine x_pure rfl (p_bin rfl rfl rfl) ?_
     refine x_pure rfl (p_assign rfl) ?_
     first | refine aops_end ?_ | refine aops_nil ?_
     exact ⟨j+1, (by omega), by omega, le_of ⟨rfl, rfl, rfl, rfl, trivial⟩⟩
   ·
    try simp only [bs] at hc2
    refine aw_exit ?_
    refine hK6 _ ?_
    refine aw_seq_k (fun K14 hK14 => ?_)
    refine aw_region ?_
    refine x_pure rfl (p_move rfl) ?_
    refine x_pure rfl (p_move rfl) ?_
    first | refine x_pure rfl (p_slice_sl rfl Try.e61 Try.c57 rfl rfl (by omega) (by omega) rfl) ?_ | refine x_pure rfl (p_slice_own rfl Try.e61 Try.c57 rfl rfl (by omega) (by omega)) ?_ | refine x_pure rfl (p_slice_sl rfl Try.e61 Try.c57 (bnd_z rfl (by omega)) rfl (by omega) (by omega) rfl) ?_ | refine x_pure rfl (p_slice_own rfl Try.e61 Try.c57 (bnd_z rfl (by omega)) rfl (by omega) (by omega)) ?_
    refine x_clear hf Try.ap61 Try.z57 (by simp [Value.oneCell']) rfl rfl ?_
    first | refine aops_end ?_ | refine aops_nil ?_
    refine hK14 _ ?_
    refine aw_seq_k (fun K15 hK15 => ?_)
    refine aw_region ?_
    refine x_pure rfl (p_move rfl) ?_
    refine x_pure rfl (p_move rfl) ?_
    first | refine x_pure rfl (p_slice_sl rfl Try.e61 Try.c57 rfl rfl (by omega) (by omega) rfl) ?_ | refine x_pure rfl (p_slice_own rfl Try.e61 Try.c57 rfl rfl (by omega) (by omega)) ?_ | refine x_pure rfl (p_slice_sl rfl Try.e61 Try.c57 rfl (bnd_z rfl (by omega)) (by omega) (by omega) rfl) ?_ | refine x_pure rfl (p_slice_own rfl Try.e61 Try.c57 rfl (bnd_z rfl (by omega)) (by omega) (by omega)) ?_
    refine x_pure rfl (p_assign rfl) ?_
    first | refine aops_end ?_ | refine aops_nil ?_
    refine hK15 _ ?_
    refine aw_ret ?_
    have hjl : l.length ≤ j := by omega
    have he := delRow_end (fun x => !p x) l j hjl
    refine ⟨_, _, _, Le.refl _, rfl, rfl, ?_, ?_⟩
    · rw [List.take_of_length_le hjl]; rfl
    · rw [List.take_of_length_le hjl, Nat.zero_add, Int.toNat_natCast, ← List.map_take, he]

set_option maxRecDepth 20000 in
set_option maxHeartbeats 400000 in
theorem sClone_den (l : List Stay) (hl : l.length * 32 ≤ 140737488355328)  : DenO Try.prog 74 [.sl 4 (l.map stC)] 4 (· = (l.map stC)) := by
 refine deno_of_aw Try.func74 rfl (Nat.le_of_ble_eq_true rfl) (fun w0 A hf => ?_)
 refine aw_seq_k (fun K1 hK1 => ?_)
 refine aw_region ?_
 refine x_pure rfl (p_assign_bad) ?_
 first | refine aops_end ?_ | refine aops_nil ?_
 refine hK1 _ ?_
 refine aw_seq_k (fun K2 hK2 => ?_)
 refine aw_seq_k (fun K3 hK3 => ?_)
 refine aw_region ?_
 refine x_pure rfl (p_move rfl) ?_
 first | refine y_eqnil_sl rfl rfl rfl Try.e61 (fun b hb1 => ?_) | refine y_eqnil_own rfl rfl rfl Try.e61 (fun b hb1 => ?_)
 first | refine aops_end ?_ | refine aops_nil ?_
 refine hK3 _ ?_
 refine aw_cond_s rfl (fun hc2 => ?_) (fun hc2 => ?_)
 ·
  try simp only [bs] at hc2
  have hl0 : l = [] := by simpa using hb1 (by assumption)
  refine aw_seq_k (fun K4 hK4 => ?_)
  refine aw_region ?_
  refine x_nil hf 4 rfl rfl rfl ?_
  first | refine aops_end ?_ | refine aops_nil ?_
  refine hK4 _ ?_
  refine aw_ret ?_
  exact ⟨2, [], by decide, rfl, rfl, by rw [hl0]; rfl⟩
 ·
  try simp only [bs] at hc2
  refine aw_skip ?_
  refine hK2 _ ?_
  refine aw_seq_k (fun K5 hK5 => ?_)
  refine aw_region ?_
  refine y_buildSlice hf rfl rfl rfl Try.ap61 rfl rfl rfl rfl (by simp [stC, AV.cells, AV.leaf, Value.oneCell', splice, AV.kill, AV.clean, cleanL, AV.only]) ?_
  refine x_pure rfl (p_move rfl) ?_
  refine x_append hf rfl Try.ap61 rfl rfl rfl (.inl rfl) rfl rfl (by first | rfl | simp [asrc, look]) (by first | (simp only [maxLen, List.length_map, List.length_append, List.length_cons, List.length_nil]; omega) | (simp [maxLen] <;> omega)) (by first | (simp only [List.length_map, List.length_append, List.length_cons, List.length_nil]; omega) | (simp <;> omega)) ?_
  refine aops_le (le_of (sl' := [(7, _)]) ⟨rfl, trivial⟩) ?_
  refine x_pure rfl (p_assign rfl) ?_
  first | refine aops_end ?_ | refine aops_nil ?_
  refine hK5 _ ?_
  refine aw_ret ?_
  refine ⟨5, (l.map stC), by decide, rfl, ?_, rfl⟩
  show some (AV.own 5 4 0 (0 + (l.map stC).length)) = _
  rw [Nat.zero_add]

set_option maxRecDepth 20000 in
set_option maxHeartbeats 400000 in
theorem sGrow_den (n : Nat) (hn : n * 32 ≤ 140737488355328)  : DenO Try.prog 98 [.s (.slice none 0 0), .s (.int .i64 (n : Nat))] 4 (· = []) := by
 refine deno_of_aw Try.func98 rfl (Nat.le_of_ble_eq_true rfl) (fun w0 A hf => ?_)
 refine aw_seq_k (fun K1 hK1 => ?_)
 refine aw_region ?_
 refine x_pure rfl (p_assign_bad) ?_
 first | refine aops_end ?_ | refine aops_nil ?_
 refine hK1 _ ?_
 refine aw_seq_k (fun K2 hK2 => ?_)
 refine aw_seq_k (fun K3 hK3 => ?_)
 refine aw_region ?_
 refine x_pure rfl (p_move rfl) ?_
 refine x_pure rfl (p_bin rfl rfl rfl) ?_
 first | refine aops_end ?_ | refine aops_nil ?_
 refine hK3 _ ?_
 refine aw_cond_s rfl (fun hc1 => ?_) (fun hc1 => ?_)
 ·
  try simp only [bs] at hc1
  omega
 ·
  try simp only [bs] at hc1
  refine aw_skip ?_
  refine hK2 _ ?_
  refine aw_seq_k (fun K4 hK4 => ?_)
  refine aw_seq_k (fun K5 hK5 => ?_)
  refine aw_region ?_
  refine x_pure rfl (p_move rfl) ?_
  refine x_pure rfl (p_move rfl) ?_
  refine x_pure rfl (p_cap_nil rfl Try.e61) ?_
  refine x_pure rfl (p_move rfl) ?_
  first | refine x_pure rfl (p_len_sl rfl Try.e61) ?_ | refine x_pure rfl (p_len_own rfl Try.e61) ?_ | refine x_pure rfl (p_len_nil rfl Try.e61) ?_
  first | refine x_pure rfl (p_sub rfl rfl (by omega) (by omega)) ?_ | refine x_pure rfl (p_bin rfl rfl rfl) ?_
  first | refine x_pure rfl (p_sub rfl rfl (by omega) (by omega)) ?_ | refine x_pure rfl (p_bin rfl rfl rfl) ?_
  refine x_pure rfl (p_assign rfl) ?_
  first | refine aops_end ?_ | refine aops_nil ?_
  refine hK5 _ ?_
  refine aw_seq_k (fun K6 hK6 => ?_)
  refine aw_region ?_
  refine x_pure rfl (p_move rfl) ?_
  refine x_pure rfl (p_bin rfl rfl rfl) ?_
  first | refine aops_end ?_ | refine aops_nil ?_
  refine hK6 _ ?_
  refine aw_cond_s rfl (fun hc2 => ?_) (fun hc2 => ?_)
  ·
   try simp only [bs] at hc2
   refine aw_region ?_
   refine x_pure rfl (p_move rfl) ?_
   refine x_pure rfl (p_move rfl) ?_
   refine x_pure rfl (p_cap_nil rfl Try.e61) ?_
   first | refine x_pure rfl (p_slice_nil rfl Try.e61 Try.c57 rfl) ?_ | refine x_pure rfl (p_slice_sl rfl Try.e61 Try.c57 rfl rfl (by omega) (by omega) rfl) ?_ | refine x_pure rfl (p_slice_own rfl Try.e61 Try.c57 rfl rfl (by omega) (by omega)) ?_ | refine x_pure rfl (p_slice_sl rfl Try.e61 Try.c57 rfl (bnd_z rfl (by omega)) (by omega) (by omega) rfl) ?_ | refine x_pure rfl (p_slice_own rfl Try.e61 Try.c57 rfl (bnd_z rfl (by omega)) (by omega) (by omega)) ?_
   refine x_pure rfl (p_move rfl) ?_
   refine x_appmake hf rfl rfl rfl Try.ap61 Try.underlying3 rfl rfl (by omega) (by omega) (by simp only [maxLen]; omega) ?_
   refine x_pure rfl (p_move rfl) ?_
   first | refine x_pure rfl (p_len_sl rfl Try.e61) ?_ | refine x_pure rfl (p_len_own rfl Try.e61) ?_ | refine x_pure rfl (p_len_nil rfl Try.e61) ?_
   first | refine x_pure rfl (p_slice_nil rfl Try.e61 Try.c57 rfl) ?_ | refine x_pure rfl (p_slice_sl rfl Try.e61 Try.c57 rfl rfl (by omega) (by omega) rfl) ?_ | refine x_pure rfl (p_slice_own rfl Try.e61 Try.c57 rfl rfl (by omega) (by omega)) ?_ | refine x_pure rfl (p_slice_sl rfl Try.e61 Try.c57 rfl (bnd_z rfl (by omega)) (by omega) (by omega) rfl) ?_ | refine x_pure rfl (p_slice_own rfl Try.e61 Try.c57 rfl (bnd_z rfl (by omega)) (by omega) (by omega)) ?_
   refine x_pure rfl (p_assign rfl) ?_
   first | refine aops_end ?_ | refine aops_nil ?_
   refine hK4 _ ?_
   refine aw_seq_k (fun K7 hK7 => ?_)
   refine aw_region ?_
   refine x_pure rfl (p_move rfl) ?_
   first | refine x_nil' hf 4 rfl rfl rfl rfl ?_ | refine x_pure rfl (p_assign rfl) ?_
   first | refine aops_end ?_ | refine aops_nil ?_
   refine hK7 _ ?_
   refine aw_ret ?_
   first | exact ⟨22, [], by decide, rfl, rfl, rfl⟩ | exact ⟨4, [], by decide, rfl, rfl, rfl⟩
  ·
   try simp only [bs] at hc2
   refine aw_skip ?_
   refine hK4 _ ?_
   refine aw_seq_k (fun K8 hK8 => ?_)
   refine aw_region ?_
   refine x_pure rfl (p_move rfl) ?_
   first | refine x_nil' hf 4 rfl rfl rfl rfl ?_ | refine x_pure rfl (p_assign rfl) ?_
   first | refine aops_end ?_ | refine aops_nil ?_
   refine hK8 _ ?_
   refine aw_ret ?_
   first | exact ⟨22, [], by decide, rfl, rfl, rfl⟩ | exact ⟨4, [], by decide, rfl, rfl, rfl⟩

set_option maxRecDepth 20000 in
set_option maxHeartbeats 1000000 in
theorem sConcat_den (rows : List (List Stay)) (hl : rows.length ≤ 9223372036854775807) (hb : rows.flatten.length * 32 ≤ 140737488355328)  : DenO Try.prog 75 [.sl 1 (rows.map fun r => [AV.sl 4 (r.map stC)])] 4 (· = (rows.flatten.map stC)) := by
 refine deno_of_aw Try.func75 rfl (Nat.le_of_ble_eq_true rfl) (fun w0 A hf => ?_)
 refine aw_seq_k (fun K1 hK1 => ?_)
 refine aw_region ?_
 refine x_pure rfl (p_assign_bad) ?_
 first | refine aops_end ?_ | refine aops_nil ?_
 refine hK1 _ ?_
 refine aw_seq_k (fun K2 hK2 => ?_)
 refine aw_region ?_
 refine x_pure rfl (p_assign rfl) ?_
 first | refine aops_end ?_ | refine aops_nil ?_
 refine hK2 _ ?_
 refine aw_seq_k (fun K3 hK3 => ?_)
 refine aw_seq_k (fun K4 hK4 => ?_)
 refine aw_region ?_
 refine x_pure rfl (p_move rfl) ?_
 first | refine x_pure rfl (p_len_sl rfl Try.e126) ?_ | refine x_pure rfl (p_len_own rfl Try.e126) ?_ | refine x_pure rfl (p_len_nil rfl Try.e126) ?_
 refine x_pure rfl (p_move rfl) ?_
 first | refine aops_end ?_ | refine aops_nil ?_
 refine hK4 _ ?_
 refine aw_block ?_
 refine aw_loop (ι := Nat) (fun k => ⟨36, [(0, .sl 1 (rows.map fun r => [AV.sl 4 (r.map stC)])), (3, .s (.int .i64 ((rows.take k).flatten.length : Nat))), (9, .sl 1 (rows.map fun r => [AV.sl 4 (r.map stC)])), (10, .s (.int .i64 ((rows.map fun r => [AV.sl 4 (r.map stC)]).length : Nat))), (11, .s (.int .i64 (k : Nat)))], []⟩) (fun k => k ≤ rows.length) (fun k => rows.length - k) 0 ?_ ?_ ?_
 · exact Nat.zero_le _
 · exact le_of ⟨rfl, rfl, rfl, rfl, rfl, trivial⟩
 ·
  rintro k hC
  refine aw_seq_k (fun K5 hK5 => ?_)
  refine aw_region ?_
  refine x_pure rfl (p_bin rfl rfl rfl) ?_
  first | refine aops_end ?_ | refine aops_nil ?_
  refine hK5 _ ?_
  refine aw_seq_k (fun K6 hK6 => ?_)
  refine aw_cond_s rfl (fun hc1 => ?_) (fun hc1 => ?_)
  ·
   try simp only [bs] at hc1
   refine aw_skip ?_
   refine hK6 _ ?_
   refine aw_seq_k (fun K7 hK7 => ?_)
   refine aw_block ?_
   refine aw_seq_k (fun K8 hK8 => ?_)
   refine aw_region ?_
   first | refine x_pure rfl (p_idx_sl rfl rfl Try.e126 Try.c61 (by first | assumption | (refine ⟨by omega, ?_⟩; first | assumption | exact strs_at (by omega) | exact strs_at (by simp only [List.length_cons] at *; omega) | exact ints_at (by omega) | exact map_at (by omega) | exact list_at (by omega)) | exact ⟨by decide, rfl⟩)) ?_ | refine x_pure rfl (p_idx_own rfl rfl Try.e126 Try.c61 (by omega)) ?_
   first | refine x_pure rfl (p_load1 rfl Try.g61 rfl) ?_ | refine x_pure rfl (p_load1r rfl Try.g61 rfl rfl) ?_ | refine x_pure rfl (p_load1r rfl Try.g61 rfl (strs_ref (by simp only [List.length_cons] at *; omega))) ?_ | refine x_pure rfl (p_load1r rfl Try.g61 rfl (strs_ref (by omega))) ?_
   refine x_pure rfl (p_assign rfl) ?_
   first | refine aops_end ?_ | refine aops_nil ?_
   refine hK8 _ ?_
   refine aw_seq_k (fun K9 hK9 => ?_)
   refine aw_region ?_
   have hk : k < rows.length := by omega
   have e1 := congrArg List.length (take_flat rows k hk)
   rw [List.length_append] at e1
   have e2 := flat_le rows (k + 1)
   have e3 : (rows[k].map stC).length = rows[k].length := List.length_map _
   refine x_pure rfl (p_move rfl) ?_
   refine x_pure rfl (p_move rfl) ?_
   first | refine x_pure rfl (p_len_sl rfl Try.e61) ?_ | refine x_pure rfl (p_len_own rfl Try.e61) ?_ | refine x_pure rfl (p_len_nil rfl Try.e61) ?_
   first | refine x_pure rfl (p_add rfl rfl (by omega) (by omega)) ?_ | refine x_pure rfl (p_bin rfl rfl rfl) ?_
   rw [show ((((rows.take k).flatten.length : Nat) : Int) + (((rows[k].map stC).length : Nat) : Int)) = (((rows.take (k + 1)).flatten.length : Nat) : Int) from by omega]
   refine x_pure rfl (p_assign rfl) ?_
   first | refine aops_end ?_ | refine aops_nil ?_
   refine hK9 _ ?_
   refine aw_seq_k (fun K10 hK10 => ?_)
   refine aw_region ?_
   refine x_pure rfl (p_move rfl) ?_
   refine x_pure rfl (p_bin rfl rfl rfl) ?_
   first | refine aops_end ?_ | refine aops_nil ?_
   refine hK10 _ ?_
   refine aw_cond_s rfl (fun hc2 => ?_) (fun hc2 => ?_)
   ·
    try simp only [bs] at hc2
    omega
   ·
    try simp only [bs] at hc2
    refine aw_skip ?_
    refine hK7 _ ?_
    refine aw_region ?_
    first | refine x_pure rfl (p_add rfl rfl (by omega) (by omega)) ?_ | refine x_pure rfl (p_bin rfl rfl rfl) ?_
    refine x_pure rfl (p_move rfl) ?_
    first | refine aops_end ?_ | refine aops_nil ?_
    exact ⟨k+1, (by omega), by omega, le_of ⟨rfl, rfl, rfl, rfl, rfl, trivial⟩⟩
  ·
   try simp only [bs] at hc1
   refine aw_exit ?_
   refine hK3 _ ?_
   refine aw_seq_k (fun K11 hK11 => ?_)
   refine aw_region ?_
   rw [List.take_of_length_le (show rows.length ≤ k by omega)]
   refine x_pure rfl (p_move rfl) ?_
   refine y_callO hf rfl rfl rfl rfl rfl Try.ent98 rfl (sGrow_den rows.flatten.length (by omega)) ?_
   rintro _ rfl
   refine x_pure rfl (p_assign rfl) ?_
   first | refine aops_end ?_ | refine aops_nil ?_
   refine hK11 _ ?_
   refine aw_seq_k (fun K12 hK12 => ?_)
   refine aw_seq_k (fun K13 hK13 => ?_)
   refine aw_region ?_
   refine x_pure rfl (p_move rfl) ?_
   first | refine x_pure rfl (p_len_sl rfl Try.e126) ?_ | refine x_pure rfl (p_len_own rfl Try.e126) ?_ | refine x_pure rfl (p_len_nil rfl Try.e126) ?_
   refine x_pure rfl (p_move rfl) ?_
   first | refine aops_end ?_ | refine aops_nil ?_
   refine hK13 _ ?_
   refine aw_block ?_
   refine aw_loop (ι := Nat) (fun j => ⟨36, [(6, .own 24 4 0 (rows.take j).flatten.length), (25, .sl 1 (rows.map fun r => [AV.sl 4 (r.map stC)])), (26, .s (.int .i64 ((rows.map fun r => [AV.sl 4 (r.map stC)]).length : Nat))), (27, .s (.int .i64 (j : Nat)))], [(24, .buf 4 ((rows.take j).flatten.map stC))]⟩) (fun j => j ≤ rows.length) (fun j => rows.length - j) 0 ?_ ?_ ?_
   · exact Nat.zero_le _
   · exact le_of ⟨rfl, rfl, rfl, rfl, trivial⟩
   ·
    rintro j hC
    refine aw_seq_k (fun K14 hK14 => ?_)
    refine aw_region ?_
    refine x_pure rfl (p_bin rfl rfl rfl) ?_
    first | refine aops_end ?_ | refine aops_nil ?_
    refine hK14 _ ?_
    refine aw_seq_k (fun K15 hK15 => ?_)
    refine aw_cond_s rfl (fun hc3 => ?_) (fun hc3 => ?_)
    ·
     try simp only [bs] at hc3
     refine aw_skip ?_
     refine hK15 _ ?_
     refine aw_seq_k (fun K16 hK16 => ?_)
     refine aw_block ?_
     refine aw_seq_k (fun K17 hK17 => ?_)
     refine aw_region ?_
     first | refine x_pure rfl (p_idx_sl rfl rfl Try.e126 Try.c61 (by first | assumption | (refine ⟨by omega, ?_⟩; first | assumption | exact strs_at (by omega) | exact strs_at (by simp only [List.length_cons] at *; omega) | exact ints_at (by omega) | exact map_at (by omega) | exact list_at (by omega)) | exact ⟨by decide, rfl⟩)) ?_ | refine x_pure rfl (p_idx_own rfl rfl Try.e126 Try.c61 (by omega)) ?_
     first | refine x_pure rfl (p_load1 rfl Try.g61 rfl) ?_ | refine x_pure rfl (p_load1r rfl Try.g61 rfl rfl) ?_ | refine x_pure rfl (p_load1r rfl Try.g61 rfl (strs_ref (by simp only [List.length_cons] at *; omega))) ?_ | refine x_pure rfl (p_load1r rfl Try.g61 rfl (strs_ref (by omega))) ?_
     refine x_pure rfl (p_assign rfl) ?_
     first | refine aops_end ?_ | refine aops_nil ?_
     refine hK17 _ ?_
     refine aw_region ?_
     have hj : j < rows.length := by omega
     have e1 := congrArg List.length (take_flat rows j hj)
     rw [List.length_append] at e1
     have e2 := flat_le rows (j + 1)
     have e3 : (rows[j].map stC).length = rows[j].length := List.length_map _
     refine x_pure rfl (p_move rfl) ?_
     refine x_pure rfl (p_move rfl) ?_
     refine x_append hf rfl Try.ap61 rfl rfl rfl (.inl rfl) (by simp only [List.length_map]) rfl (by first | rfl | simp [asrc, look]) (by first | (simp only [maxLen, List.length_map, List.length_append, List.length_cons, List.length_nil]; omega) | (simp [maxLen] <;> omega)) (by first | (simp only [List.length_map, List.length_append, List.length_cons, List.length_nil]; omega) | (simp <;> omega)) ?_
     refine aops_le (le_of (sl' := [(25, _), (26, _), (27, _), (33, _)]) ⟨rfl, rfl, rfl, rfl, trivial⟩) ?_
     rw [show (rows.take j).flatten.length + (rows[j].map stC).length = (rows.take (j + 1)).flatten.length from by omega, ← List.map_append, ← take_flat rows j hj]
     refine x_pure rfl (p_assign rfl) ?_
     first | refine aops_end ?_ | refine aops_nil ?_
     refine hK16 _ ?_
     refine aw_region ?_
     first | refine x_pure rfl (p_add rfl rfl (by omega) (by omega)) ?_ | refine x_pure rfl (p_bin rfl rfl rfl) ?_
     refine x_pure rfl (p_move rfl) ?_
     first | refine aops_end ?_ | refine aops_nil ?_
     exact ⟨j+1, (by omega), by omega, le_of ⟨rfl, rfl, rfl, rfl, trivial⟩⟩
    ·
     try simp only [bs] at hc3
     refine aw_exit ?_
     refine hK12 _ ?_
     refine aw_seq_k (fun K18 hK18 => ?_)
     refine aw_region ?_
     refine x_pure rfl (p_move rfl) ?_
     refine x_pure rfl (p_assign rfl) ?_
     first | refine aops_end ?_ | refine aops_nil ?_
     refine hK18 _ ?_
     refine aw_ret ?_
     refine ⟨24, (rows.flatten.map stC), by decide, ?_, ?_, rfl⟩
     · rw [List.take_of_length_le (show rows.length ≤ j by omega)]; rfl
     · rw [List.take_of_length_le (show rows.length ≤ j by omega)]
       show some (AV.own 24 4 0 rows.flatten.length) = _
       rw [List.length_map]

set_option maxRecDepth 20000 in
set_option maxHeartbeats 400000 in
theorem sEqual_den (a b : List Stay) (ha : a.length ≤ 9223372036854775807) (hb : b.length ≤ 9223372036854775807)  : Den Try.prog 79 [.sl 4 (a.map stC), .sl 4 (b.map stC)]  (· = .s (.bool (decide (a = b)))) := by
 refine den_of_aw Try.func79 rfl (Nat.le_of_ble_eq_true rfl) (fun w0 A hf => ?_)
 refine aw_seq_k (fun K1 hK1 => ?_)
 refine aw_region ?_
 refine x_pure rfl (p_assign_bad) ?_
 first | refine aops_end ?_ | refine aops_nil ?_
 refine hK1 _ ?_
 refine aw_seq_k (fun K2 hK2 => ?_)
 refine aw_seq_k (fun K3 hK3 => ?_)
 refine aw_region ?_
 refine x_pure rfl (p_move rfl) ?_
 first | refine x_pure rfl (p_len_sl rfl Try.e61) ?_ | refine x_pure rfl (p_len_own rfl Try.e61) ?_ | refine x_pure rfl (p_len_nil rfl Try.e61) ?_
 refine x_pure rfl (p_move rfl) ?_
 first | refine x_pure rfl (p_len_sl rfl Try.e61) ?_ | refine x_pure rfl (p_len_own rfl Try.e61) ?_ | refine x_pure rfl (p_len_nil rfl Try.e61) ?_
 refine x_pure rfl (p_bin rfl rfl rfl) ?_
 first | refine aops_end ?_ | refine aops_nil ?_
 refine hK3 _ ?_
 refine aw_cond_s rfl (fun hc1 => ?_) (fun hc1 => ?_)
 ·
  try simp only [bs] at hc1
  refine aw_seq_k (fun K4 hK4 => ?_)
  refine aw_region ?_
  refine x_pure rfl (p_assign rfl) ?_
  first | refine aops_end ?_ | refine aops_nil ?_
  refine hK4 _ ?_
  refine aw_ret ?_
  refine ⟨_, rfl, ?_⟩
  refine ret_bool ?_
  rw [eqrow_len (by omega)]
 ·
  try simp only [bs] at hc1
  refine aw_skip ?_
  refine hK2 _ ?_
  refine aw_seq_k (fun K5 hK5 => ?_)
  refine aw_seq_k (fun K6 hK6 => ?_)
  refine aw_region ?_
  refine x_pure rfl (p_move rfl) ?_
  first | refine x_pure rfl (p_len_sl rfl Try.e61) ?_ | refine x_pure rfl (p_len_own rfl Try.e61) ?_ | refine x_pure rfl (p_len_nil rfl Try.e61) ?_
  refine x_pure rfl (p_move rfl) ?_
  first | refine aops_end ?_ | refine aops_nil ?_
  refine hK6 _ ?_
  refine aw_block ?_
  refine aw_loop (ι := Nat) (fun k => ⟨26, [(0, .sl 4 (a.map stC)), (1, .sl 4 (b.map stC)), (12, .s (.int .i64 ((a.map stC).length : Nat))), (13, .s (.int .i64 (k : Nat)))], []⟩) (fun k => k ≤ a.length ∧ a.take k = b.take k) (fun k => a.length - k) 0 ?_ ?_ ?_
  · exact ⟨Nat.zero_le _, rfl⟩
  · exact le_of ⟨rfl, rfl, rfl, rfl, trivial⟩
  ·
   rintro k hC
   obtain ⟨h1, h2⟩ := hC
   refine aw_seq_k (fun K7 hK7 => ?_)
   refine aw_region ?_
   refine x_pure rfl (p_bin rfl rfl rfl) ?_
   first | refine aops_end ?_ | refine aops_nil ?_
   refine hK7 _ ?_
   refine aw_seq_k (fun K8 hK8 => ?_)
   refine aw_cond_s rfl (fun hc2 => ?_) (fun hc2 => ?_)
   ·
    try simp only [bs] at hc2
    refine aw_skip ?_
    refine hK8 _ ?_
    refine aw_seq_k (fun K9 hK9 => ?_)
    refine aw_block ?_
    refine aw_seq_k (fun K10 hK10 => ?_)
    refine aw_region ?_
    refine x_pure rfl (p_move rfl) ?_
    refine x_pure rfl (p_assign rfl) ?_
    first | refine aops_end ?_ | refine aops_nil ?_
    refine hK10 _ ?_
    refine aw_seq_k (fun K11 hK11 => ?_)
    refine aw_draw hf Try.mixed (by kernel_rfl) rfl ?_
    refine d_pure [(0, _)] rfl rfl ⟨⟨rfl, rfl⟩, trivial⟩ rfl (p_move rfl) ?_
    refine d_pure [(5, _)] rfl rfl ⟨⟨rfl, rfl⟩, trivial⟩ rfl (p_move rfl) ?_
    first | refine d_pure [(16, _), (17, _)] rfl rfl ⟨⟨rfl, rfl⟩, ⟨rfl, rfl⟩, trivial⟩ rfl (p_idx_sl rfl rfl Try.e61 Try.c57 (by first | assumption | (refine ⟨by omega, ?_⟩; first | assumption | exact strs_at (by omega) | exact strs_at (by simp only [List.length_cons] at *; omega) | exact ints_at (by omega) | exact map_at (by omega) | exact list_at (by omega)) | exact ⟨by decide, rfl⟩)) ?_ | refine d_pure [(16, _), (17, _)] rfl rfl ⟨⟨rfl, rfl⟩, ⟨rfl, rfl⟩, trivial⟩ rfl (p_idx_own rfl rfl Try.e61 Try.c57 (by omega)) ?_
    first | refine d_pure [(18, _)] rfl rfl ⟨⟨rfl, rfl⟩, trivial⟩ rfl (p_loads rfl Try.g57 Try.c57 rfl rfl) ?_ | refine d_pure [(18, _)] rfl rfl ⟨⟨rfl, rfl⟩, trivial⟩ rfl (p_loadsr rfl Try.g57 Try.c57 rfl rfl rfl) ?_
    refine d_pure [(1, _)] rfl rfl ⟨⟨rfl, rfl⟩, trivial⟩ rfl (p_move rfl) ?_
    refine d_pure [(5, _)] rfl rfl ⟨⟨rfl, rfl⟩, trivial⟩ rfl (p_move rfl) ?_
    first | refine d_pure [(20, _), (21, _)] rfl rfl ⟨⟨rfl, rfl⟩, ⟨rfl, rfl⟩, trivial⟩ rfl (p_idx_sl rfl rfl Try.e61 Try.c57 (by first | assumption | (refine ⟨by omega, ?_⟩; first | assumption | exact strs_at (by omega) | exact strs_at (by simp only [List.length_cons] at *; omega) | exact ints_at (by omega) | exact map_at (by omega) | exact list_at (by omega)) | exact ⟨by decide, rfl⟩)) ?_ | refine d_pure [(20, _), (21, _)] rfl rfl ⟨⟨rfl, rfl⟩, ⟨rfl, rfl⟩, trivial⟩ rfl (p_idx_own rfl rfl Try.e61 Try.c57 (by omega)) ?_
    first | refine d_pure [(22, _)] rfl rfl ⟨⟨rfl, rfl⟩, trivial⟩ rfl (p_loads rfl Try.g57 Try.c57 rfl rfl) ?_ | refine d_pure [(22, _)] rfl rfl ⟨⟨rfl, rfl⟩, trivial⟩ rfl (p_loadsr rfl Try.g57 Try.c57 rfl rfl rfl) ?_
    refine d_pure [(19, _), (23, _)] rfl rfl ⟨⟨rfl, rfl⟩, ⟨rfl, rfl⟩, trivial⟩ rfl (p_neagg rfl rfl Try.q57 rfl) ?_
    rw [stC_eq]
    refine lex_end (sl' := [(0, _), (1, _), (12, _), (13, _), (24, _)]) rfl ⟨rfl, rfl, rfl, rfl, rfl, trivial⟩ rfl ?_
    refine hK11 _ ?_
    refine aw_cond_s rfl (fun hc3 => ?_) (fun hc3 => ?_)
    ·
     try simp only [bs] at hc3
     refine aw_seq_k (fun K12 hK12 => ?_)
     refine aw_region ?_
     refine x_pure rfl (p_assign rfl) ?_
     first | refine aops_end ?_ | refine aops_nil ?_
     refine hK12 _ ?_
     refine aw_ret ?_
     refine ⟨_, rfl, ?_⟩
     refine ret_bool ?_
     rw [eqrow_diff (by omega) (by omega) (by assumption)]
    ·
     try simp only [bs] at hc3
     refine aw_skip ?_
     refine hK9 _ ?_
     refine aw_region ?_
     first | refine x_pure rfl (p_add rfl rfl (by omega) (by omega)) ?_ | refine x_pure rfl (p_bin rfl rfl rfl) ?_
     refine x_pure rfl (p_move rfl) ?_
     first | refine aops_end ?_ | refine aops_nil ?_
     exact ⟨k+1, ⟨by omega, eqrow_next (by omega) (by omega) h2 (by assumption)⟩, by omega, le_of ⟨rfl, rfl, rfl, rfl, trivial⟩⟩
   ·
    try simp only [bs] at hc2
    refine aw_exit ?_
    refine hK5 _ ?_
    refine aw_seq_k (fun K13 hK13 => ?_)
    refine aw_region ?_
    refine x_pure rfl (p_assign rfl) ?_
    first | refine aops_end ?_ | refine aops_nil ?_
    refine hK13 _ ?_
    refine aw_ret ?_
    refine ⟨_, rfl, ?_⟩
    refine ret_bool ?_
    rw [eqrow_end (by omega) (by omega) h2]

set_option maxRecDepth 20000 in
set_option maxHeartbeats 400000 in
theorem oneS_den (a b c d : Int)  : Den Try.prog 73 [.s (.int .i64 a), .s (.int .i64 b), .s (.int .i64 c), .s (.int .i64 d)]  (· = .agg (stC ((a, b), (c, d)))) := by
 refine den_of_aw Try.func73 rfl (Nat.le_of_ble_eq_true rfl) (fun w0 A hf => ?_)
 refine aw_seq_k (fun K1 hK1 => ?_)
 refine aw_region ?_
 refine x_alloc hf rfl rfl rfl Try.z57 ?_
 first | refine aops_end ?_ | refine aops_nil ?_
 refine hK1 _ ?_
 refine aw_seq_k (fun K2 hK2 => ?_)
 refine aw_region ?_
 refine x_pure rfl (p_move rfl) ?_
 refine x_pure rfl (p_move rfl) ?_
 refine x_pure rfl (p_build rfl Try.z43 Try.pl43 (by simp [stC, spC, AV.cells, AV.one, Value.oneCell', splice, AV.kill, AV.clean, cleanL, AV.only]) rfl) ?_
 refine x_pure rfl (p_move rfl) ?_
 refine x_pure rfl (p_move rfl) ?_
 refine x_pure rfl (p_build rfl Try.z57 Try.pl57 (by simp [stC, spC, AV.cells, AV.one, Value.oneCell', splice, AV.kill, AV.clean, cleanL, AV.only]) rfl) ?_
 refine x_store hf rfl rfl Try.c57 rfl rfl (by simp [stC, spC, AV.cells, AV.one, Value.oneCell', splice, AV.kill, AV.clean, cleanL, AV.only]) (by simp [stC, spC, AV.cells, AV.leaf, Value.oneCell', splice, AV.kill, AV.clean, cleanL, AV.only]) rfl ?_
 first | refine aops_end ?_ | refine aops_nil ?_
 refine hK2 _ ?_
 refine aw_ret ?_
 refine ⟨_, rfl, ?_⟩
 rfl

set_option maxRecDepth 20000 in
set_option maxHeartbeats 400000 in
theorem newS_den (s : Stay)  : Den Try.prog 35 [.agg (stC s)]  (· = .agg (stC s)) := by
 refine den_of_aw Try.func35 rfl (Nat.le_of_ble_eq_true rfl) (fun w0 A hf => ?_)
 refine aw_seq_k (fun K1 hK1 => ?_)
 refine aw_region ?_
 refine x_step hf rfl (r_box rfl rfl (by simp [stC, spC, AV.cells, AV.leaf, Value.oneCell', splice, AV.kill, AV.clean, cleanL, AV.only])) ?_
 refine x_alloc hf rfl rfl rfl Try.z57 ?_
 first | refine aops_end ?_ | refine aops_nil ?_
 refine hK1 _ ?_
 refine aw_seq_k (fun K2 hK2 => ?_)
 refine aw_region ?_
 first | refine x_pure rfl (p_fld_adr rfl Try.fd52_0 Try.c3 rfl) ?_ | refine x_pure rfl (p_fld_ref rfl Try.fd52_0 Try.c3 rfl) ?_
 first | refine x_pure rfl (p_load1 rfl Try.g3 rfl) ?_ | refine x_pure rfl (p_load1r rfl Try.g3 rfl rfl) ?_ | refine x_pure rfl (p_load1r rfl Try.g3 rfl (strs_ref (by simp only [List.length_cons] at *; omega))) ?_ | refine x_pure rfl (p_load1r rfl Try.g3 rfl (strs_ref (by omega))) ?_
 first | refine x_pure rfl (p_fld_adr rfl Try.fd52_1 Try.c3 rfl) ?_ | refine x_pure rfl (p_fld_ref rfl Try.fd52_1 Try.c3 rfl) ?_
 first | refine x_pure rfl (p_load1 rfl Try.g3 rfl) ?_ | refine x_pure rfl (p_load1r rfl Try.g3 rfl rfl) ?_ | refine x_pure rfl (p_load1r rfl Try.g3 rfl (strs_ref (by simp only [List.length_cons] at *; omega))) ?_ | refine x_pure rfl (p_load1r rfl Try.g3 rfl (strs_ref (by omega))) ?_
 first | refine x_pure rfl (p_fld_adr rfl Try.fd52_2 Try.c3 rfl) ?_ | refine x_pure rfl (p_fld_ref rfl Try.fd52_2 Try.c3 rfl) ?_
 first | refine x_pure rfl (p_load1 rfl Try.g3 rfl) ?_ | refine x_pure rfl (p_load1r rfl Try.g3 rfl rfl) ?_ | refine x_pure rfl (p_load1r rfl Try.g3 rfl (strs_ref (by simp only [List.length_cons] at *; omega))) ?_ | refine x_pure rfl (p_load1r rfl Try.g3 rfl (strs_ref (by omega))) ?_
 first | refine x_pure rfl (p_fld_adr rfl Try.fd52_3 Try.c3 rfl) ?_ | refine x_pure rfl (p_fld_ref rfl Try.fd52_3 Try.c3 rfl) ?_
 first | refine x_pure rfl (p_load1 rfl Try.g3 rfl) ?_ | refine x_pure rfl (p_load1r rfl Try.g3 rfl rfl) ?_ | refine x_pure rfl (p_load1r rfl Try.g3 rfl (strs_ref (by simp only [List.length_cons] at *; omega))) ?_ | refine x_pure rfl (p_load1r rfl Try.g3 rfl (strs_ref (by omega))) ?_
 refine x_step hf rfl (r_call rfl rfl Try.ent73 rfl (oneS_den _ _ _ _)) ?_
 refine x_store hf rfl rfl Try.c57 rfl rfl (by simp [stC, spC, AV.cells, AV.one, Value.oneCell', splice, AV.kill, AV.clean, cleanL, AV.only]) (by simp [stC, spC, AV.cells, AV.leaf, Value.oneCell', splice, AV.kill, AV.clean, cleanL, AV.only]) rfl ?_
 first | refine aops_end ?_ | refine aops_nil ?_
 refine hK2 _ ?_
 refine aw_ret ?_
 refine ⟨_, rfl, ?_⟩
 rfl

set_option maxRecDepth 20000 in
set_option maxHeartbeats 400000 in
theorem oldS_den (s : Stay)  : Den Try.prog 76 [.agg (stC s)]  (· = .agg (stC s)) := by
 refine den_of_aw Try.func76 rfl (Nat.le_of_ble_eq_true rfl) (fun w0 A hf => ?_)
 refine aw_seq_k (fun K1 hK1 => ?_)
 refine aw_region ?_
 refine x_step hf rfl (r_box rfl rfl (by simp [stC, spC, AV.cells, AV.leaf, Value.oneCell', splice, AV.kill, AV.clean, cleanL, AV.only])) ?_
 refine x_alloc hf rfl rfl rfl Try.z52 ?_
 first | refine aops_end ?_ | refine aops_nil ?_
 refine hK1 _ ?_
 refine aw_seq_k (fun K2 hK2 => ?_)
 refine aw_region ?_
 first | refine x_pure rfl (p_fld_adr rfl Try.fd57_0 Try.c43 rfl) ?_ | refine x_pure rfl (p_fld_ref rfl Try.fd57_0 Try.c43 rfl) ?_
 first | refine x_pure rfl (p_fld_adr rfl Try.fd43_0 Try.c3 rfl) ?_ | refine x_pure rfl (p_fld_ref rfl Try.fd43_0 Try.c3 rfl) ?_
 first | refine x_pure rfl (p_load1 rfl Try.g3 rfl) ?_ | refine x_pure rfl (p_load1r rfl Try.g3 rfl rfl) ?_ | refine x_pure rfl (p_load1r rfl Try.g3 rfl (strs_ref (by simp only [List.length_cons] at *; omega))) ?_ | refine x_pure rfl (p_load1r rfl Try.g3 rfl (strs_ref (by omega))) ?_
 first | refine x_pure rfl (p_fld_adr rfl Try.fd57_0 Try.c43 rfl) ?_ | refine x_pure rfl (p_fld_ref rfl Try.fd57_0 Try.c43 rfl) ?_
 first | refine x_pure rfl (p_fld_adr rfl Try.fd43_1 Try.c3 rfl) ?_ | refine x_pure rfl (p_fld_ref rfl Try.fd43_1 Try.c3 rfl) ?_
 first | refine x_pure rfl (p_load1 rfl Try.g3 rfl) ?_ | refine x_pure rfl (p_load1r rfl Try.g3 rfl rfl) ?_ | refine x_pure rfl (p_load1r rfl Try.g3 rfl (strs_ref (by simp only [List.length_cons] at *; omega))) ?_ | refine x_pure rfl (p_load1r rfl Try.g3 rfl (strs_ref (by omega))) ?_
 first | refine x_pure rfl (p_fld_adr rfl Try.fd57_1 Try.c3 rfl) ?_ | refine x_pure rfl (p_fld_ref rfl Try.fd57_1 Try.c3 rfl) ?_
 first | refine x_pure rfl (p_load1 rfl Try.g3 rfl) ?_ | refine x_pure rfl (p_load1r rfl Try.g3 rfl rfl) ?_ | refine x_pure rfl (p_load1r rfl Try.g3 rfl (strs_ref (by simp only [List.length_cons] at *; omega))) ?_ | refine x_pure rfl (p_load1r rfl Try.g3 rfl (strs_ref (by omega))) ?_
 first | refine x_pure rfl (p_fld_adr rfl Try.fd57_2 Try.c3 rfl) ?_ | refine x_pure rfl (p_fld_ref rfl Try.fd57_2 Try.c3 rfl) ?_
 first | refine x_pure rfl (p_load1 rfl Try.g3 rfl) ?_ | refine x_pure rfl (p_load1r rfl Try.g3 rfl rfl) ?_ | refine x_pure rfl (p_load1r rfl Try.g3 rfl (strs_ref (by simp only [List.length_cons] at *; omega))) ?_ | refine x_pure rfl (p_load1r rfl Try.g3 rfl (strs_ref (by omega))) ?_
 refine x_pure rfl (p_build rfl Try.z52 Try.pl52 (by simp [stC, spC, AV.cells, AV.one, Value.oneCell', splice, AV.kill, AV.clean, cleanL, AV.only]) rfl) ?_
 refine x_store hf rfl rfl Try.c52 rfl rfl (by simp [stC, spC, AV.cells, AV.one, Value.oneCell', splice, AV.kill, AV.clean, cleanL, AV.only]) (by simp [stC, spC, AV.cells, AV.leaf, Value.oneCell', splice, AV.kill, AV.clean, cleanL, AV.only]) rfl ?_
 first | refine aops_end ?_ | refine aops_nil ?_
 refine hK2 _ ?_
 refine aw_ret ?_
 refine ⟨_, rfl, ?_⟩
 rfl

set_option maxRecDepth 20000 in
set_option maxHeartbeats 400000 in
theorem cmpS_den (a b : Stay)  : Den Try.prog 36 [.agg (stC a), .agg (stC b)]  (· = .s (.int .i64 (cmpS a b))) := by
 refine den_of_aw Try.func36 rfl (Nat.le_of_ble_eq_true rfl) (fun w0 A hf => ?_)
 refine aw_seq_k (fun K1 hK1 => ?_)
 refine aw_region ?_
 refine x_step hf rfl (r_box rfl rfl (by simp [stC, spC, AV.cells, AV.leaf, Value.oneCell', splice, AV.kill, AV.clean, cleanL, AV.only])) ?_
 refine x_step hf rfl (r_box rfl rfl (by simp [stC, spC, AV.cells, AV.leaf, Value.oneCell', splice, AV.kill, AV.clean, cleanL, AV.only])) ?_
 refine x_pure rfl (p_assign_bad) ?_
 first | refine aops_end ?_ | refine aops_nil ?_
 refine hK1 _ ?_
 refine aw_seq_k (fun K2 hK2 => ?_)
 refine aw_draw hf Try.mixed (by kernel_rfl) rfl ?_
 first | refine d_pure [(2, _)] rfl rfl ⟨⟨rfl, rfl⟩, trivial⟩ rfl (p_fld_adr rfl Try.fd57_0 Try.c43 rfl) ?_ | refine d_pure [(2, _)] rfl rfl ⟨⟨rfl, rfl⟩, trivial⟩ rfl (p_fld_ref rfl Try.fd57_0 Try.c43 rfl) ?_
 first | refine d_pure [(5, _)] rfl rfl ⟨⟨rfl, rfl⟩, trivial⟩ rfl (p_fld_adr rfl Try.fd43_0 Try.c3 rfl) ?_ | refine d_pure [(5, _)] rfl rfl ⟨⟨rfl, rfl⟩, trivial⟩ rfl (p_fld_ref rfl Try.fd43_0 Try.c3 rfl) ?_
 first | refine d_pure [(6, _)] rfl rfl ⟨⟨rfl, rfl⟩, trivial⟩ rfl (p_load1 rfl Try.g3 rfl) ?_ | refine d_pure [(6, _)] rfl rfl ⟨⟨rfl, rfl⟩, trivial⟩ rfl (p_load1r rfl Try.g3 rfl rfl) ?_ | refine d_pure [(6, _)] rfl rfl ⟨⟨rfl, rfl⟩, trivial⟩ rfl (p_load1r rfl Try.g3 rfl (strs_ref (by simp only [List.length_cons] at *; omega))) ?_ | refine d_pure [(6, _)] rfl rfl ⟨⟨rfl, rfl⟩, trivial⟩ rfl (p_load1r rfl Try.g3 rfl (strs_ref (by omega))) ?_
 first | refine d_pure [(3, _)] rfl rfl ⟨⟨rfl, rfl⟩, trivial⟩ rfl (p_fld_adr rfl Try.fd57_0 Try.c43 rfl) ?_ | refine d_pure [(3, _)] rfl rfl ⟨⟨rfl, rfl⟩, trivial⟩ rfl (p_fld_ref rfl Try.fd57_0 Try.c43 rfl) ?_
 first | refine d_pure [(8, _)] rfl rfl ⟨⟨rfl, rfl⟩, trivial⟩ rfl (p_fld_adr rfl Try.fd43_0 Try.c3 rfl) ?_ | refine d_pure [(8, _)] rfl rfl ⟨⟨rfl, rfl⟩, trivial⟩ rfl (p_fld_ref rfl Try.fd43_0 Try.c3 rfl) ?_
 first | refine d_pure [(9, _)] rfl rfl ⟨⟨rfl, rfl⟩, trivial⟩ rfl (p_load1 rfl Try.g3 rfl) ?_ | refine d_pure [(9, _)] rfl rfl ⟨⟨rfl, rfl⟩, trivial⟩ rfl (p_load1r rfl Try.g3 rfl rfl) ?_ | refine d_pure [(9, _)] rfl rfl ⟨⟨rfl, rfl⟩, trivial⟩ rfl (p_load1r rfl Try.g3 rfl (strs_ref (by simp only [List.length_cons] at *; omega))) ?_ | refine d_pure [(9, _)] rfl rfl ⟨⟨rfl, rfl⟩, trivial⟩ rfl (p_load1r rfl Try.g3 rfl (strs_ref (by omega))) ?_
 refine d_rstep [(7, _), (10, _)] rfl rfl ⟨⟨rfl, rfl⟩, ⟨rfl, rfl⟩, trivial⟩ rfl (r_call rfl rfl Try.ent72 rfl (compare_den _ _)) ?_
 first | refine d_pure [(2, _)] rfl rfl ⟨⟨rfl, rfl⟩, trivial⟩ rfl (p_fld_adr rfl Try.fd57_0 Try.c43 rfl) ?_ | refine d_pure [(2, _)] rfl rfl ⟨⟨rfl, rfl⟩, trivial⟩ rfl (p_fld_ref rfl Try.fd57_0 Try.c43 rfl) ?_
 first | refine d_pure [(12, _)] rfl rfl ⟨⟨rfl, rfl⟩, trivial⟩ rfl (p_fld_adr rfl Try.fd43_1 Try.c3 rfl) ?_ | refine d_pure [(12, _)] rfl rfl ⟨⟨rfl, rfl⟩, trivial⟩ rfl (p_fld_ref rfl Try.fd43_1 Try.c3 rfl) ?_
 first | refine d_pure [(13, _)] rfl rfl ⟨⟨rfl, rfl⟩, trivial⟩ rfl (p_load1 rfl Try.g3 rfl) ?_ | refine d_pure [(13, _)] rfl rfl ⟨⟨rfl, rfl⟩, trivial⟩ rfl (p_load1r rfl Try.g3 rfl rfl) ?_ | refine d_pure [(13, _)] rfl rfl ⟨⟨rfl, rfl⟩, trivial⟩ rfl (p_load1r rfl Try.g3 rfl (strs_ref (by simp only [List.length_cons] at *; omega))) ?_ | refine d_pure [(13, _)] rfl rfl ⟨⟨rfl, rfl⟩, trivial⟩ rfl (p_load1r rfl Try.g3 rfl (strs_ref (by omega))) ?_
 first | refine d_pure [(3, _)] rfl rfl ⟨⟨rfl, rfl⟩, trivial⟩ rfl (p_fld_adr rfl Try.fd57_0 Try.c43 rfl) ?_ | refine d_pure [(3, _)] rfl rfl ⟨⟨rfl, rfl⟩, trivial⟩ rfl (p_fld_ref rfl Try.fd57_0 Try.c43 rfl) ?_
 first | refine d_pure [(15, _)] rfl rfl ⟨⟨rfl, rfl⟩, trivial⟩ rfl (p_fld_adr rfl Try.fd43_1 Try.c3 rfl) ?_ | refine d_pure [(15, _)] rfl rfl ⟨⟨rfl, rfl⟩, trivial⟩ rfl (p_fld_ref rfl Try.fd43_1 Try.c3 rfl) ?_
 first | refine d_pure [(16, _)] rfl rfl ⟨⟨rfl, rfl⟩, trivial⟩ rfl (p_load1 rfl Try.g3 rfl) ?_ | refine d_pure [(16, _)] rfl rfl ⟨⟨rfl, rfl⟩, trivial⟩ rfl (p_load1r rfl Try.g3 rfl rfl) ?_ | refine d_pure [(16, _)] rfl rfl ⟨⟨rfl, rfl⟩, trivial⟩ rfl (p_load1r rfl Try.g3 rfl (strs_ref (by simp only [List.length_cons] at *; omega))) ?_ | refine d_pure [(16, _)] rfl rfl ⟨⟨rfl, rfl⟩, trivial⟩ rfl (p_load1r rfl Try.g3 rfl (strs_ref (by omega))) ?_
 refine d_rstep [(14, _), (17, _)] rfl rfl ⟨⟨rfl, rfl⟩, ⟨rfl, rfl⟩, trivial⟩ rfl (r_call rfl rfl Try.ent72 rfl (compare_den _ _)) ?_
 first | refine d_pure [(2, _)] rfl rfl ⟨⟨rfl, rfl⟩, trivial⟩ rfl (p_fld_adr rfl Try.fd57_1 Try.c3 rfl) ?_ | refine d_pure [(2, _)] rfl rfl ⟨⟨rfl, rfl⟩, trivial⟩ rfl (p_fld_ref rfl Try.fd57_1 Try.c3 rfl) ?_
 first | refine d_pure [(19, _)] rfl rfl ⟨⟨rfl, rfl⟩, trivial⟩ rfl (p_load1 rfl Try.g3 rfl) ?_ | refine d_pure [(19, _)] rfl rfl ⟨⟨rfl, rfl⟩, trivial⟩ rfl (p_load1r rfl Try.g3 rfl rfl) ?_ | refine d_pure [(19, _)] rfl rfl ⟨⟨rfl, rfl⟩, trivial⟩ rfl (p_load1r rfl Try.g3 rfl (strs_ref (by simp only [List.length_cons] at *; omega))) ?_ | refine d_pure [(19, _)] rfl rfl ⟨⟨rfl, rfl⟩, trivial⟩ rfl (p_load1r rfl Try.g3 rfl (strs_ref (by omega))) ?_
 first | refine d_pure [(3, _)] rfl rfl ⟨⟨rfl, rfl⟩, trivial⟩ rfl (p_fld_adr rfl Try.fd57_1 Try.c3 rfl) ?_ | refine d_pure [(3, _)] rfl rfl ⟨⟨rfl, rfl⟩, trivial⟩ rfl (p_fld_ref rfl Try.fd57_1 Try.c3 rfl) ?_
 first | refine d_pure [(21, _)] rfl rfl ⟨⟨rfl, rfl⟩, trivial⟩ rfl (p_load1 rfl Try.g3 rfl) ?_ | refine d_pure [(21, _)] rfl rfl ⟨⟨rfl, rfl⟩, trivial⟩ rfl (p_load1r rfl Try.g3 rfl rfl) ?_ | refine d_pure [(21, _)] rfl rfl ⟨⟨rfl, rfl⟩, trivial⟩ rfl (p_load1r rfl Try.g3 rfl (strs_ref (by simp only [List.length_cons] at *; omega))) ?_ | refine d_pure [(21, _)] rfl rfl ⟨⟨rfl, rfl⟩, trivial⟩ rfl (p_load1r rfl Try.g3 rfl (strs_ref (by omega))) ?_
 refine d_rstep [(20, _), (22, _)] rfl rfl ⟨⟨rfl, rfl⟩, ⟨rfl, rfl⟩, trivial⟩ rfl (r_call rfl rfl Try.ent72 rfl (compare_den _ _)) ?_
 first | refine d_pure [(2, _)] rfl rfl ⟨⟨rfl, rfl⟩, trivial⟩ rfl (p_fld_adr rfl Try.fd57_2 Try.c3 rfl) ?_ | refine d_pure [(2, _)] rfl rfl ⟨⟨rfl, rfl⟩, trivial⟩ rfl (p_fld_ref rfl Try.fd57_2 Try.c3 rfl) ?_
 first | refine d_pure [(24, _)] rfl rfl ⟨⟨rfl, rfl⟩, trivial⟩ rfl (p_load1 rfl Try.g3 rfl) ?_ | refine d_pure [(24, _)] rfl rfl ⟨⟨rfl, rfl⟩, trivial⟩ rfl (p_load1r rfl Try.g3 rfl rfl) ?_ | refine d_pure [(24, _)] rfl rfl ⟨⟨rfl, rfl⟩, trivial⟩ rfl (p_load1r rfl Try.g3 rfl (strs_ref (by simp only [List.length_cons] at *; omega))) ?_ | refine d_pure [(24, _)] rfl rfl ⟨⟨rfl, rfl⟩, trivial⟩ rfl (p_load1r rfl Try.g3 rfl (strs_ref (by omega))) ?_
 first | refine d_pure [(3, _)] rfl rfl ⟨⟨rfl, rfl⟩, trivial⟩ rfl (p_fld_adr rfl Try.fd57_2 Try.c3 rfl) ?_ | refine d_pure [(3, _)] rfl rfl ⟨⟨rfl, rfl⟩, trivial⟩ rfl (p_fld_ref rfl Try.fd57_2 Try.c3 rfl) ?_
 first | refine d_pure [(26, _)] rfl rfl ⟨⟨rfl, rfl⟩, trivial⟩ rfl (p_load1 rfl Try.g3 rfl) ?_ | refine d_pure [(26, _)] rfl rfl ⟨⟨rfl, rfl⟩, trivial⟩ rfl (p_load1r rfl Try.g3 rfl rfl) ?_ | refine d_pure [(26, _)] rfl rfl ⟨⟨rfl, rfl⟩, trivial⟩ rfl (p_load1r rfl Try.g3 rfl (strs_ref (by simp only [List.length_cons] at *; omega))) ?_ | refine d_pure [(26, _)] rfl rfl ⟨⟨rfl, rfl⟩, trivial⟩ rfl (p_load1r rfl Try.g3 rfl (strs_ref (by omega))) ?_
 refine d_rstep [(25, _), (27, _)] rfl rfl ⟨⟨rfl, rfl⟩, ⟨rfl, rfl⟩, trivial⟩ rfl (r_call rfl rfl Try.ent72 rfl (compare_den _ _)) ?_
 refine d_rstep [(11, _), (18, _), (23, _), (28, _)] rfl rfl ⟨⟨rfl, rfl⟩, ⟨rfl, rfl⟩, ⟨rfl, rfl⟩, ⟨rfl, rfl⟩, trivial⟩ rfl (r_buildSlice Try.ap96 rfl rfl rfl rfl (by simp [stC, spC, AV.cells, AV.leaf, Value.oneCell', splice, AV.kill, AV.clean, cleanL, AV.only])) ?_
 refine d_rstep [(29, _)] rfl rfl ⟨⟨rfl, rfl⟩, trivial⟩ rfl (r_call rfl rfl Try.ent60 rfl (Nm.or_den [_, _, _, _] (by simp))) ?_
 refine d_pure [(30, _)] rfl rfl ⟨⟨rfl, rfl⟩, trivial⟩ rfl (p_assign rfl) ?_
 refine lex_end (sl' := [(4, _)]) rfl ⟨rfl, trivial⟩ rfl ?_
 refine hK2 _ ?_
 refine aw_ret ?_
 refine ⟨_, rfl, ?_⟩
 rfl

set_option maxRecDepth 20000 in
set_option maxHeartbeats 400000 in
theorem aheadS_den (a b : Stay)  : Den Try.prog 34 [.agg (stC a), .agg (stC b)]  (· = .s (.bool (decide (cmpS a b < 0)))) := by
 refine den_of_aw Try.func34 rfl (Nat.le_of_ble_eq_true rfl) (fun w0 A hf => ?_)
 refine aw_seq_k (fun K1 hK1 => ?_)
 refine aw_region ?_
 refine x_step hf rfl (r_box rfl rfl (by simp [stC, AV.cells, AV.leaf, Value.oneCell', splice, AV.kill, AV.clean, cleanL, AV.only])) ?_
 refine x_step hf rfl (r_box rfl rfl (by simp [stC, AV.cells, AV.leaf, Value.oneCell', splice, AV.kill, AV.clean, cleanL, AV.only])) ?_
 refine x_pure rfl (p_assign_bad) ?_
 first | refine aops_end ?_ | refine aops_nil ?_
 refine hK1 _ ?_
 refine aw_seq_k (fun K2 hK2 => ?_)
 refine aw_seq_k (fun K3 hK3 => ?_)
 refine aw_region ?_
 first | refine x_pure rfl (p_fld_adr rfl Try.fd52_0 Try.c3 rfl) ?_ | refine x_pure rfl (p_fld_ref rfl Try.fd52_0 Try.c3 rfl) ?_
 first | refine x_pure rfl (p_load1 rfl Try.g3 rfl) ?_ | refine x_pure rfl (p_load1r rfl Try.g3 rfl rfl) ?_ | refine x_pure rfl (p_load1r rfl Try.g3 rfl (strs_ref (by simp only [List.length_cons] at *; omega))) ?_ | refine x_pure rfl (p_load1r rfl Try.g3 rfl (strs_ref (by omega))) ?_
 first | refine x_pure rfl (p_fld_adr rfl Try.fd52_0 Try.c3 rfl) ?_ | refine x_pure rfl (p_fld_ref rfl Try.fd52_0 Try.c3 rfl) ?_
 first | refine x_pure rfl (p_load1 rfl Try.g3 rfl) ?_ | refine x_pure rfl (p_load1r rfl Try.g3 rfl rfl) ?_ | refine x_pure rfl (p_load1r rfl Try.g3 rfl (strs_ref (by simp only [List.length_cons] at *; omega))) ?_ | refine x_pure rfl (p_load1r rfl Try.g3 rfl (strs_ref (by omega))) ?_
 refine x_pure rfl (p_bin rfl rfl rfl) ?_
 first | refine aops_end ?_ | refine aops_nil ?_
 refine hK3 _ ?_
 refine aw_cond_s rfl (fun hc1 => ?_) (fun hc1 => ?_)
 ·
  try simp only [bs] at hc1
  refine aw_seq_k (fun K4 hK4 => ?_)
  refine aw_region ?_
  first | refine x_pure rfl (p_fld_adr rfl Try.fd52_0 Try.c3 rfl) ?_ | refine x_pure rfl (p_fld_ref rfl Try.fd52_0 Try.c3 rfl) ?_
  first | refine x_pure rfl (p_load1 rfl Try.g3 rfl) ?_ | refine x_pure rfl (p_load1r rfl Try.g3 rfl rfl) ?_ | refine x_pure rfl (p_load1r rfl Try.g3 rfl (strs_ref (by simp only [List.length_cons] at *; omega))) ?_ | refine x_pure rfl (p_load1r rfl Try.g3 rfl (strs_ref (by omega))) ?_
  first | refine x_pure rfl (p_fld_adr rfl Try.fd52_0 Try.c3 rfl) ?_ | refine x_pure rfl (p_fld_ref rfl Try.fd52_0 Try.c3 rfl) ?_
  first | refine x_pure rfl (p_load1 rfl Try.g3 rfl) ?_ | refine x_pure rfl (p_load1r rfl Try.g3 rfl rfl) ?_ | refine x_pure rfl (p_load1r rfl Try.g3 rfl (strs_ref (by simp only [List.length_cons] at *; omega))) ?_ | refine x_pure rfl (p_load1r rfl Try.g3 rfl (strs_ref (by omega))) ?_
  refine x_pure rfl (p_bin rfl rfl rfl) ?_
  refine x_pure rfl (p_assign rfl) ?_
  first | refine aops_end ?_ | refine aops_nil ?_
  refine hK4 _ ?_
  refine aw_ret ?_
  refine ⟨_, rfl, ?_⟩
  exact ret_bool (ah1 (by assumption))
 ·
  try simp only [bs] at hc1
  refine aw_skip ?_
  refine hK2 _ ?_
  refine aw_seq_k (fun K5 hK5 => ?_)
  refine aw_seq_k (fun K6 hK6 => ?_)
  refine aw_region ?_
  first | refine x_pure rfl (p_fld_adr rfl Try.fd52_1 Try.c3 rfl) ?_ | refine x_pure rfl (p_fld_ref rfl Try.fd52_1 Try.c3 rfl) ?_
  first | refine x_pure rfl (p_load1 rfl Try.g3 rfl) ?_ | refine x_pure rfl (p_load1r rfl Try.g3 rfl rfl) ?_ | refine x_pure rfl (p_load1r rfl Try.g3 rfl (strs_ref (by simp only [List.length_cons] at *; omega))) ?_ | refine x_pure rfl (p_load1r rfl Try.g3 rfl (strs_ref (by omega))) ?_
  first | refine x_pure rfl (p_fld_adr rfl Try.fd52_1 Try.c3 rfl) ?_ | refine x_pure rfl (p_fld_ref rfl Try.fd52_1 Try.c3 rfl) ?_
  first | refine x_pure rfl (p_load1 rfl Try.g3 rfl) ?_ | refine x_pure rfl (p_load1r rfl Try.g3 rfl rfl) ?_ | refine x_pure rfl (p_load1r rfl Try.g3 rfl (strs_ref (by simp only [List.length_cons] at *; omega))) ?_ | refine x_pure rfl (p_load1r rfl Try.g3 rfl (strs_ref (by omega))) ?_
  refine x_pure rfl (p_bin rfl rfl rfl) ?_
  first | refine aops_end ?_ | refine aops_nil ?_
  refine hK6 _ ?_
  refine aw_cond_s rfl (fun hc2 => ?_) (fun hc2 => ?_)
  ·
   try simp only [bs] at hc2
   refine aw_seq_k (fun K7 hK7 => ?_)
   refine aw_region ?_
   first | refine x_pure rfl (p_fld_adr rfl Try.fd52_1 Try.c3 rfl) ?_ | refine x_pure rfl (p_fld_ref rfl Try.fd52_1 Try.c3 rfl) ?_
   first | refine x_pure rfl (p_load1 rfl Try.g3 rfl) ?_ | refine x_pure rfl (p_load1r rfl Try.g3 rfl rfl) ?_ | refine x_pure rfl (p_load1r rfl Try.g3 rfl (strs_ref (by simp only [List.length_cons] at *; omega))) ?_ | refine x_pure rfl (p_load1r rfl Try.g3 rfl (strs_ref (by omega))) ?_
   first | refine x_pure rfl (p_fld_adr rfl Try.fd52_1 Try.c3 rfl) ?_ | refine x_pure rfl (p_fld_ref rfl Try.fd52_1 Try.c3 rfl) ?_
   first | refine x_pure rfl (p_load1 rfl Try.g3 rfl) ?_ | refine x_pure rfl (p_load1r rfl Try.g3 rfl rfl) ?_ | refine x_pure rfl (p_load1r rfl Try.g3 rfl (strs_ref (by simp only [List.length_cons] at *; omega))) ?_ | refine x_pure rfl (p_load1r rfl Try.g3 rfl (strs_ref (by omega))) ?_
   refine x_pure rfl (p_bin rfl rfl rfl) ?_
   refine x_pure rfl (p_assign rfl) ?_
   first | refine aops_end ?_ | refine aops_nil ?_
   refine hK7 _ ?_
   refine aw_ret ?_
   refine ⟨_, rfl, ?_⟩
   exact ret_bool (ah2 (by assumption) (by assumption))
  ·
   try simp only [bs] at hc2
   refine aw_skip ?_
   refine hK5 _ ?_
   refine aw_seq_k (fun K8 hK8 => ?_)
   refine aw_seq_k (fun K9 hK9 => ?_)
   refine aw_region ?_
   first | refine x_pure rfl (p_fld_adr rfl Try.fd52_2 Try.c3 rfl) ?_ | refine x_pure rfl (p_fld_ref rfl Try.fd52_2 Try.c3 rfl) ?_
   first | refine x_pure rfl (p_load1 rfl Try.g3 rfl) ?_ | refine x_pure rfl (p_load1r rfl Try.g3 rfl rfl) ?_ | refine x_pure rfl (p_load1r rfl Try.g3 rfl (strs_ref (by simp only [List.length_cons] at *; omega))) ?_ | refine x_pure rfl (p_load1r rfl Try.g3 rfl (strs_ref (by omega))) ?_
   first | refine x_pure rfl (p_fld_adr rfl Try.fd52_2 Try.c3 rfl) ?_ | refine x_pure rfl (p_fld_ref rfl Try.fd52_2 Try.c3 rfl) ?_
   first | refine x_pure rfl (p_load1 rfl Try.g3 rfl) ?_ | refine x_pure rfl (p_load1r rfl Try.g3 rfl rfl) ?_ | refine x_pure rfl (p_load1r rfl Try.g3 rfl (strs_ref (by simp only [List.length_cons] at *; omega))) ?_ | refine x_pure rfl (p_load1r rfl Try.g3 rfl (strs_ref (by omega))) ?_
   refine x_pure rfl (p_bin rfl rfl rfl) ?_
   first | refine aops_end ?_ | refine aops_nil ?_
   refine hK9 _ ?_
   refine aw_cond_s rfl (fun hc3 => ?_) (fun hc3 => ?_)
   ·
    try simp only [bs] at hc3
    refine aw_seq_k (fun K10 hK10 => ?_)
    refine aw_region ?_
    first | refine x_pure rfl (p_fld_adr rfl Try.fd52_2 Try.c3 rfl) ?_ | refine x_pure rfl (p_fld_ref rfl Try.fd52_2 Try.c3 rfl) ?_
    first | refine x_pure rfl (p_load1 rfl Try.g3 rfl) ?_ | refine x_pure rfl (p_load1r rfl Try.g3 rfl rfl) ?_ | refine x_pure rfl (p_load1r rfl Try.g3 rfl (strs_ref (by simp only [List.length_cons] at *; omega))) ?_ | refine x_pure rfl (p_load1r rfl Try.g3 rfl (strs_ref (by omega))) ?_
    first | refine x_pure rfl (p_fld_adr rfl Try.fd52_2 Try.c3 rfl) ?_ | refine x_pure rfl (p_fld_ref rfl Try.fd52_2 Try.c3 rfl) ?_
    first | refine x_pure rfl (p_load1 rfl Try.g3 rfl) ?_ | refine x_pure rfl (p_load1r rfl Try.g3 rfl rfl) ?_ | refine x_pure rfl (p_load1r rfl Try.g3 rfl (strs_ref (by simp only [List.length_cons] at *; omega))) ?_ | refine x_pure rfl (p_load1r rfl Try.g3 rfl (strs_ref (by omega))) ?_
    refine x_pure rfl (p_bin rfl rfl rfl) ?_
    refine x_pure rfl (p_assign rfl) ?_
    first | refine aops_end ?_ | refine aops_nil ?_
    refine hK10 _ ?_
    refine aw_ret ?_
    refine ⟨_, rfl, ?_⟩
    exact ret_bool (ah3 (by assumption) (by assumption) (by assumption))
   ·
    try simp only [bs] at hc3
    refine aw_skip ?_
    refine hK8 _ ?_
    refine aw_seq_k (fun K11 hK11 => ?_)
    refine aw_region ?_
    first | refine x_pure rfl (p_fld_adr rfl Try.fd52_3 Try.c3 rfl) ?_ | refine x_pure rfl (p_fld_ref rfl Try.fd52_3 Try.c3 rfl) ?_
    first | refine x_pure rfl (p_load1 rfl Try.g3 rfl) ?_ | refine x_pure rfl (p_load1r rfl Try.g3 rfl rfl) ?_ | refine x_pure rfl (p_load1r rfl Try.g3 rfl (strs_ref (by simp only [List.length_cons] at *; omega))) ?_ | refine x_pure rfl (p_load1r rfl Try.g3 rfl (strs_ref (by omega))) ?_
    first | refine x_pure rfl (p_fld_adr rfl Try.fd52_3 Try.c3 rfl) ?_ | refine x_pure rfl (p_fld_ref rfl Try.fd52_3 Try.c3 rfl) ?_
    first | refine x_pure rfl (p_load1 rfl Try.g3 rfl) ?_ | refine x_pure rfl (p_load1r rfl Try.g3 rfl rfl) ?_ | refine x_pure rfl (p_load1r rfl Try.g3 rfl (strs_ref (by simp only [List.length_cons] at *; omega))) ?_ | refine x_pure rfl (p_load1r rfl Try.g3 rfl (strs_ref (by omega))) ?_
    refine x_pure rfl (p_bin rfl rfl rfl) ?_
    refine x_pure rfl (p_assign rfl) ?_
    first | refine aops_end ?_ | refine aops_nil ?_
    refine hK11 _ ?_
    refine aw_ret ?_
    refine ⟨_, rfl, ?_⟩
    exact ret_bool (ah4 (by assumption) (by assumption) (by assumption))

set_option maxRecDepth 20000 in
set_option maxHeartbeats 400000 in
theorem afterS1_den (s : Stay) (t : Int)  : Den Try.prog 78 [.agg (stC s), .adr [.s (.int .i64 t)]]  (· = .s (.bool (decide (s.1.2 ≤ t)))) := by
 refine den_of_aw Try.func78 rfl (Nat.le_of_ble_eq_true rfl) (fun w0 A hf => ?_)
 refine aw_seq_k (fun K1 hK1 => ?_)
 refine aw_region ?_
 refine x_step hf rfl (r_box rfl rfl (by simp [stC, AV.cells, AV.leaf, Value.oneCell', splice, AV.kill, AV.clean, cleanL, AV.only])) ?_
 refine x_pure rfl (p_assign_bad) ?_
 first | refine aops_end ?_ | refine aops_nil ?_
 refine hK1 _ ?_
 refine aw_seq_k (fun K2 hK2 => ?_)
 refine aw_region ?_
 first | refine x_pure rfl (p_fld_adr rfl Try.fd57_0 Try.c43 rfl) ?_ | refine x_pure rfl (p_fld_ref rfl Try.fd57_0 Try.c43 rfl) ?_
 first | refine x_pure rfl (p_fld_adr rfl Try.fd43_1 Try.c3 rfl) ?_ | refine x_pure rfl (p_fld_ref rfl Try.fd43_1 Try.c3 rfl) ?_
 first | refine x_pure rfl (p_load1 rfl Try.g3 rfl) ?_ | refine x_pure rfl (p_load1r rfl Try.g3 rfl rfl) ?_ | refine x_pure rfl (p_load1r rfl Try.g3 rfl (strs_ref (by simp only [List.length_cons] at *; omega))) ?_ | refine x_pure rfl (p_load1r rfl Try.g3 rfl (strs_ref (by omega))) ?_
 first | refine x_pure rfl (p_load1 rfl Try.g3 rfl) ?_ | refine x_pure rfl (p_load1r rfl Try.g3 rfl rfl) ?_ | refine x_pure rfl (p_load1r rfl Try.g3 rfl (strs_ref (by simp only [List.length_cons] at *; omega))) ?_ | refine x_pure rfl (p_load1r rfl Try.g3 rfl (strs_ref (by omega))) ?_
 refine x_pure rfl (p_bin rfl rfl rfl) ?_
 refine x_pure rfl (p_assign rfl) ?_
 first | refine aops_end ?_ | refine aops_nil ?_
 refine hK2 _ ?_
 refine aw_ret ?_
 refine ⟨_, rfl, ?_⟩
 rfl
end Go.Proofs.Ytkjniggdldpnoaa
