import Derived.Test.YtcjchfocohagdaaNW2
import Derived.Test.YtcjchfocohagdaaHW1
import Derived.Test.YtcjchfocohagdaaX2
set_option linter.unusedVariables false
set_option linter.unusedSimpArgs false
namespace Go.Proofs.Ytcjchfocohagdaa
open Go Go.Abs

set_option maxRecDepth 20000 in
set_option maxHeartbeats 400000 in
theorem xIndexFunc_den {g : Nat} {cap : List AV} (hent : ∀ args w, (callFunc g args).run Try.prog w = .ok (.enter g args) w) (hcl : cleanL (fun _ => false) cap = true) (p : Se → Bool) (l : List Se) (hl : l.length ≤ 9223372036854775807) (hp : ∀ x ∈ l, Den Try.prog g (.agg (seC x) :: cap) (· = .s (.bool (p x))))  : Den Try.prog 40 [.sl 4 (l.map seC), .fn g cap]  (· = .s (.int .i64 (idxB p l))) := by
 refine den_of_aw Try.func40 rfl (Nat.le_of_ble_eq_true rfl) (fun w0 A hf => ?_)
 refine aw_seq_k (fun K1 hK1 => ?_)
 refine aw_region ?_
 refine x_pure rfl (p_assign_bad) ?_
 first | refine aops_end ?_ | refine aops_nil ?_
 refine hK1 _ ?_
 refine aw_seq_k (fun K2 hK2 => ?_)
 refine aw_seq_k (fun K3 hK3 => ?_)
 refine aw_region ?_
 refine x_pure rfl (p_move rfl) ?_
 first | refine x_pure rfl (p_len_sl rfl Try.e26) ?_ | refine x_pure rfl (p_len_own rfl Try.e26) ?_ | refine x_pure rfl (p_len_nil rfl Try.e26) ?_
 refine x_pure rfl (p_move rfl) ?_
 first | refine aops_end ?_ | refine aops_nil ?_
 refine hK3 _ ?_
 refine aw_block ?_
 refine aw_loop (ι := Nat) (fun k => ⟨19, [(0, .sl 4 (l.map seC)), (1, .fn g cap), (7, .s (.int .i64 ((l.map seC).length : Nat))), (8, .s (.int .i64 (k : Nat)))], []⟩) (fun k => k ≤ l.length ∧ ∀ (j : Nat) (hj : j < l.length), j < k → p l[j] = false) (fun k => l.length - k) 0 ?_ ?_ ?_
 · exact ⟨by omega, by omega⟩
 · exact le_of ⟨rfl, rfl, rfl, rfl, trivial⟩
 ·
  rintro k hC
  obtain ⟨h1, h2⟩ := hC
  refine aw_seq_k (fun K4 hK4 => ?_)
  refine aw_region ?_
  refine x_pure rfl (p_bin rfl rfl rfl) ?_
  first | refine aops_end ?_ | refine aops_nil ?_
  refine hK4 _ ?_
  refine aw_seq_k (fun K5 hK5 => ?_)
  refine aw_cond_s rfl (fun hc1 => ?_) (fun hc1 => ?_)
  ·
   try simp only [bs] at hc1
   refine aw_skip ?_
   refine hK5 _ ?_
   refine aw_seq_k (fun K6 hK6 => ?_)
   refine aw_block ?_
   refine aw_seq_k (fun K7 hK7 => ?_)
   refine aw_region ?_
   refine x_pure rfl (p_move rfl) ?_
   refine x_pure rfl (p_assign rfl) ?_
   first | refine aops_end ?_ | refine aops_nil ?_
   refine hK7 _ ?_
   refine aw_seq_k (fun K8 hK8 => ?_)
   refine aw_region ?_
   refine x_pure rfl (p_move rfl) ?_
   refine x_pure rfl (p_move rfl) ?_
   refine x_pure rfl (p_move rfl) ?_
   first | refine x_pure rfl (p_idx_sl rfl rfl Try.e26 Try.c31 (by first | assumption | (refine ⟨by omega, ?_⟩; first | assumption | exact strs_at (by omega) | exact strs_at (by simp only [List.length_cons] at *; omega) | exact ints_at (by omega) | exact map_at (by omega) | exact list_at (by omega)) | exact ⟨by decide, rfl⟩)) ?_ | refine x_pure rfl (p_idx_own rfl rfl Try.e26 Try.c31 (by omega)) ?_
   first | refine x_pure rfl (p_loads rfl Try.g31 Try.c31 rfl rfl) ?_ | refine x_pure rfl (p_loadsr rfl Try.g31 Try.c31 rfl rfl rfl) ?_
   refine x_step hf rfl (r_call rfl rfl hent (by rw [cleanL_cons, hcl]; rfl) (hp _ (List.getElem_mem _))) ?_
   first | refine aops_end ?_ | refine aops_nil ?_
   refine hK8 _ ?_
   refine aw_cond_s rfl (fun hc2 => ?_) (fun hc2 => ?_)
   ·
    try simp only [bs] at hc2
    refine aw_seq_k (fun K9 hK9 => ?_)
    refine aw_region ?_
    refine x_pure rfl (p_move rfl) ?_
    refine x_pure rfl (p_assign rfl) ?_
    first | refine aops_end ?_ | refine aops_nil ?_
    refine hK9 _ ?_
    refine aw_ret ?_
    refine ⟨_, rfl, ?_⟩
    refine ret_int ?_
    rw [idxB_found (by omega) h2 (by assumption)]
   ·
    try simp only [bs] at hc2
    refine aw_skip ?_
    refine hK6 _ ?_
    refine aw_region ?_
    first | refine x_pure rfl (p_add rfl rfl (by omega) (by omega)) ?_ | refine x_pure rfl (p_bin rfl rfl rfl) ?_
    refine x_pure rfl (p_move rfl) ?_
    first | refine aops_end ?_ | refine aops_nil ?_
    exact ⟨k+1, ⟨by omega, fun j hj hjk => by
      by_cases e : j = k
      · subst e; simp_all
      · exact h2 j hj (by omega)⟩, by omega, le_of ⟨rfl, rfl, rfl, rfl, trivial⟩⟩
  ·
   try simp only [bs] at hc1
   refine aw_exit ?_
   refine hK2 _ ?_
   refine aw_seq_k (fun K10 hK10 => ?_)
   refine aw_region ?_
   refine x_pure rfl (p_assign rfl) ?_
   first | refine aops_end ?_ | refine aops_nil ?_
   refine hK10 _ ?_
   refine aw_ret ?_
   refine ⟨_, rfl, ?_⟩
   refine ret_int ?_
   rw [idxB_none (fun j hj => h2 j hj (by omega))]

set_option maxRecDepth 20000 in
set_option maxHeartbeats 1000000 in
theorem xDeleteFunc_den {g : Nat} {cap : List AV} (hent : ∀ args w, (callFunc g args).run Try.prog w = .ok (.enter g args) w) (hcl : cleanL (fun _ => false) cap = true) (hcv : ∀ m, convL m cap = cap) (p : Se → Bool) (l : List Se) (n : Nat) (hn : n = l.length) (hl : l.length ≤ 9223372036854775807) (hp : ∀ x ∈ l, Den Try.prog g (.agg (seC x) :: cap) (· = .s (.bool (p x))))  : DenM Try.prog 55 [.own E0 4 0 n, .fn g cap] 4 ((l.map seC)) (fun r ys => r = .own E0 4 0 (l.filter fun x => !p x).length ∧ ys = ((l.filter fun x => !p x).map seC)) := by
 subst hn
 have hq0 : ∀ j, ((l.take j).filter fun x => !p x).length ≤ j := fun j => filter_take_le _ l j
 have hq1 : ∀ j, ((l.take j).filter fun x => !p x).length ≤ l.length := fun j => filter_take_len _ l j
 refine denm_of_aw Try.func55 rfl (Nat.le_of_ble_eq_true rfl) (fun w0 x0 A hf => ?_)
 refine aw_seq_k (fun K1 hK1 => ?_)
 refine aw_region ?_
 refine x_pure rfl (p_assign_bad) ?_
 first | refine aops_end ?_ | refine aops_nil ?_
 refine hK1 _ ?_
 refine aw_seq_k (fun K2 hK2 => ?_)
 refine aw_region ?_
 refine x_pure rfl (p_move rfl) ?_
 refine x_pure rfl (p_move rfl) ?_
 refine x_step hf rfl (r_callB rfl rfl (by show [AV.conv _ _, AV.fn g (convL _ cap)] = _; rw [hcv, conv_whole (g := E0) rfl (by simp)]) Try.ent40 (xIndexFunc_den hent hcl p l hl hp) rfl) ?_
 refine x_pure rfl (p_assign rfl) ?_
 first | refine aops_end ?_ | refine aops_nil ?_
 refine hK2 _ ?_
 refine aw_seq_k (fun K3 hK3 => ?_)
 refine aw_seq_k (fun K4 hK4 => ?_)
 refine aw_region ?_
 refine x_pure rfl (p_move rfl) ?_
 refine x_pure rfl (p_bin rfl rfl rfl) ?_
 first | refine aops_end ?_ | refine aops_nil ?_
 refine hK4 _ ?_
 refine aw_cond_s rfl (fun hc1 => ?_) (fun hc1 => ?_)
 ·
  try simp only [bs] at hc1
  refine aw_seq_k (fun K5 hK5 => ?_)
  refine aw_region ?_
  refine x_pure rfl (p_move rfl) ?_
  refine x_pure rfl (p_assign rfl) ?_
  first | refine aops_end ?_ | refine aops_nil ?_
  refine hK5 _ ?_
  refine aw_ret ?_
  have hno : idxB p l = -1 := by simpa using hc1
  rcases idxB_cases p l with ⟨_, hn⟩ | ⟨k, hk, e, _⟩
  · exact ⟨_, .own E0 4 0 l.length, (l.map seC), Le.refl _, rfl, rfl, by rw [none_filter p l hn], by rw [none_filter p l hn]⟩
  · exfalso; omega
 ·
  try simp only [bs] at hc1
  refine aw_skip ?_
  refine hK3 _ ?_
  refine aw_seq_k (fun K6 hK6 => ?_)
  refine aw_seq_k (fun K7 hK7 => ?_)
  refine aw_region ?_
  rcases idxB_cases p l with ⟨e0, _⟩ | ⟨k0, hk0, ek0, hpk0, hbef⟩
  · exact absurd e0 (by simpa using hc1)
  have hst := delRow_start (fun x => !p x) l k0 hk0 (fun j hj hjk => by simp [hbef j hj hjk]) (by simp [hpk0])
  rw [ek0]
  refine x_pure rfl (p_move rfl) ?_
  first | refine x_pure rfl (p_add rfl rfl (by omega) (by omega)) ?_ | refine x_pure rfl (p_bin rfl rfl rfl) ?_
  refine x_pure rfl (p_assign rfl) ?_
  first | refine aops_end ?_ | refine aops_nil ?_
  refine hK7 _ ?_
  refine aw_block ?_
  refine aw_loop (ι := Nat) (fun j => ⟨42, [(0, .own E0 4 0 l.length), (1, .fn g cap), (5, .s (.int .i64 (((l.take j).filter fun x => !p x).length : Nat))), (6, .s (.int .i64 (j : Nat)))], [(E0, .buf 4 ((delRow (fun x => !p x) l j).map seC))]⟩) (fun j => j ≤ l.length) (fun j => l.length - j) (k0 + 1) ?_ ?_ ?_
  · exact hk0
  · rw [hst.1, hst.2]; exact le_of ⟨rfl, rfl, rfl, rfl, trivial⟩
  ·
   rintro j hC
   let q := fun x => !p x
   have hle : ((l.take j).filter q).length ≤ j := hq0 j
   have hle2 : ((l.take j).filter fun x => !p x).length ≤ j := hq0 j
   refine aw_seq_k (fun K8 hK8 => ?_)
   refine aw_seq_k (fun K9 hK9 => ?_)
   refine aw_region ?_
   refine x_pure rfl (p_move rfl) ?_
   refine x_pure rfl (p_move rfl) ?_
   first | refine x_pure rfl (p_len_sl rfl Try.e26) ?_ | refine x_pure rfl (p_len_own rfl Try.e26) ?_ | refine x_pure rfl (p_len_nil rfl Try.e26) ?_
   refine x_pure rfl (p_bin rfl rfl rfl) ?_
   first | refine aops_end ?_ | refine aops_nil ?_
   refine hK9 _ ?_
   refine aw_cond_s rfl (fun hc2 => ?_) (fun hc2 => ?_)
   ·
    try simp only [bs] at hc2
    refine aw_skip ?_
    refine hK8 _ ?_
    refine aw_seq_k (fun K10 hK10 => ?_)
    refine aw_block ?_
    refine aw_seq_k (fun K11 hK11 => ?_)
    refine aw_region ?_
    refine x_pure rfl (p_move rfl) ?_
    refine x_pure rfl (p_move rfl) ?_
    first | refine x_pure rfl (p_idx_sl rfl rfl Try.e26 Try.c31 (by first | assumption | (refine ⟨by omega, ?_⟩; first | assumption | exact strs_at (by omega) | exact strs_at (by simp only [List.length_cons] at *; omega) | exact ints_at (by omega) | exact map_at (by omega) | exact list_at (by omega)) | exact ⟨by decide, rfl⟩)) ?_ | refine x_pure rfl (p_idx_own rfl rfl Try.e26 Try.c31 (by omega)) ?_
    refine x_pure rfl (p_loadsr rfl Try.g31 Try.c31 rfl (own_ble (c := 4) (k := j) (enc := seC) (by omega) (by rw [delRow_len]; omega) rfl) (cs' := seC l[j]) (by rw [own_take (c := 4) (k := j) (enc := seC) (by omega) (by rw [delRow_len]; omega) rfl, delRow_at q l j j (by omega) hle])) ?_
    refine x_allocst hf rfl Try.z31 rfl Try.c31 rfl rfl rfl rfl (by simp [seC, AV.cells, AV.leaf, Value.oneCell', splice, AV.kill, AV.clean, cleanL, AV.only]) ?_
    first | refine aops_end ?_ | refine aops_nil ?_
    refine hK11 _ ?_
    refine aw_seq_k (fun K12 hK12 => ?_)
    refine aw_region ?_
    refine x_pure rfl (p_move rfl) ?_
    first | refine x_pure rfl (p_loads rfl Try.g31 Try.c31 rfl rfl) ?_ | refine x_pure rfl (p_loadsr rfl Try.g31 Try.c31 rfl rfl rfl) ?_
    refine x_step hf rfl (r_call rfl rfl hent (by rw [cleanL_cons, hcl]; rfl) (hp _ (List.getElem_mem _))) ?_
    refine x_pure rfl (p_not rfl) ?_
    first | refine aops_end ?_ | refine aops_nil ?_
    refine hK12 _ ?_
    refine aw_cond_s rfl (fun hc3 => ?_) (fun hc3 => ?_)
    ·
     try simp only [bs] at hc3
     refine aw_seq_k (fun K13 hK13 => ?_)
     refine aw_region ?_
     refine x_pure rfl (p_move rfl) ?_
     refine x_pure rfl (p_move rfl) ?_
     first | refine x_pure rfl (p_loads rfl Try.g31 Try.c31 rfl rfl) ?_ | refine x_pure rfl (p_loadsr rfl Try.g31 Try.c31 rfl rfl rfl) ?_
     first | refine x_pure rfl (p_idx_sl rfl rfl Try.e26 Try.c31 (by first | assumption | (refine ⟨by omega, ?_⟩; first | assumption | exact strs_at (by omega) | exact strs_at (by simp only [List.length_cons] at *; omega) | exact ints_at (by omega) | exact map_at (by omega) | exact list_at (by omega)) | exact ⟨by decide, rfl⟩)) ?_ | refine x_pure rfl (p_idx_own rfl rfl Try.e26 Try.c31 (by omega)) ?_
     refine x_store hf rfl rfl Try.c31 rfl rfl (by simp [seC, AV.cells, AV.one, Value.oneCell', splice]) (by simp [seC, AV.cells, AV.leaf, Value.oneCell', splice]) (own_store (c := 4) (k := ((l.take j).filter fun x => !p x).length) (enc := seC) (v := l[j]) (by omega) (by rw [delRow_len]; omega) rfl (Nat.le_refl _)) ?_
     first | refine aops_end ?_ | refine aops_nil ?_
     refine hK13 _ ?_
     refine aw_region ?_
     rw [delRow_next_t (fun x => !p x) l j (by omega) (by simp_all)]
     refine x_pure rfl (p_move rfl) ?_
     first | refine x_pure rfl (p_add rfl rfl (by omega) (by omega)) ?_ | refine x_pure rfl (p_bin rfl rfl rfl) ?_
     rw [filt_next_t (fun x => !p x) l j (by omega) (by simp_all)]
     refine x_pure rfl (p_assign rfl) ?_
     first | refine aops_end ?_ | refine aops_nil ?_
     refine hK10 _ ?_
     refine aw_region ?_
     refine x_pure rfl (p_move rfl) ?_
     first | refine x_pure rfl (p_add rfl rfl (by omega) (by omega)) ?_ | refine x_pure rfl (p_bin rfl rfl rfl) ?_
     refine x_pure rfl (p_assign rfl) ?_
     first | refine aops_end ?_ | refine aops_nil ?_
     exact ⟨j+1, (by omega), by omega, le_of ⟨rfl, rfl, rfl, rfl, trivial⟩⟩
    ·
     try simp only [bs] at hc3
     rw [delRow_next_f (fun x => !p x) l j (by omega) (by simp_all), filt_next_f (fun x => !p x) l j (by omega) (by simp_all)]
     refine aw_skip ?_
     refine hK10 _ ?_
     refine aw_region ?_
     refine x_pure rfl (p_move rfl) ?_
     first | refine x_pure rfl (p_add rfl rfl (by omega) (by omega)) ?_ | refine x_pure rfl (p_bin rfl rfl rfl) ?_
     refine x_pure rfl (p_assign rfl) ?_
     first | refine aops_end ?_ | refine aops_nil ?_
     exact ⟨j+1, (by omega), by omega, le_of ⟨rfl, rfl, rfl, rfl, trivial⟩⟩
   ·
    try simp only [bs] at hc2
    refine aw_exit ?_
    refine hK6 _ ?_
    refine aw_seq_k (fun K14 hK14 => ?_)
    refine aw_region ?_
    refine x_pure rfl (p_move rfl) ?_
    refine x_pure rfl (p_move rfl) ?_
    first | refine x_pure rfl (p_slice_sl rfl Try.e26 Try.c31 rfl rfl (by omega) (by omega) rfl) ?_ | refine x_pure rfl (p_slice_own rfl Try.e26 Try.c31 rfl rfl (by omega) (by omega)) ?_ | refine x_pure rfl (p_slice_sl rfl Try.e26 Try.c31 (bnd_z rfl (by omega)) rfl (by omega) (by omega) rfl) ?_ | refine x_pure rfl (p_slice_own rfl Try.e26 Try.c31 (bnd_z rfl (by omega)) rfl (by omega) (by omega)) ?_
    refine x_clear hf Try.ap26 Try.z31 (by simp [Value.oneCell']) rfl rfl ?_
    first | refine aops_end ?_ | refine aops_nil ?_
    refine hK14 _ ?_
    refine aw_seq_k (fun K15 hK15 => ?_)
    refine aw_region ?_
    refine x_pure rfl (p_move rfl) ?_
    refine x_pure rfl (p_move rfl) ?_
    first | refine x_pure rfl (p_slice_sl rfl Try.e26 Try.c31 rfl rfl (by omega) (by omega) rfl) ?_ | refine x_pure rfl (p_slice_own rfl Try.e26 Try.c31 rfl rfl (by omega) (by omega)) ?_ | refine x_pure rfl (p_slice_sl rfl Try.e26 Try.c31 rfl (bnd_z rfl (by omega)) (by omega) (by omega) rfl) ?_ | refine x_pure rfl (p_slice_own rfl Try.e26 Try.c31 rfl (bnd_z rfl (by omega)) (by omega) (by omega)) ?_
    refine x_pure rfl (p_assign rfl) ?_
    first | refine aops_end ?_ | refine aops_nil ?_
    refine hK15 _ ?_
    refine aw_ret ?_
    have hjl : l.length ≤ j := by omega
    have he := delRow_end (fun x => !p x) l j hjl
    refine ⟨_, _, _, Le.refl _, rfl, rfl, ?_, ?_⟩
    · rw [List.take_of_length_le hjl]; rfl
    · rw [List.take_of_length_le hjl, Nat.zero_add, Int.toNat_natCast, ← List.map_take, he]

set_option maxRecDepth 20000 in
set_option maxHeartbeats 400000 in
theorem xClone_den (l : List Se) (hl : l.length * 40 ≤ 140737488355328)  : DenO Try.prog 47 [.sl 4 (l.map seC)] 4 (· = (l.map seC)) := by
 refine deno_of_aw Try.func47 rfl (Nat.le_of_ble_eq_true rfl) (fun w0 A hf => ?_)
 refine aw_seq_k (fun K1 hK1 => ?_)
 refine aw_region ?_
 refine x_pure rfl (p_assign_bad) ?_
 first | refine aops_end ?_ | refine aops_nil ?_
 refine hK1 _ ?_
 refine aw_seq_k (fun K2 hK2 => ?_)
 refine aw_seq_k (fun K3 hK3 => ?_)
 refine aw_region ?_
 refine x_pure rfl (p_move rfl) ?_
 first | refine y_eqnil_sl rfl rfl rfl Try.e26 (fun b hb1 => ?_) | refine y_eqnil_own rfl rfl rfl Try.e26 (fun b hb1 => ?_)
 first | refine aops_end ?_ | refine aops_nil ?_
 refine hK3 _ ?_
 refine aw_cond_s rfl (fun hc2 => ?_) (fun hc2 => ?_)
 ·
  try simp only [bs] at hc2
  have hl0 : l = [] := by simpa using hb1 (by assumption)
  refine aw_seq_k (fun K4 hK4 => ?_)
  refine aw_region ?_
  refine x_nil hf 4 rfl rfl rfl ?_
  first | refine aops_end ?_ | refine aops_nil ?_
  refine hK4 _ ?_
  refine aw_ret ?_
  exact ⟨2, [], by decide, rfl, rfl, by rw [hl0]; rfl⟩
 ·
  try simp only [bs] at hc2
  refine aw_skip ?_
  refine hK2 _ ?_
  refine aw_seq_k (fun K5 hK5 => ?_)
  refine aw_region ?_
  refine y_buildSlice hf rfl rfl rfl Try.ap26 rfl rfl rfl rfl (by simp [seC, AV.cells, AV.leaf, Value.oneCell', splice, AV.kill, AV.clean, cleanL, AV.only]) ?_
  refine x_pure rfl (p_move rfl) ?_
  refine x_append hf rfl Try.ap26 rfl rfl rfl (.inl rfl) rfl rfl (by first | rfl | simp [asrc, look]) (by first | (simp only [maxLen, List.length_map, List.length_append, List.length_cons, List.length_nil]; omega) | (simp [maxLen] <;> omega)) (by first | (simp only [List.length_map, List.length_append, List.length_cons, List.length_nil]; omega) | (simp <;> omega)) ?_
  refine aops_le (le_of (sl' := [(7, _)]) ⟨rfl, trivial⟩) ?_
  refine x_pure rfl (p_assign rfl) ?_
  first | refine aops_end ?_ | refine aops_nil ?_
  refine hK5 _ ?_
  refine aw_ret ?_
  refine ⟨5, (l.map seC), by decide, rfl, ?_, rfl⟩
  show some (AV.own 5 4 0 (0 + (l.map seC).length)) = _
  rw [Nat.zero_add]

set_option maxRecDepth 20000 in
set_option maxHeartbeats 400000 in
theorem xGrow_den (n : Nat) (hn : n * 40 ≤ 140737488355328)  : DenO Try.prog 64 [.s (.slice none 0 0), .s (.int .i64 (n : Nat))] 4 (· = []) := by
 refine deno_of_aw Try.func64 rfl (Nat.le_of_ble_eq_true rfl) (fun w0 A hf => ?_)
 refine aw_seq_k (fun K1 hK1 => ?_)
 refine aw_region ?_
 refine x_pure rfl (p_assign_bad) ?_
 first | refine aops_end ?_ | refine aops_nil ?_
 refine hK1 _ ?_
 refine aw_seq_k (fun K2 hK2 => ?_)
 refine aw_seq_k (fun K3 hK3 => ?_)
 refine aw_region ?_
 refine x_pure rfl (p_move rfl) ?_
 refine x_pure rfl (p_bin rfl rfl rfl) ?_
 first | refine aops_end ?_ | refine aops_nil ?_
 refine hK3 _ ?_
 refine aw_cond_s rfl (fun hc1 => ?_) (fun hc1 => ?_)
 ·
  try simp only [bs] at hc1
  omega
 ·
  try simp only [bs] at hc1
  refine aw_skip ?_
  refine hK2 _ ?_
  refine aw_seq_k (fun K4 hK4 => ?_)
  refine aw_seq_k (fun K5 hK5 => ?_)
  refine aw_region ?_
  refine x_pure rfl (p_move rfl) ?_
  refine x_pure rfl (p_move rfl) ?_
  refine x_pure rfl (p_cap_nil rfl Try.e26) ?_
  refine x_pure rfl (p_move rfl) ?_
  first | refine x_pure rfl (p_len_sl rfl Try.e26) ?_ | refine x_pure rfl (p_len_own rfl Try.e26) ?_ | refine x_pure rfl (p_len_nil rfl Try.e26) ?_
  first | refine x_pure rfl (p_sub rfl rfl (by omega) (by omega)) ?_ | refine x_pure rfl (p_bin rfl rfl rfl) ?_
  first | refine x_pure rfl (p_sub rfl rfl (by omega) (by omega)) ?_ | refine x_pure rfl (p_bin rfl rfl rfl) ?_
  refine x_pure rfl (p_assign rfl) ?_
  first | refine aops_end ?_ | refine aops_nil ?_
  refine hK5 _ ?_
  refine aw_seq_k (fun K6 hK6 => ?_)
  refine aw_region ?_
  refine x_pure rfl (p_move rfl) ?_
  refine x_pure rfl (p_bin rfl rfl rfl) ?_
  first | refine aops_end ?_ | refine aops_nil ?_
  refine hK6 _ ?_
  refine aw_cond_s rfl (fun hc2 => ?_) (fun hc2 => ?_)
  ·
   try simp only [bs] at hc2
   refine aw_region ?_
   refine x_pure rfl (p_move rfl) ?_
   refine x_pure rfl (p_move rfl) ?_
   refine x_pure rfl (p_cap_nil rfl Try.e26) ?_
   first | refine x_pure rfl (p_slice_nil rfl Try.e26 Try.c31 rfl) ?_ | refine x_pure rfl (p_slice_sl rfl Try.e26 Try.c31 rfl rfl (by omega) (by omega) rfl) ?_ | refine x_pure rfl (p_slice_own rfl Try.e26 Try.c31 rfl rfl (by omega) (by omega)) ?_ | refine x_pure rfl (p_slice_sl rfl Try.e26 Try.c31 rfl (bnd_z rfl (by omega)) (by omega) (by omega) rfl) ?_ | refine x_pure rfl (p_slice_own rfl Try.e26 Try.c31 rfl (bnd_z rfl (by omega)) (by omega) (by omega)) ?_
   refine x_pure rfl (p_move rfl) ?_
   refine x_appmake hf rfl rfl rfl Try.ap26 Try.underlying3 rfl rfl (by omega) (by omega) (by simp only [maxLen]; omega) ?_
   refine x_pure rfl (p_move rfl) ?_
   first | refine x_pure rfl (p_len_sl rfl Try.e26) ?_ | refine x_pure rfl (p_len_own rfl Try.e26) ?_ | refine x_pure rfl (p_len_nil rfl Try.e26) ?_
   first | refine x_pure rfl (p_slice_nil rfl Try.e26 Try.c31 rfl) ?_ | refine x_pure rfl (p_slice_sl rfl Try.e26 Try.c31 rfl rfl (by omega) (by omega) rfl) ?_ | refine x_pure rfl (p_slice_own rfl Try.e26 Try.c31 rfl rfl (by omega) (by omega)) ?_ | refine x_pure rfl (p_slice_sl rfl Try.e26 Try.c31 rfl (bnd_z rfl (by omega)) (by omega) (by omega) rfl) ?_ | refine x_pure rfl (p_slice_own rfl Try.e26 Try.c31 rfl (bnd_z rfl (by omega)) (by omega) (by omega)) ?_
   refine x_pure rfl (p_assign rfl) ?_
   first | refine aops_end ?_ | refine aops_nil ?_
   refine hK4 _ ?_
   refine aw_seq_k (fun K7 hK7 => ?_)
   refine aw_region ?_
   refine x_pure rfl (p_move rfl) ?_
   first | refine x_nil' hf 4 rfl rfl rfl rfl ?_ | refine x_pure rfl (p_assign rfl) ?_
   first | refine aops_end ?_ | refine aops_nil ?_
   refine hK7 _ ?_
   refine aw_ret ?_
   first | exact ⟨22, [], by decide, rfl, rfl, rfl⟩ | exact ⟨4, [], by decide, rfl, rfl, rfl⟩
  ·
   try simp only [bs] at hc2
   refine aw_skip ?_
   refine hK4 _ ?_
   refine aw_seq_k (fun K8 hK8 => ?_)
   refine aw_region ?_
   refine x_pure rfl (p_move rfl) ?_
   first | refine x_nil' hf 4 rfl rfl rfl rfl ?_ | refine x_pure rfl (p_assign rfl) ?_
   first | refine aops_end ?_ | refine aops_nil ?_
   refine hK8 _ ?_
   refine aw_ret ?_
   first | exact ⟨22, [], by decide, rfl, rfl, rfl⟩ | exact ⟨4, [], by decide, rfl, rfl, rfl⟩

set_option maxRecDepth 20000 in
set_option maxHeartbeats 1000000 in
theorem xConcat_den (rows : List (List Se)) (hl : rows.length ≤ 9223372036854775807) (hb : rows.flatten.length * 40 ≤ 140737488355328)  : DenO Try.prog 42 [.sl 1 (rows.map fun r => [AV.sl 4 (r.map seC)])] 4 (· = (rows.flatten.map seC)) := by
 refine deno_of_aw Try.func42 rfl (Nat.le_of_ble_eq_true rfl) (fun w0 A hf => ?_)
 refine aw_seq_k (fun K1 hK1 => ?_)
 refine aw_region ?_
 refine x_pure rfl (p_assign_bad) ?_
 first | refine aops_end ?_ | refine aops_nil ?_
 refine hK1 _ ?_
 refine aw_seq_k (fun K2 hK2 => ?_)
 refine aw_region ?_
 refine x_pure rfl (p_assign rfl) ?_
 first | refine aops_end ?_ | refine aops_nil ?_
 refine hK2 _ ?_
 refine aw_seq_k (fun K3 hK3 => ?_)
 refine aw_seq_k (fun K4 hK4 => ?_)
 refine aw_region ?_
 refine x_pure rfl (p_move rfl) ?_
 first | refine x_pure rfl (p_len_sl rfl Try.e104) ?_ | refine x_pure rfl (p_len_own rfl Try.e104) ?_ | refine x_pure rfl (p_len_nil rfl Try.e104) ?_
 refine x_pure rfl (p_move rfl) ?_
 first | refine aops_end ?_ | refine aops_nil ?_
 refine hK4 _ ?_
 refine aw_block ?_
 refine aw_loop (ι := Nat) (fun k => ⟨36, [(0, .sl 1 (rows.map fun r => [AV.sl 4 (r.map seC)])), (3, .s (.int .i64 ((rows.take k).flatten.length : Nat))), (9, .sl 1 (rows.map fun r => [AV.sl 4 (r.map seC)])), (10, .s (.int .i64 ((rows.map fun r => [AV.sl 4 (r.map seC)]).length : Nat))), (11, .s (.int .i64 (k : Nat)))], []⟩) (fun k => k ≤ rows.length) (fun k => rows.length - k) 0 ?_ ?_ ?_
 · exact Nat.zero_le _
 · exact le_of ⟨rfl, rfl, rfl, rfl, rfl, trivial⟩
 ·
  rintro k hC
  refine aw_seq_k (fun K5 hK5 => ?_)
  refine aw_region ?_
  refine x_pure rfl (p_bin rfl rfl rfl) ?_
  first | refine aops_end ?_ | refine aops_nil ?_
  refine hK5 _ ?_
  refine aw_seq_k (fun K6 hK6 => ?_)
  refine aw_cond_s rfl (fun hc1 => ?_) (fun hc1 => ?_)
  ·
   try simp only [bs] at hc1
   refine aw_skip ?_
   refine hK6 _ ?_
   refine aw_seq_k (fun K7 hK7 => ?_)
   refine aw_block ?_
   refine aw_seq_k (fun K8 hK8 => ?_)
   refine aw_region ?_
   first | refine x_pure rfl (p_idx_sl rfl rfl Try.e104 Try.c26 (by first | assumption | (refine ⟨by omega, ?_⟩; first | assumption | exact strs_at (by omega) | exact strs_at (by simp only [List.length_cons] at *; omega) | exact ints_at (by omega) | exact map_at (by omega) | exact list_at (by omega)) | exact ⟨by decide, rfl⟩)) ?_ | refine x_pure rfl (p_idx_own rfl rfl Try.e104 Try.c26 (by omega)) ?_
   first | refine x_pure rfl (p_load1 rfl Try.g26 rfl) ?_ | refine x_pure rfl (p_load1r rfl Try.g26 rfl rfl) ?_ | refine x_pure rfl (p_load1r rfl Try.g26 rfl (strs_ref (by simp only [List.length_cons] at *; omega))) ?_ | refine x_pure rfl (p_load1r rfl Try.g26 rfl (strs_ref (by omega))) ?_
   refine x_pure rfl (p_assign rfl) ?_
   first | refine aops_end ?_ | refine aops_nil ?_
   refine hK8 _ ?_
   refine aw_seq_k (fun K9 hK9 => ?_)
   refine aw_region ?_
   have hk : k < rows.length := by omega
   have e1 := congrArg List.length (take_flat rows k hk)
   rw [List.length_append] at e1
   have e2 := flat_le rows (k + 1)
   have e3 : (rows[k].map seC).length = rows[k].length := List.length_map _
   refine x_pure rfl (p_move rfl) ?_
   refine x_pure rfl (p_move rfl) ?_
   first | refine x_pure rfl (p_len_sl rfl Try.e26) ?_ | refine x_pure rfl (p_len_own rfl Try.e26) ?_ | refine x_pure rfl (p_len_nil rfl Try.e26) ?_
   first | refine x_pure rfl (p_add rfl rfl (by omega) (by omega)) ?_ | refine x_pure rfl (p_bin rfl rfl rfl) ?_
   rw [show ((((rows.take k).flatten.length : Nat) : Int) + (((rows[k].map seC).length : Nat) : Int)) = (((rows.take (k + 1)).flatten.length : Nat) : Int) from by omega]
   refine x_pure rfl (p_assign rfl) ?_
   first | refine aops_end ?_ | refine aops_nil ?_
   refine hK9 _ ?_
   refine aw_seq_k (fun K10 hK10 => ?_)
   refine aw_region ?_
   refine x_pure rfl (p_move rfl) ?_
   refine x_pure rfl (p_bin rfl rfl rfl) ?_
   first | refine aops_end ?_ | refine aops_nil ?_
   refine hK10 _ ?_
   refine aw_cond_s rfl (fun hc2 => ?_) (fun hc2 => ?_)
   ·
    try simp only [bs] at hc2
    omega
   ·
    try simp only [bs] at hc2
    refine aw_skip ?_
    refine hK7 _ ?_
    refine aw_region ?_
    first | refine x_pure rfl (p_add rfl rfl (by omega) (by omega)) ?_ | refine x_pure rfl (p_bin rfl rfl rfl) ?_
    refine x_pure rfl (p_move rfl) ?_
    first | refine aops_end ?_ | refine aops_nil ?_
    exact ⟨k+1, (by omega), by omega, le_of ⟨rfl, rfl, rfl, rfl, rfl, trivial⟩⟩
  ·
   try simp only [bs] at hc1
   refine aw_exit ?_
   refine hK3 _ ?_
   refine aw_seq_k (fun K11 hK11 => ?_)
   refine aw_region ?_
   rw [List.take_of_length_le (show rows.length ≤ k by omega)]
   refine x_pure rfl (p_move rfl) ?_
   refine y_callO hf rfl rfl rfl rfl rfl Try.ent64 rfl (xGrow_den rows.flatten.length (by omega)) ?_
   rintro _ rfl
   refine x_pure rfl (p_assign rfl) ?_
   first | refine aops_end ?_ | refine aops_nil ?_
   refine hK11 _ ?_
   refine aw_seq_k (fun K12 hK12 => ?_)
   refine aw_seq_k (fun K13 hK13 => ?_)
   refine aw_region ?_
   refine x_pure rfl (p_move rfl) ?_
   first | refine x_pure rfl (p_len_sl rfl Try.e104) ?_ | refine x_pure rfl (p_len_own rfl Try.e104) ?_ | refine x_pure rfl (p_len_nil rfl Try.e104) ?_
   refine x_pure rfl (p_move rfl) ?_
   first | refine aops_end ?_ | refine aops_nil ?_
   refine hK13 _ ?_
   refine aw_block ?_
   refine aw_loop (ι := Nat) (fun j => ⟨36, [(6, .own 24 4 0 (rows.take j).flatten.length), (25, .sl 1 (rows.map fun r => [AV.sl 4 (r.map seC)])), (26, .s (.int .i64 ((rows.map fun r => [AV.sl 4 (r.map seC)]).length : Nat))), (27, .s (.int .i64 (j : Nat)))], [(24, .buf 4 ((rows.take j).flatten.map seC))]⟩) (fun j => j ≤ rows.length) (fun j => rows.length - j) 0 ?_ ?_ ?_
   · exact Nat.zero_le _
   · exact le_of ⟨rfl, rfl, rfl, rfl, trivial⟩
   ·
    rintro j hC
    refine aw_seq_k (fun K14 hK14 => ?_)
    refine aw_region ?_
    refine x_pure rfl (p_bin rfl rfl rfl) ?_
    first | refine aops_end ?_ | refine aops_nil ?_
    refine hK14 _ ?_
    refine aw_seq_k (fun K15 hK15 => ?_)
    refine aw_cond_s rfl (fun hc3 => ?_) (fun hc3 => ?_)
    ·
     try simp only [bs] at hc3
     refine aw_skip ?_
     refine hK15 _ ?_
     refine aw_seq_k (fun K16 hK16 => ?_)
     refine aw_block ?_
     refine aw_seq_k (fun K17 hK17 => ?_)
     refine aw_region ?_
     first | refine x_pure rfl (p_idx_sl rfl rfl Try.e104 Try.c26 (by first | assumption | (refine ⟨by omega, ?_⟩; first | assumption | exact strs_at (by omega) | exact strs_at (by simp only [List.length_cons] at *; omega) | exact ints_at (by omega) | exact map_at (by omega) | exact list_at (by omega)) | exact ⟨by decide, rfl⟩)) ?_ | refine x_pure rfl (p_idx_own rfl rfl Try.e104 Try.c26 (by omega)) ?_
     first | refine x_pure rfl (p_load1 rfl Try.g26 rfl) ?_ | refine x_pure rfl (p_load1r rfl Try.g26 rfl rfl) ?_ | refine x_pure rfl (p_load1r rfl Try.g26 rfl (strs_ref (by simp only [List.length_cons] at *; omega))) ?_ | refine x_pure rfl (p_load1r rfl Try.g26 rfl (strs_ref (by omega))) ?_
     refine x_pure rfl (p_assign rfl) ?_
     first | refine aops_end ?_ | refine aops_nil ?_
     refine hK17 _ ?_
     refine aw_region ?_
     have hj : j < rows.length := by omega
     have e1 := congrArg List.length (take_flat rows j hj)
     rw [List.length_append] at e1
     have e2 := flat_le rows (j + 1)
     have e3 : (rows[j].map seC).length = rows[j].length := List.length_map _
     refine x_pure rfl (p_move rfl) ?_
     refine x_pure rfl (p_move rfl) ?_
     refine x_append hf rfl Try.ap26 rfl rfl rfl (.inl rfl) (by simp only [List.length_map]) rfl (by first | rfl | simp [asrc, look]) (by first | (simp only [maxLen, List.length_map, List.length_append, List.length_cons, List.length_nil]; omega) | (simp [maxLen] <;> omega)) (by first | (simp only [List.length_map, List.length_append, List.length_cons, List.length_nil]; omega) | (simp <;> omega)) ?_
     refine aops_le (le_of (sl' := [(25, _), (26, _), (27, _), (33, _)]) ⟨rfl, rfl, rfl, rfl, trivial⟩) ?_
     rw [show (rows.take j).flatten.length + (rows[j].map seC).length = (rows.take (j + 1)).flatten.length from by omega, ← List.map_append, ← take_flat rows j hj]
     refine x_pure rfl (p_assign rfl) ?_
     first | refine aops_end ?_ | refine aops_nil ?_
     refine hK16 _ ?_
     refine aw_region ?_
     first | refine x_pure rfl (p_add rfl rfl (by omega) (by omega)) ?_ | refine x_pure rfl (p_bin rfl rfl rfl) ?_
     refine x_pure rfl (p_move rfl) ?_
     first | refine aops_end ?_ | refine aops_nil ?_
     exact ⟨j+1, (by omega), by omega, le_of ⟨rfl, rfl, rfl, rfl, trivial⟩⟩
    ·
     try simp only [bs] at hc3
     refine aw_exit ?_
     refine hK12 _ ?_
     refine aw_seq_k (fun K18 hK18 => ?_)
     refine aw_region ?_
     refine x_pure rfl (p_move rfl) ?_
     refine x_pure rfl (p_assign rfl) ?_
     first | refine aops_end ?_ | refine aops_nil ?_
     refine hK18 _ ?_
     refine aw_ret ?_
     refine ⟨24, (rows.flatten.map seC), by decide, ?_, ?_, rfl⟩
     · rw [List.take_of_length_le (show rows.length ≤ j by omega)]; rfl
     · rw [List.take_of_length_le (show rows.length ≤ j by omega)]
       show some (AV.own 24 4 0 rows.flatten.length) = _
       rw [List.length_map]

set_option maxRecDepth 20000 in
set_option maxHeartbeats 400000 in
theorem xEqual_den (a b : List Se) (ha : a.length ≤ 9223372036854775807) (hb : b.length ≤ 9223372036854775807)  : Den Try.prog 57 [.sl 4 (a.map seC), .sl 4 (b.map seC)]  (· = .s (.bool (decide (a = b)))) := by
 refine den_of_aw Try.func57 rfl (Nat.le_of_ble_eq_true rfl) (fun w0 A hf => ?_)
 refine aw_seq_k (fun K1 hK1 => ?_)
 refine aw_region ?_
 refine x_pure rfl (p_assign_bad) ?_
 first | refine aops_end ?_ | refine aops_nil ?_
 refine hK1 _ ?_
 refine aw_seq_k (fun K2 hK2 => ?_)
 refine aw_seq_k (fun K3 hK3 => ?_)
 refine aw_region ?_
 refine x_pure rfl (p_move rfl) ?_
 first | refine x_pure rfl (p_len_sl rfl Try.e26) ?_ | refine x_pure rfl (p_len_own rfl Try.e26) ?_ | refine x_pure rfl (p_len_nil rfl Try.e26) ?_
 refine x_pure rfl (p_move rfl) ?_
 first | refine x_pure rfl (p_len_sl rfl Try.e26) ?_ | refine x_pure rfl (p_len_own rfl Try.e26) ?_ | refine x_pure rfl (p_len_nil rfl Try.e26) ?_
 refine x_pure rfl (p_bin rfl rfl rfl) ?_
 first | refine aops_end ?_ | refine aops_nil ?_
 refine hK3 _ ?_
 refine aw_cond_s rfl (fun hc1 => ?_) (fun hc1 => ?_)
 ·
  try simp only [bs] at hc1
  refine aw_seq_k (fun K4 hK4 => ?_)
  refine aw_region ?_
  refine x_pure rfl (p_assign rfl) ?_
  first | refine aops_end ?_ | refine aops_nil ?_
  refine hK4 _ ?_
  refine aw_ret ?_
  refine ⟨_, rfl, ?_⟩
  refine ret_bool ?_
  rw [eqrow_len (by omega)]
 ·
  try simp only [bs] at hc1
  refine aw_skip ?_
  refine hK2 _ ?_
  refine aw_seq_k (fun K5 hK5 => ?_)
  refine aw_seq_k (fun K6 hK6 => ?_)
  refine aw_region ?_
  refine x_pure rfl (p_move rfl) ?_
  first | refine x_pure rfl (p_len_sl rfl Try.e26) ?_ | refine x_pure rfl (p_len_own rfl Try.e26) ?_ | refine x_pure rfl (p_len_nil rfl Try.e26) ?_
  refine x_pure rfl (p_move rfl) ?_
  first | refine aops_end ?_ | refine aops_nil ?_
  refine hK6 _ ?_
  refine aw_block ?_
  refine aw_loop (ι := Nat) (fun k => ⟨26, [(0, .sl 4 (a.map seC)), (1, .sl 4 (b.map seC)), (12, .s (.int .i64 ((a.map seC).length : Nat))), (13, .s (.int .i64 (k : Nat)))], []⟩) (fun k => k ≤ a.length ∧ a.take k = b.take k) (fun k => a.length - k) 0 ?_ ?_ ?_
  · exact ⟨Nat.zero_le _, rfl⟩
  · exact le_of ⟨rfl, rfl, rfl, rfl, trivial⟩
  ·
   rintro k hC
   obtain ⟨h1, h2⟩ := hC
   refine aw_seq_k (fun K7 hK7 => ?_)
   refine aw_region ?_
   refine x_pure rfl (p_bin rfl rfl rfl) ?_
   first | refine aops_end ?_ | refine aops_nil ?_
   refine hK7 _ ?_
   refine aw_seq_k (fun K8 hK8 => ?_)
   refine aw_cond_s rfl (fun hc2 => ?_) (fun hc2 => ?_)
   ·
    try simp only [bs] at hc2
    refine aw_skip ?_
    refine hK8 _ ?_
    refine aw_seq_k (fun K9 hK9 => ?_)
    refine aw_block ?_
    refine aw_seq_k (fun K10 hK10 => ?_)
    refine aw_region ?_
    refine x_pure rfl (p_move rfl) ?_
    refine x_pure rfl (p_assign rfl) ?_
    first | refine aops_end ?_ | refine aops_nil ?_
    refine hK10 _ ?_
    refine aw_seq_k (fun K11 hK11 => ?_)
    refine aw_draw hf Try.mixed (by kernel_rfl) rfl ?_
    refine d_pure [(0, _)] rfl rfl ⟨⟨rfl, rfl⟩, trivial⟩ rfl (p_move rfl) ?_
    refine d_pure [(5, _)] rfl rfl ⟨⟨rfl, rfl⟩, trivial⟩ rfl (p_move rfl) ?_
    first | refine d_pure [(16, _), (17, _)] rfl rfl ⟨⟨rfl, rfl⟩, ⟨rfl, rfl⟩, trivial⟩ rfl (p_idx_sl rfl rfl Try.e26 Try.c31 (by first | assumption | (refine ⟨by omega, ?_⟩; first | assumption | exact strs_at (by omega) | exact strs_at (by simp only [List.length_cons] at *; omega) | exact ints_at (by omega) | exact map_at (by omega) | exact list_at (by omega)) | exact ⟨by decide, rfl⟩)) ?_ | refine d_pure [(16, _), (17, _)] rfl rfl ⟨⟨rfl, rfl⟩, ⟨rfl, rfl⟩, trivial⟩ rfl (p_idx_own rfl rfl Try.e26 Try.c31 (by omega)) ?_
    first | refine d_pure [(18, _)] rfl rfl ⟨⟨rfl, rfl⟩, trivial⟩ rfl (p_loads rfl Try.g31 Try.c31 rfl rfl) ?_ | refine d_pure [(18, _)] rfl rfl ⟨⟨rfl, rfl⟩, trivial⟩ rfl (p_loadsr rfl Try.g31 Try.c31 rfl rfl rfl) ?_
    refine d_pure [(1, _)] rfl rfl ⟨⟨rfl, rfl⟩, trivial⟩ rfl (p_move rfl) ?_
    refine d_pure [(5, _)] rfl rfl ⟨⟨rfl, rfl⟩, trivial⟩ rfl (p_move rfl) ?_
    first | refine d_pure [(20, _), (21, _)] rfl rfl ⟨⟨rfl, rfl⟩, ⟨rfl, rfl⟩, trivial⟩ rfl (p_idx_sl rfl rfl Try.e26 Try.c31 (by first | assumption | (refine ⟨by omega, ?_⟩; first | assumption | exact strs_at (by omega) | exact strs_at (by simp only [List.length_cons] at *; omega) | exact ints_at (by omega) | exact map_at (by omega) | exact list_at (by omega)) | exact ⟨by decide, rfl⟩)) ?_ | refine d_pure [(20, _), (21, _)] rfl rfl ⟨⟨rfl, rfl⟩, ⟨rfl, rfl⟩, trivial⟩ rfl (p_idx_own rfl rfl Try.e26 Try.c31 (by omega)) ?_
    first | refine d_pure [(22, _)] rfl rfl ⟨⟨rfl, rfl⟩, trivial⟩ rfl (p_loads rfl Try.g31 Try.c31 rfl rfl) ?_ | refine d_pure [(22, _)] rfl rfl ⟨⟨rfl, rfl⟩, trivial⟩ rfl (p_loadsr rfl Try.g31 Try.c31 rfl rfl rfl) ?_
    refine d_pure [(19, _), (23, _)] rfl rfl ⟨⟨rfl, rfl⟩, ⟨rfl, rfl⟩, trivial⟩ rfl (p_neagg rfl rfl Try.q31 rfl) ?_
    rw [seC_eq]
    refine lex_end (sl' := [(0, _), (1, _), (12, _), (13, _), (24, _)]) rfl ⟨rfl, rfl, rfl, rfl, rfl, trivial⟩ rfl ?_
    refine hK11 _ ?_
    refine aw_cond_s rfl (fun hc3 => ?_) (fun hc3 => ?_)
    ·
     try simp only [bs] at hc3
     refine aw_seq_k (fun K12 hK12 => ?_)
     refine aw_region ?_
     refine x_pure rfl (p_assign rfl) ?_
     first | refine aops_end ?_ | refine aops_nil ?_
     refine hK12 _ ?_
     refine aw_ret ?_
     refine ⟨_, rfl, ?_⟩
     refine ret_bool ?_
     rw [eqrow_diff (by omega) (by omega) (by assumption)]
    ·
     try simp only [bs] at hc3
     refine aw_skip ?_
     refine hK9 _ ?_
     refine aw_region ?_
     first | refine x_pure rfl (p_add rfl rfl (by omega) (by omega)) ?_ | refine x_pure rfl (p_bin rfl rfl rfl) ?_
     refine x_pure rfl (p_move rfl) ?_
     first | refine aops_end ?_ | refine aops_nil ?_
     exact ⟨k+1, ⟨by omega, eqrow_next (by omega) (by omega) h2 (by assumption)⟩, by omega, le_of ⟨rfl, rfl, rfl, rfl, trivial⟩⟩
   ·
    try simp only [bs] at hc2
    refine aw_exit ?_
    refine hK5 _ ?_
    refine aw_seq_k (fun K13 hK13 => ?_)
    refine aw_region ?_
    refine x_pure rfl (p_assign rfl) ?_
    first | refine aops_end ?_ | refine aops_nil ?_
    refine hK13 _ ?_
    refine aw_ret ?_
    refine ⟨_, rfl, ?_⟩
    refine ret_bool ?_
    rw [eqrow_end (by omega) (by omega) h2]

set_option maxRecDepth 20000 in
set_option maxHeartbeats 400000 in
theorem stay10_den (e : Se) (t : Int)  : Den Try.prog 48 [.agg (seC e), .s (.int .i64 t)]  (· = .agg (stC (stayOf e t))) := by
 refine den_of_aw Try.func48 rfl (Nat.le_of_ble_eq_true rfl) (fun w0 A hf => ?_)
 refine aw_seq_k (fun K1 hK1 => ?_)
 refine aw_region ?_
 refine x_step hf rfl (r_box rfl rfl (by simp [seC, stC, spC, AV.cells, AV.leaf, Value.oneCell', splice, AV.kill, AV.clean, cleanL, AV.only])) ?_
 refine x_alloc hf rfl rfl rfl Try.z44 ?_
 first | refine aops_end ?_ | refine aops_nil ?_
 refine hK1 _ ?_
 refine aw_seq_k (fun K2 hK2 => ?_)
 refine aw_region ?_
 first | refine x_pure rfl (p_fld_adr rfl Try.fd31_3 Try.c3 rfl) ?_ | refine x_pure rfl (p_fld_ref rfl Try.fd31_3 Try.c3 rfl) ?_
 first | refine x_pure rfl (p_load1 rfl Try.g3 rfl) ?_ | refine x_pure rfl (p_load1r rfl Try.g3 rfl rfl) ?_ | refine x_pure rfl (p_load1r rfl Try.g3 rfl (strs_ref (by simp only [List.length_cons] at *; omega))) ?_ | refine x_pure rfl (p_load1r rfl Try.g3 rfl (strs_ref (by omega))) ?_
 refine x_pure rfl (p_move rfl) ?_
 refine x_pure rfl (p_build rfl Try.z42 Try.pl42 (by simp [seC, stC, spC, AV.cells, AV.one, Value.oneCell', splice, AV.kill, AV.clean, cleanL, AV.only]) rfl) ?_
 first | refine x_pure rfl (p_fld_adr rfl Try.fd31_0 Try.c3 rfl) ?_ | refine x_pure rfl (p_fld_ref rfl Try.fd31_0 Try.c3 rfl) ?_
 first | refine x_pure rfl (p_load1 rfl Try.g3 rfl) ?_ | refine x_pure rfl (p_load1r rfl Try.g3 rfl rfl) ?_ | refine x_pure rfl (p_load1r rfl Try.g3 rfl (strs_ref (by simp only [List.length_cons] at *; omega))) ?_ | refine x_pure rfl (p_load1r rfl Try.g3 rfl (strs_ref (by omega))) ?_
 first | refine x_pure rfl (p_fld_adr rfl Try.fd31_2 Try.c3 rfl) ?_ | refine x_pure rfl (p_fld_ref rfl Try.fd31_2 Try.c3 rfl) ?_
 first | refine x_pure rfl (p_load1 rfl Try.g3 rfl) ?_ | refine x_pure rfl (p_load1r rfl Try.g3 rfl rfl) ?_ | refine x_pure rfl (p_load1r rfl Try.g3 rfl (strs_ref (by simp only [List.length_cons] at *; omega))) ?_ | refine x_pure rfl (p_load1r rfl Try.g3 rfl (strs_ref (by omega))) ?_
 refine x_pure rfl (p_build rfl Try.z44 Try.pl44 (by simp [seC, stC, spC, AV.cells, AV.one, Value.oneCell', splice, AV.kill, AV.clean, cleanL, AV.only]) rfl) ?_
 refine x_store hf rfl rfl Try.c44 rfl rfl (by simp [seC, stC, spC, AV.cells, AV.one, Value.oneCell', splice, AV.kill, AV.clean, cleanL, AV.only]) (by simp [seC, stC, spC, AV.cells, AV.leaf, Value.oneCell', splice, AV.kill, AV.clean, cleanL, AV.only]) rfl ?_
 first | refine aops_end ?_ | refine aops_nil ?_
 refine hK2 _ ?_
 refine aw_ret ?_
 refine ⟨_, rfl, ?_⟩
 rfl

set_option maxRecDepth 20000 in
set_option maxHeartbeats 400000 in
theorem refStay10_den (e : Se) (t : Int)  : Den Try.prog 49 [.agg (seC e), .s (.int .i64 t)]  (· = .agg (stC (stayOf e t))) := by
 refine den_of_aw Try.func49 rfl (Nat.le_of_ble_eq_true rfl) (fun w0 A hf => ?_)
 refine aw_seq_k (fun K1 hK1 => ?_)
 refine aw_region ?_
 refine x_step hf rfl (r_box rfl rfl (by simp [seC, stC, spC, AV.cells, AV.leaf, Value.oneCell', splice, AV.kill, AV.clean, cleanL, AV.only])) ?_
 refine x_alloc hf rfl rfl rfl Try.z48 ?_
 first | refine aops_end ?_ | refine aops_nil ?_
 refine hK1 _ ?_
 refine aw_seq_k (fun K2 hK2 => ?_)
 refine aw_region ?_
 first | refine x_pure rfl (p_fld_adr rfl Try.fd24_3 Try.c3 rfl) ?_ | refine x_pure rfl (p_fld_ref rfl Try.fd24_3 Try.c3 rfl) ?_
 first | refine x_pure rfl (p_load1 rfl Try.g3 rfl) ?_ | refine x_pure rfl (p_load1r rfl Try.g3 rfl rfl) ?_ | refine x_pure rfl (p_load1r rfl Try.g3 rfl (strs_ref (by simp only [List.length_cons] at *; omega))) ?_ | refine x_pure rfl (p_load1r rfl Try.g3 rfl (strs_ref (by omega))) ?_
 refine x_pure rfl (p_move rfl) ?_
 first | refine x_pure rfl (p_fld_adr rfl Try.fd24_0 Try.c3 rfl) ?_ | refine x_pure rfl (p_fld_ref rfl Try.fd24_0 Try.c3 rfl) ?_
 first | refine x_pure rfl (p_load1 rfl Try.g3 rfl) ?_ | refine x_pure rfl (p_load1r rfl Try.g3 rfl rfl) ?_ | refine x_pure rfl (p_load1r rfl Try.g3 rfl (strs_ref (by simp only [List.length_cons] at *; omega))) ?_ | refine x_pure rfl (p_load1r rfl Try.g3 rfl (strs_ref (by omega))) ?_
 first | refine x_pure rfl (p_fld_adr rfl Try.fd24_2 Try.c3 rfl) ?_ | refine x_pure rfl (p_fld_ref rfl Try.fd24_2 Try.c3 rfl) ?_
 first | refine x_pure rfl (p_load1 rfl Try.g3 rfl) ?_ | refine x_pure rfl (p_load1r rfl Try.g3 rfl rfl) ?_ | refine x_pure rfl (p_load1r rfl Try.g3 rfl (strs_ref (by simp only [List.length_cons] at *; omega))) ?_ | refine x_pure rfl (p_load1r rfl Try.g3 rfl (strs_ref (by omega))) ?_
 refine x_pure rfl (p_build rfl Try.z48 Try.pl48 (by simp [seC, stC, spC, AV.cells, AV.one, Value.oneCell', splice, AV.kill, AV.clean, cleanL, AV.only]) rfl) ?_
 refine x_store hf rfl rfl Try.c48 rfl rfl (by simp [seC, stC, spC, AV.cells, AV.one, Value.oneCell', splice, AV.kill, AV.clean, cleanL, AV.only]) (by simp [seC, stC, spC, AV.cells, AV.leaf, Value.oneCell', splice, AV.kill, AV.clean, cleanL, AV.only]) rfl ?_
 first | refine aops_end ?_ | refine aops_nil ?_
 refine hK2 _ ?_
 refine aw_ret ?_
 refine ⟨_, rfl, ?_⟩
 rfl

set_option maxRecDepth 20000 in
set_option maxHeartbeats 400000 in
theorem open1_den (x e : Se)  : Den Try.prog 41 [.agg (seC x), .adr (seC e)]  (· = .s (.bool (aboveN e.1.1 x))) := by
 refine den_of_aw Try.func41 rfl (Nat.le_of_ble_eq_true rfl) (fun w0 A hf => ?_)
 refine aw_seq_k (fun K1 hK1 => ?_)
 refine aw_region ?_
 refine x_step hf rfl (r_box rfl rfl (by simp [seC, AV.cells, AV.leaf, Value.oneCell', splice, AV.kill, AV.clean, cleanL, AV.only])) ?_
 refine x_pure rfl (p_assign_bad) ?_
 first | refine aops_end ?_ | refine aops_nil ?_
 refine hK1 _ ?_
 refine aw_seq_k (fun K2 hK2 => ?_)
 refine aw_region ?_
 first | refine x_pure rfl (p_fld_adr rfl Try.fd31_0 Try.c3 rfl) ?_ | refine x_pure rfl (p_fld_ref rfl Try.fd31_0 Try.c3 rfl) ?_
 first | refine x_pure rfl (p_load1 rfl Try.g3 rfl) ?_ | refine x_pure rfl (p_load1r rfl Try.g3 rfl rfl) ?_ | refine x_pure rfl (p_load1r rfl Try.g3 rfl (strs_ref (by simp only [List.length_cons] at *; omega))) ?_ | refine x_pure rfl (p_load1r rfl Try.g3 rfl (strs_ref (by omega))) ?_
 first | refine x_pure rfl (p_fld_adr rfl Try.fd31_0 Try.c3 rfl) ?_ | refine x_pure rfl (p_fld_ref rfl Try.fd31_0 Try.c3 rfl) ?_
 first | refine x_pure rfl (p_load1 rfl Try.g3 rfl) ?_ | refine x_pure rfl (p_load1r rfl Try.g3 rfl rfl) ?_ | refine x_pure rfl (p_load1r rfl Try.g3 rfl (strs_ref (by simp only [List.length_cons] at *; omega))) ?_ | refine x_pure rfl (p_load1r rfl Try.g3 rfl (strs_ref (by omega))) ?_
 refine x_pure rfl (p_bin rfl rfl rfl) ?_
 refine x_pure rfl (p_assign rfl) ?_
 first | refine aops_end ?_ | refine aops_nil ?_
 refine hK2 _ ?_
 refine aw_ret ?_
 refine ⟨_, rfl, ?_⟩
 rfl

set_option maxRecDepth 20000 in
set_option maxHeartbeats 400000 in
theorem without10_1_den (e : Se) (u : ByteArray)  : Den Try.prog 56 [.agg (seC e), .adr [.s (.string u)]]  (· = .s (.bool (hisB u e))) := by
 refine den_of_aw Try.func56 rfl (Nat.le_of_ble_eq_true rfl) (fun w0 A hf => ?_)
 refine aw_seq_k (fun K1 hK1 => ?_)
 refine aw_region ?_
 refine x_step hf rfl (r_box rfl rfl (by simp [seC, AV.cells, AV.leaf, Value.oneCell', splice, AV.kill, AV.clean, cleanL, AV.only])) ?_
 refine x_pure rfl (p_assign_bad) ?_
 first | refine aops_end ?_ | refine aops_nil ?_
 refine hK1 _ ?_
 refine aw_seq_k (fun K2 hK2 => ?_)
 refine aw_region ?_
 first | refine x_pure rfl (p_fld_adr rfl Try.fd31_1 Try.c9 rfl) ?_ | refine x_pure rfl (p_fld_ref rfl Try.fd31_1 Try.c9 rfl) ?_
 first | refine x_pure rfl (p_load1 rfl Try.g9 rfl) ?_ | refine x_pure rfl (p_load1r rfl Try.g9 rfl rfl) ?_ | refine x_pure rfl (p_load1r rfl Try.g9 rfl (strs_ref (by simp only [List.length_cons] at *; omega))) ?_ | refine x_pure rfl (p_load1r rfl Try.g9 rfl (strs_ref (by omega))) ?_
 first | refine x_pure rfl (p_load1 rfl Try.g9 rfl) ?_ | refine x_pure rfl (p_load1r rfl Try.g9 rfl rfl) ?_ | refine x_pure rfl (p_load1r rfl Try.g9 rfl (strs_ref (by simp only [List.length_cons] at *; omega))) ?_ | refine x_pure rfl (p_load1r rfl Try.g9 rfl (strs_ref (by omega))) ?_
 refine x_pure rfl (p_bin rfl rfl rfl) ?_
 refine x_pure rfl (p_assign rfl) ?_
 first | refine aops_end ?_ | refine aops_nil ?_
 refine hK2 _ ?_
 refine aw_ret ?_
 refine ⟨_, rfl, ?_⟩
 refine ret_bool ?_
 unfold hisB
 rw [Bool.eq_iff_iff]
 simp_all [toList_inj]

set_option maxRecDepth 20000 in
set_option maxHeartbeats 400000 in
theorem within_den (n a b : Int)  : Den Try.prog 46 [.s (.int .i64 n), .s (.int .i64 a), .s (.int .i64 b)]  (· = .s (.bool (decide (a ≤ n) && decide (n ≤ b)))) := by
 refine den_of_aw Try.func46 rfl (Nat.le_of_ble_eq_true rfl) (fun w0 A hf => ?_)
 refine aw_seq_k (fun K1 hK1 => ?_)
 refine aw_region ?_
 refine x_pure rfl (p_assign_bad) ?_
 first | refine aops_end ?_ | refine aops_nil ?_
 refine hK1 _ ?_
 refine aw_seq_k (fun K2 hK2 => ?_)
 refine aw_region ?_
 refine x_pure rfl (p_move rfl) ?_
 refine x_pure rfl (p_move rfl) ?_
 refine x_pure rfl (p_bin rfl rfl rfl) ?_
 refine x_pure rfl (p_move rfl) ?_
 refine y_guard_s rfl rfl rfl (fun hg1 => ?_) (fun hg1 => ?_)
 ·
  try simp only [bs] at hg1
  refine x_pure rfl (p_move rfl) ?_
  refine x_guard_t rfl rfl rfl ?_
  refine x_pure rfl (p_move rfl) ?_
  refine x_guard_t rfl rfl rfl ?_
  refine x_pure rfl (p_bin rfl rfl rfl) ?_
  refine x_pure rfl (p_pick_t rfl rfl) ?_
  refine x_pure rfl (p_assign rfl) ?_
  first | refine aops_end ?_ | refine aops_nil ?_
  refine hK2 _ ?_
  refine aw_ret ?_
  refine ⟨_, rfl, ?_⟩
  refine ret_bool ?_
  rw [Bool.eq_iff_iff]
  simp only [Bool.and_eq_true, decide_eq_true_eq, true_iff, Bool.false_eq_true, false_iff]
  omega
 ·
  try simp only [bs] at hg1
  refine x_guard_f rfl rfl rfl ?_
  refine x_guard_f rfl rfl rfl ?_
  refine x_pure rfl (p_pick_f rfl rfl) ?_
  refine x_pure rfl (p_assign rfl) ?_
  first | refine aops_end ?_ | refine aops_nil ?_
  refine hK2 _ ?_
  refine aw_ret ?_
  refine ⟨_, rfl, ?_⟩
  refine ret_bool ?_
  rw [Bool.eq_iff_iff]
  simp only [Bool.and_eq_true, decide_eq_true_eq, true_iff, Bool.false_eq_true, false_iff]
  omega

set_option maxRecDepth 20000 in
set_option maxHeartbeats 1000000 in
theorem at10_den (l : List Se) (n : Int) (u : ByteArray) (hl : l.length ≤ 9223372036854775807)  : Den Try.prog 39 [.sl 4 (l.map seC), .s (.int .i64 n), .s (.string u)]  (· = .tup [.s (.int .i64 (atK l n : Nat)), .s (.int .i64 (codeS l n u))]) := by
 refine den_of_aw Try.func39 rfl (Nat.le_of_ble_eq_true rfl) (fun w0 A hf => ?_)
 refine aw_seq_k (fun K1 hK1 => ?_)
 refine aw_region ?_
 refine x_pure rfl (p_assign_bad) ?_
 refine x_pure rfl (p_assign_bad) ?_
 first | refine aops_end ?_ | refine aops_nil ?_
 refine hK1 _ ?_
 refine aw_scope ?_
 refine aw_seq_k (fun K2 hK2 => ?_)
 refine aw_label ?_
 refine hK2 _ ?_
 refine aw_seq_k (fun K3 hK3 => ?_)
 refine aw_seq_k (fun K4 hK4 => ?_)
 refine aw_region ?_
 refine x_pure rfl (p_move rfl) ?_
 first | refine x_pure rfl (p_len_sl rfl Try.e26) ?_ | refine x_pure rfl (p_len_own rfl Try.e26) ?_ | refine x_pure rfl (p_len_nil rfl Try.e26) ?_
 refine x_pure rfl (p_move rfl) ?_
 first | refine aops_end ?_ | refine aops_nil ?_
 refine hK4 _ ?_
 refine aw_block ?_
 refine aw_loop (ι := Nat) (fun k => ⟨32, [(0, .sl 4 (l.map seC)), (1, .s (.int .i64 n)), (2, .s (.string u)), (10, .sl 4 (l.map seC)), (11, .s (.int .i64 ((l.map seC).length : Nat))), (12, .s (.int .i64 (k : Nat)))], []⟩) (fun k => k ≤ l.length ∧ ∀ (j : Nat) (hj : j < l.length), j < k → isN n l[j] = false) (fun k => l.length - k) 0 ?_ ?_ ?_
 · exact ⟨Nat.zero_le _, by omega⟩
 · exact le_of ⟨rfl, rfl, rfl, rfl, rfl, rfl, trivial⟩
 ·
  rintro k hC
  obtain ⟨h1, h2⟩ := hC
  refine aw_seq_k (fun K5 hK5 => ?_)
  refine aw_region ?_
  refine x_pure rfl (p_bin rfl rfl rfl) ?_
  first | refine aops_end ?_ | refine aops_nil ?_
  refine hK5 _ ?_
  refine aw_seq_k (fun K6 hK6 => ?_)
  refine aw_cond_s rfl (fun hc1 => ?_) (fun hc1 => ?_)
  ·
   try simp only [bs] at hc1
   refine aw_skip ?_
   refine hK6 _ ?_
   refine aw_seq_k (fun K7 hK7 => ?_)
   refine aw_block ?_
   refine aw_seq_k (fun K8 hK8 => ?_)
   refine aw_region ?_
   refine x_pure rfl (p_move rfl) ?_
   first | refine x_pure rfl (p_idx_sl rfl rfl Try.e26 Try.c31 (by first | assumption | (refine ⟨by omega, ?_⟩; first | assumption | exact strs_at (by omega) | exact strs_at (by simp only [List.length_cons] at *; omega) | exact ints_at (by omega) | exact map_at (by omega) | exact list_at (by omega)) | exact ⟨by decide, rfl⟩)) ?_ | refine x_pure rfl (p_idx_own rfl rfl Try.e26 Try.c31 (by omega)) ?_
   first | refine x_pure rfl (p_loads rfl Try.g31 Try.c31 rfl rfl) ?_ | refine x_pure rfl (p_loadsr rfl Try.g31 Try.c31 rfl rfl rfl) ?_
   refine x_alloc hf rfl rfl rfl Try.z31 ?_
   refine x_pure rfl (p_assign rfl) ?_
   refine x_store hf rfl rfl Try.c31 rfl rfl (by simp [seC, AV.cells, AV.one, Value.oneCell', splice, AV.kill, AV.clean, cleanL, AV.only]) (by simp [seC, AV.cells, AV.leaf, Value.oneCell', splice, AV.kill, AV.clean, cleanL, AV.only]) rfl ?_
   refine aops_le (le_keep (nee 9) (sl' := [(0, _), (1, _), (2, _), (8, _), (9, _), (10, _), (11, _), (12, _)]) (m' := []) ⟨⟨_, rfl, rfl⟩, ⟨_, rfl, rfl⟩, ⟨_, rfl, rfl⟩, ⟨_, rfl, rfl⟩, ⟨_, rfl, rfl⟩, ⟨_, rfl, rfl⟩, ⟨_, rfl, rfl⟩, ⟨_, rfl, rfl⟩, trivial⟩ rfl) ?_
   first | refine aops_end ?_ | refine aops_nil ?_
   refine hK8 _ ?_
   refine aw_seq_k (fun K9 hK9 => ?_)
   refine aw_block ?_
   refine aw_seq_k (fun K10 hK10 => ?_)
   refine aw_region ?_
   first | refine x_pure rfl (p_fld_adr rfl Try.fd31_0 Try.c3 rfl) ?_ | refine x_pure rfl (p_fld_ref rfl Try.fd31_0 Try.c3 rfl) ?_
   first | refine x_pure rfl (p_load1 rfl Try.g3 rfl) ?_ | refine x_pure rfl (p_load1r rfl Try.g3 rfl rfl) ?_ | refine x_pure rfl (p_load1r rfl Try.g3 rfl (strs_ref (by simp only [List.length_cons] at *; omega))) ?_ | refine x_pure rfl (p_load1r rfl Try.g3 rfl (strs_ref (by omega))) ?_
   refine x_pure rfl (p_move rfl) ?_
   refine x_pure rfl (p_bin rfl rfl rfl) ?_
   refine x_pure rfl (p_assign rfl) ?_
   first | refine aops_end ?_ | refine aops_nil ?_
   refine hK10 _ ?_
   refine aw_cond_s rfl (fun hc2 => ?_) (fun hc2 => ?_)
   ·
    try simp only [bs] at hc2
    refine aw_exit ?_
    refine hK7 _ ?_
    refine aw_region ?_
    first | refine x_pure rfl (p_add rfl rfl (by omega) (by omega)) ?_ | refine x_pure rfl (p_bin rfl rfl rfl) ?_
    refine x_pure rfl (p_move rfl) ?_
    first | refine aops_end ?_ | refine aops_nil ?_
    exact ⟨k+1, ⟨by omega, fun j hj hjk => by
     by_cases e : j = k
     · subst e; simp_all [isN]
     · exact h2 j hj (by omega)⟩, by omega, le_of ⟨rfl, rfl, rfl, rfl, rfl, rfl, trivial⟩⟩
   ·
    try simp only [bs] at hc2
    obtain ⟨e1, _, e3, _⟩ := at_here n u 0 0 l k (by omega) h2 (by simp_all [isN])
    refine aw_seq_k (fun K11 hK11 => ?_)
    refine aw_region ?_
    first | refine x_pure rfl (p_fld_adr rfl Try.fd31_1 Try.c9 rfl) ?_ | refine x_pure rfl (p_fld_ref rfl Try.fd31_1 Try.c9 rfl) ?_
    first | refine x_pure rfl (p_load1 rfl Try.g9 rfl) ?_ | refine x_pure rfl (p_load1r rfl Try.g9 rfl rfl) ?_ | refine x_pure rfl (p_load1r rfl Try.g9 rfl (strs_ref (by simp only [List.length_cons] at *; omega))) ?_ | refine x_pure rfl (p_load1r rfl Try.g9 rfl (strs_ref (by omega))) ?_
    refine x_pure rfl (p_move rfl) ?_
    refine x_pure rfl (p_bin rfl rfl rfl) ?_
    refine x_pure rfl (p_assign rfl) ?_
    first | refine aops_end ?_ | refine aops_nil ?_
    refine hK11 _ ?_
    refine aw_cond_s rfl (fun hc3 => ?_) (fun hc3 => ?_)
    ·
     try simp only [bs] at hc3
     refine aw_seq_k (fun K12 hK12 => ?_)
     refine aw_region ?_
     refine x_pure rfl (p_move rfl) ?_
     refine x_pure rfl (p_assign rfl) ?_
     refine x_pure rfl (p_assign rfl) ?_
     first | refine aops_end ?_ | refine aops_nil ?_
     refine hK12 _ ?_
     refine aw_ret ?_
     refine ⟨_, rfl, ?_⟩
     rw [e1, e3, if_neg (by simp_all [toList_inj])]; rfl
    ·
     try simp only [bs] at hc3
     refine aw_skip ?_
     refine hK9 _ ?_
     refine aw_seq_k (fun K13 hK13 => ?_)
     refine aw_region ?_
     refine x_pure rfl (p_move rfl) ?_
     refine x_pure rfl (p_assign rfl) ?_
     refine x_pure rfl (p_assign rfl) ?_
     first | refine aops_end ?_ | refine aops_nil ?_
     refine hK13 _ ?_
     refine aw_ret ?_
     refine ⟨_, rfl, ?_⟩
     rw [e1, e3, if_pos (by simp_all [toList_inj])]; rfl
  ·
   try simp only [bs] at hc1
   refine aw_exit ?_
   refine hK3 _ ?_
   refine aw_seq_k (fun K14 hK14 => ?_)
   refine aw_region ?_
   refine x_pure rfl (p_move rfl) ?_
   first | refine x_pure rfl (p_len_sl rfl Try.e26) ?_ | refine x_pure rfl (p_len_own rfl Try.e26) ?_ | refine x_pure rfl (p_len_nil rfl Try.e26) ?_
   refine x_pure rfl (p_assign rfl) ?_
   refine x_pure rfl (p_assign rfl) ?_
   first | refine aops_end ?_ | refine aops_nil ?_
   refine hK14 _ ?_
   refine aw_ret ?_
   refine ⟨_, rfl, ?_⟩
   obtain ⟨e1, e2, _⟩ := at_none n u l (fun j hj => h2 j hj (by omega))
   rw [e1, e2, List.length_map]; rfl

set_option maxRecDepth 20000 in
set_option maxHeartbeats 400000 in
theorem refAt10_den (l : List Se) (n : Int) (hl : l.length ≤ 9223372036854775807)  : Den Try.prog 43 [.sl 4 (l.map seC), .s (.int .i64 n)]  (· = .s (.int .i64 (idxB (isN n) l))) := by
 refine den_of_aw Try.func43 rfl (Nat.le_of_ble_eq_true rfl) (fun w0 A hf => ?_)
 refine aw_seq_k (fun K1 hK1 => ?_)
 refine aw_region ?_
 refine x_pure rfl (p_assign_bad) ?_
 first | refine aops_end ?_ | refine aops_nil ?_
 refine hK1 _ ?_
 refine aw_seq_k (fun K2 hK2 => ?_)
 refine aw_seq_k (fun K3 hK3 => ?_)
 refine aw_region ?_
 refine x_pure rfl (p_assign rfl) ?_
 first | refine aops_end ?_ | refine aops_nil ?_
 refine hK3 _ ?_
 refine aw_block ?_
 refine aw_loop (ι := Nat) (fun k => ⟨20, [(0, .sl 4 (l.map seC)), (1, .s (.int .i64 n)), (5, .s (.int .i64 (k : Nat)))], []⟩) (fun k => k ≤ l.length ∧ ∀ (j : Nat) (hj : j < l.length), j < k → isN n l[j] = false) (fun k => l.length - k) 0 ?_ ?_ ?_
 · exact ⟨Nat.zero_le _, by omega⟩
 · exact le_of ⟨rfl, rfl, rfl, trivial⟩
 ·
  rintro k hC
  obtain ⟨h1, h2⟩ := hC
  refine aw_seq_k (fun K4 hK4 => ?_)
  refine aw_seq_k (fun K5 hK5 => ?_)
  refine aw_region ?_
  refine x_pure rfl (p_move rfl) ?_
  refine x_pure rfl (p_move rfl) ?_
  first | refine x_pure rfl (p_len_sl rfl Try.e22) ?_ | refine x_pure rfl (p_len_own rfl Try.e22) ?_ | refine x_pure rfl (p_len_nil rfl Try.e22) ?_
  refine x_pure rfl (p_bin rfl rfl rfl) ?_
  first | refine aops_end ?_ | refine aops_nil ?_
  refine hK5 _ ?_
  refine aw_cond_s rfl (fun hc1 => ?_) (fun hc1 => ?_)
  ·
   try simp only [bs] at hc1
   refine aw_skip ?_
   refine hK4 _ ?_
   refine aw_seq_k (fun K6 hK6 => ?_)
   refine aw_block ?_
   refine aw_seq_k (fun K7 hK7 => ?_)
   refine aw_region ?_
   refine x_pure rfl (p_move rfl) ?_
   refine x_pure rfl (p_move rfl) ?_
   first | refine x_pure rfl (p_idx_sl rfl rfl Try.e22 Try.c24 (by first | assumption | (refine ⟨by omega, ?_⟩; first | assumption | exact strs_at (by omega) | exact strs_at (by simp only [List.length_cons] at *; omega) | exact ints_at (by omega) | exact map_at (by omega) | exact list_at (by omega)) | exact ⟨by decide, rfl⟩)) ?_ | refine x_pure rfl (p_idx_own rfl rfl Try.e22 Try.c24 (by omega)) ?_
   first | refine x_pure rfl (p_fld_adr rfl Try.fd24_0 Try.c3 rfl) ?_ | refine x_pure rfl (p_fld_ref rfl Try.fd24_0 Try.c3 rfl) ?_
   first | refine x_pure rfl (p_load1 rfl Try.g3 rfl) ?_ | refine x_pure rfl (p_load1r rfl Try.g3 rfl rfl) ?_ | refine x_pure rfl (p_load1r rfl Try.g3 rfl (strs_ref (by simp only [List.length_cons] at *; omega))) ?_ | refine x_pure rfl (p_load1r rfl Try.g3 rfl (strs_ref (by omega))) ?_
   refine x_pure rfl (p_move rfl) ?_
   refine x_pure rfl (p_bin rfl rfl rfl) ?_
   first | refine aops_end ?_ | refine aops_nil ?_
   refine hK7 _ ?_
   refine aw_cond_s rfl (fun hc2 => ?_) (fun hc2 => ?_)
   ·
    try simp only [bs] at hc2
    refine aw_seq_k (fun K8 hK8 => ?_)
    refine aw_region ?_
    refine x_pure rfl (p_move rfl) ?_
    refine x_pure rfl (p_assign rfl) ?_
    first | refine aops_end ?_ | refine aops_nil ?_
    refine hK8 _ ?_
    refine aw_ret ?_
    refine ⟨_, rfl, ?_⟩
    refine ret_int ?_
    rw [idxB_found (by omega) h2 (by simp_all [isN])]
   ·
    try simp only [bs] at hc2
    refine aw_skip ?_
    refine hK6 _ ?_
    refine aw_region ?_
    refine x_pure rfl (p_move rfl) ?_
    first | refine x_pure rfl (p_add rfl rfl (by omega) (by omega)) ?_ | refine x_pure rfl (p_bin rfl rfl rfl) ?_
    refine x_pure rfl (p_assign rfl) ?_
    first | refine aops_end ?_ | refine aops_nil ?_
    exact ⟨k+1, ⟨by omega, fun j hj hjk => by
     by_cases e : j = k
     · subst e; simp_all [isN]
     · exact h2 j hj (by omega)⟩, by omega, le_of ⟨rfl, rfl, rfl, trivial⟩⟩
  ·
   try simp only [bs] at hc1
   refine aw_exit ?_
   refine hK2 _ ?_
   refine aw_seq_k (fun K9 hK9 => ?_)
   refine aw_region ?_
   refine x_pure rfl (p_assign rfl) ?_
   first | refine aops_end ?_ | refine aops_nil ?_
   refine hK9 _ ?_
   refine aw_ret ?_
   refine ⟨_, rfl, ?_⟩
   refine ret_int ?_
   rw [idxB_none (fun j hj => h2 j hj (by omega))]
end Go.Proofs.Ytcjchfocohagdaa
