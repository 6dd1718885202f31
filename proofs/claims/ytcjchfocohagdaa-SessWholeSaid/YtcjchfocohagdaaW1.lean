import Derived.Test.YtcjchfocohagdaaF
import Derived.Test.YtcjchfocohagdaaT1
import Derived.Test.YtcjchfocohagdaaS2
set_option linter.unusedVariables false
set_option linter.unusedSimpArgs false
namespace Go.Proofs.Ytcjchfocohagdaa
open Go Go.Abs

set_option maxRecDepth 20000 in
set_option maxHeartbeats 400000 in
theorem indexFunc_den {g : Nat} {cap : List AV} (hent : ∀ args w, (callFunc g args).run Try.prog w = .ok (.enter g args) w) (hcl : cleanL (fun _ => false) cap = true) (p : Sp → Bool) (l : List Sp) (hl : l.length ≤ 9223372036854775807) (hp : ∀ x ∈ l, Den Try.prog g (.agg (spC x) :: cap) (· = .s (.bool (p x))))  : Den Try.prog 74 [.sl 2 (l.map spC), .fn g cap]  (· = .s (.int .i64 (idxB p l))) := by
 refine den_of_aw Try.func74 rfl (Nat.le_of_ble_eq_true rfl) (fun w0 A hf => ?_)
 refine aw_seq_k (fun K1 hK1 => ?_)
 refine aw_region ?_
 refine x_pure rfl (p_assign_bad) ?_
 first | refine aops_end ?_ | refine aops_nil ?_
 refine hK1 _ ?_
 refine aw_seq_k (fun K2 hK2 => ?_)
 refine aw_seq_k (fun K3 hK3 => ?_)
 refine aw_region ?_
 refine x_pure rfl (p_move rfl) ?_
 first | refine x_pure rfl (p_len_sl rfl Try.e76) ?_ | refine x_pure rfl (p_len_own rfl Try.e76) ?_ | refine x_pure rfl (p_len_nil rfl Try.e76) ?_
 refine x_pure rfl (p_move rfl) ?_
 first | refine aops_end ?_ | refine aops_nil ?_
 refine hK3 _ ?_
 refine aw_block ?_
 refine aw_loop (ι := Nat) (fun k => ⟨19, [(0, .sl 2 (l.map spC)), (1, .fn g cap), (7, .s (.int .i64 ((l.map spC).length : Nat))), (8, .s (.int .i64 (k : Nat)))], []⟩) (fun k => k ≤ l.length ∧ ∀ (j : Nat) (hj : j < l.length), j < k → p l[j] = false) (fun k => l.length - k) 0 ?_ ?_ ?_
 · exact ⟨by omega, by omega⟩
 · exact le_of ⟨rfl, rfl, rfl, rfl, trivial⟩
 ·
  rintro k hC
  obtain ⟨h1, h2⟩ := hC
  refine aw_seq_k (fun K4 hK4 => ?_)
  refine aw_region ?_
  refine x_pure rfl (p_bin rfl rfl rfl) ?_
  first | refine aops_end ?_ | refine aops_nil ?_
  refine hK4 _ ?_
  refine aw_seq_k (fun K5 hK5 => ?_)
  refine aw_cond_s rfl (fun hc1 => ?_) (fun hc1 => ?_)
  ·
   try simp only [bs] at hc1
   refine aw_skip ?_
   refine hK5 _ ?_
   refine aw_seq_k (fun K6 hK6 => ?_)
   refine aw_block ?_
   refine aw_seq_k (fun K7 hK7 => ?_)
   refine aw_region ?_
   refine x_pure rfl (p_move rfl) ?_
   refine x_pure rfl (p_assign rfl) ?_
   first | refine aops_end ?_ | refine aops_nil ?_
   refine hK7 _ ?_
   refine aw_seq_k (fun K8 hK8 => ?_)
   refine aw_region ?_
   refine x_pure rfl (p_move rfl) ?_
   refine x_pure rfl (p_move rfl) ?_
   refine x_pure rfl (p_move rfl) ?_
   first | refine x_pure rfl (p_idx_sl rfl rfl Try.e76 Try.c42 (by first | assumption | (refine ⟨by omega, ?_⟩; first | assumption | exact strs_at (by omega) | exact strs_at (by simp only [List.length_cons] at *; omega) | exact ints_at (by omega) | exact map_at (by omega) | exact list_at (by omega)) | exact ⟨by decide, rfl⟩)) ?_ | refine x_pure rfl (p_idx_own rfl rfl Try.e76 Try.c42 (by omega)) ?_
   first | refine x_pure rfl (p_loads rfl Try.g42 Try.c42 rfl rfl) ?_ | refine x_pure rfl (p_loadsr rfl Try.g42 Try.c42 rfl rfl rfl) ?_
   refine x_step hf rfl (r_call rfl rfl hent (by rw [cleanL_cons, hcl]; rfl) (hp _ (List.getElem_mem _))) ?_
   first | refine aops_end ?_ | refine aops_nil ?_
   refine hK8 _ ?_
   refine aw_cond_s rfl (fun hc2 => ?_) (fun hc2 => ?_)
   ·
    try simp only [bs] at hc2
    refine aw_seq_k (fun K9 hK9 => ?_)
    refine aw_region ?_
    refine x_pure rfl (p_move rfl) ?_
    refine x_pure rfl (p_assign rfl) ?_
    first | refine aops_end ?_ | refine aops_nil ?_
    refine hK9 _ ?_
    refine aw_ret ?_
    refine ⟨_, rfl, ?_⟩
    refine ret_int ?_
    rw [idxB_found (by omega) h2 (by assumption)]
   ·
    try simp only [bs] at hc2
    refine aw_skip ?_
    refine hK6 _ ?_
    refine aw_region ?_
    first | refine x_pure rfl (p_add rfl rfl (by omega) (by omega)) ?_ | refine x_pure rfl (p_bin rfl rfl rfl) ?_
    refine x_pure rfl (p_move rfl) ?_
    first | refine aops_end ?_ | refine aops_nil ?_
    exact ⟨k+1, ⟨by omega, fun j hj hjk => by
      by_cases e : j = k
      · subst e; simp_all
      · exact h2 j hj (by omega)⟩, by omega, le_of ⟨rfl, rfl, rfl, rfl, trivial⟩⟩
  ·
   try simp only [bs] at hc1
   refine aw_exit ?_
   refine hK2 _ ?_
   refine aw_seq_k (fun K10 hK10 => ?_)
   refine aw_region ?_
   refine x_pure rfl (p_assign rfl) ?_
   first | refine aops_end ?_ | refine aops_nil ?_
   refine hK10 _ ?_
   refine aw_ret ?_
   refine ⟨_, rfl, ?_⟩
   refine ret_int ?_
   rw [idxB_none (fun j hj => h2 j hj (by omega))]

set_option maxRecDepth 20000 in
set_option maxHeartbeats 1000000 in
theorem deleteFunc_den {g : Nat} {cap : List AV} (hent : ∀ args w, (callFunc g args).run Try.prog w = .ok (.enter g args) w) (hcl : cleanL (fun _ => false) cap = true) (hcv : ∀ m, convL m cap = cap) (p : Sp → Bool) (l : List Sp) (n : Nat) (hn : n = l.length) (hl : l.length ≤ 9223372036854775807) (hp : ∀ x ∈ l, Den Try.prog g (.agg (spC x) :: cap) (· = .s (.bool (p x))))  : DenM Try.prog 59 [.own E0 2 0 n, .fn g cap] 2 ((l.map spC)) (fun r ys => r = .own E0 2 0 (l.filter fun x => !p x).length ∧ ys = ((l.filter fun x => !p x).map spC)) := by
 subst hn
 have hq0 : ∀ j, ((l.take j).filter fun x => !p x).length ≤ j := fun j => filter_take_le _ l j
 have hq1 : ∀ j, ((l.take j).filter fun x => !p x).length ≤ l.length := fun j => filter_take_len _ l j
 refine denm_of_aw Try.func59 rfl (Nat.le_of_ble_eq_true rfl) (fun w0 x0 A hf => ?_)
 refine aw_seq_k (fun K1 hK1 => ?_)
 refine aw_region ?_
 refine x_pure rfl (p_assign_bad) ?_
 first | refine aops_end ?_ | refine aops_nil ?_
 refine hK1 _ ?_
 refine aw_seq_k (fun K2 hK2 => ?_)
 refine aw_region ?_
 refine x_pure rfl (p_move rfl) ?_
 refine x_pure rfl (p_move rfl) ?_
 refine x_step hf rfl (r_callB rfl rfl (by show [AV.conv _ _, AV.fn g (convL _ cap)] = _; rw [hcv, conv_whole (g := E0) rfl (by simp)]) Try.ent74 (indexFunc_den hent hcl p l hl hp) rfl) ?_
 refine x_pure rfl (p_assign rfl) ?_
 first | refine aops_end ?_ | refine aops_nil ?_
 refine hK2 _ ?_
 refine aw_seq_k (fun K3 hK3 => ?_)
 refine aw_seq_k (fun K4 hK4 => ?_)
 refine aw_region ?_
 refine x_pure rfl (p_move rfl) ?_
 refine x_pure rfl (p_bin rfl rfl rfl) ?_
 first | refine aops_end ?_ | refine aops_nil ?_
 refine hK4 _ ?_
 refine aw_cond_s rfl (fun hc1 => ?_) (fun hc1 => ?_)
 ·
  try simp only [bs] at hc1
  refine aw_seq_k (fun K5 hK5 => ?_)
  refine aw_region ?_
  refine x_pure rfl (p_move rfl) ?_
  refine x_pure rfl (p_assign rfl) ?_
  first | refine aops_end ?_ | refine aops_nil ?_
  refine hK5 _ ?_
  refine aw_ret ?_
  have hno : idxB p l = -1 := by simpa using hc1
  rcases idxB_cases p l with ⟨_, hn⟩ | ⟨k, hk, e, _⟩
  · exact ⟨_, .own E0 2 0 l.length, (l.map spC), Le.refl _, rfl, rfl, by rw [none_filter p l hn], by rw [none_filter p l hn]⟩
  · exfalso; omega
 ·
  try simp only [bs] at hc1
  refine aw_skip ?_
  refine hK3 _ ?_
  refine aw_seq_k (fun K6 hK6 => ?_)
  refine aw_seq_k (fun K7 hK7 => ?_)
  refine aw_region ?_
  rcases idxB_cases p l with ⟨e0, _⟩ | ⟨k0, hk0, ek0, hpk0, hbef⟩
  · exact absurd e0 (by simpa using hc1)
  have hst := delRow_start (fun x => !p x) l k0 hk0 (fun j hj hjk => by simp [hbef j hj hjk]) (by simp [hpk0])
  rw [ek0]
  refine x_pure rfl (p_move rfl) ?_
  first | refine x_pure rfl (p_add rfl rfl (by omega) (by omega)) ?_ | refine x_pure rfl (p_bin rfl rfl rfl) ?_
  refine x_pure rfl (p_assign rfl) ?_
  first | refine aops_end ?_ | refine aops_nil ?_
  refine hK7 _ ?_
  refine aw_block ?_
  refine aw_loop (ι := Nat) (fun j => ⟨42, [(0, .own E0 2 0 l.length), (1, .fn g cap), (5, .s (.int .i64 (((l.take j).filter fun x => !p x).length : Nat))), (6, .s (.int .i64 (j : Nat)))], [(E0, .buf 2 ((delRow (fun x => !p x) l j).map spC))]⟩) (fun j => j ≤ l.length) (fun j => l.length - j) (k0 + 1) ?_ ?_ ?_
  · exact hk0
  · rw [hst.1, hst.2]; exact le_of ⟨rfl, rfl, rfl, rfl, trivial⟩
  ·
   rintro j hC
   let q := fun x => !p x
   have hle : ((l.take j).filter q).length ≤ j := hq0 j
   have hle2 : ((l.take j).filter fun x => !p x).length ≤ j := hq0 j
   refine aw_seq_k (fun K8 hK8 => ?_)
   refine aw_seq_k (fun K9 hK9 => ?_)
   refine aw_region ?_
   refine x_pure rfl (p_move rfl) ?_
   refine x_pure rfl (p_move rfl) ?_
   first | refine x_pure rfl (p_len_sl rfl Try.e76) ?_ | refine x_pure rfl (p_len_own rfl Try.e76) ?_ | refine x_pure rfl (p_len_nil rfl Try.e76) ?_
   refine x_pure rfl (p_bin rfl rfl rfl) ?_
   first | refine aops_end ?_ | refine aops_nil ?_
   refine hK9 _ ?_
   refine aw_cond_s rfl (fun hc2 => ?_) (fun hc2 => ?_)
   ·
    try simp only [bs] at hc2
    refine aw_skip ?_
    refine hK8 _ ?_
    refine aw_seq_k (fun K10 hK10 => ?_)
    refine aw_block ?_
    refine aw_seq_k (fun K11 hK11 => ?_)
    refine aw_region ?_
    refine x_pure rfl (p_move rfl) ?_
    refine x_pure rfl (p_move rfl) ?_
    first | refine x_pure rfl (p_idx_sl rfl rfl Try.e76 Try.c42 (by first | assumption | (refine ⟨by omega, ?_⟩; first | assumption | exact strs_at (by omega) | exact strs_at (by simp only [List.length_cons] at *; omega) | exact ints_at (by omega) | exact map_at (by omega) | exact list_at (by omega)) | exact ⟨by decide, rfl⟩)) ?_ | refine x_pure rfl (p_idx_own rfl rfl Try.e76 Try.c42 (by omega)) ?_
    refine x_pure rfl (p_loadsr rfl Try.g42 Try.c42 rfl (own_ble (c := 2) (k := j) (enc := spC) (by omega) (by rw [delRow_len]; omega) rfl) (cs' := spC l[j]) (by rw [own_take (c := 2) (k := j) (enc := spC) (by omega) (by rw [delRow_len]; omega) rfl, delRow_at q l j j (by omega) hle])) ?_
    refine x_allocst hf rfl Try.z42 rfl Try.c42 rfl rfl rfl rfl (by simp [spC, AV.cells, AV.leaf, Value.oneCell', splice, AV.kill, AV.clean, cleanL, AV.only]) ?_
    first | refine aops_end ?_ | refine aops_nil ?_
    refine hK11 _ ?_
    refine aw_seq_k (fun K12 hK12 => ?_)
    refine aw_region ?_
    refine x_pure rfl (p_move rfl) ?_
    first | refine x_pure rfl (p_loads rfl Try.g42 Try.c42 rfl rfl) ?_ | refine x_pure rfl (p_loadsr rfl Try.g42 Try.c42 rfl rfl rfl) ?_
    refine x_step hf rfl (r_call rfl rfl hent (by rw [cleanL_cons, hcl]; rfl) (hp _ (List.getElem_mem _))) ?_
    refine x_pure rfl (p_not rfl) ?_
    first | refine aops_end ?_ | refine aops_nil ?_
    refine hK12 _ ?_
    refine aw_cond_s rfl (fun hc3 => ?_) (fun hc3 => ?_)
    ·
     try simp only [bs] at hc3
     refine aw_seq_k (fun K13 hK13 => ?_)
     refine aw_region ?_
     refine x_pure rfl (p_move rfl) ?_
     refine x_pure rfl (p_move rfl) ?_
     first | refine x_pure rfl (p_loads rfl Try.g42 Try.c42 rfl rfl) ?_ | refine x_pure rfl (p_loadsr rfl Try.g42 Try.c42 rfl rfl rfl) ?_
     first | refine x_pure rfl (p_idx_sl rfl rfl Try.e76 Try.c42 (by first | assumption | (refine ⟨by omega, ?_⟩; first | assumption | exact strs_at (by omega) | exact strs_at (by simp only [List.length_cons] at *; omega) | exact ints_at (by omega) | exact map_at (by omega) | exact list_at (by omega)) | exact ⟨by decide, rfl⟩)) ?_ | refine x_pure rfl (p_idx_own rfl rfl Try.e76 Try.c42 (by omega)) ?_
     refine x_store hf rfl rfl Try.c42 rfl rfl (by simp [spC, AV.cells, AV.one, Value.oneCell', splice]) (by simp [spC, AV.cells, AV.leaf, Value.oneCell', splice]) (own_store (c := 2) (k := ((l.take j).filter fun x => !p x).length) (enc := spC) (v := l[j]) (by omega) (by rw [delRow_len]; omega) rfl (Nat.le_refl _)) ?_
     first | refine aops_end ?_ | refine aops_nil ?_
     refine hK13 _ ?_
     refine aw_region ?_
     rw [delRow_next_t (fun x => !p x) l j (by omega) (by simp_all)]
     refine x_pure rfl (p_move rfl) ?_
     first | refine x_pure rfl (p_add rfl rfl (by omega) (by omega)) ?_ | refine x_pure rfl (p_bin rfl rfl rfl) ?_
     rw [filt_next_t (fun x => !p x) l j (by omega) (by simp_all)]
     refine x_pure rfl (p_assign rfl) ?_
     first | refine aops_end ?_ | refine aops_nil ?_
     refine hK10 _ ?_
     refine aw_region ?_
     refine x_pure rfl (p_move rfl) ?_
     first | refine x_pure rfl (p_add rfl rfl (by omega) (by omega)) ?_ | refine x_pure rfl (p_bin rfl rfl rfl) ?_
     refine x_pure rfl (p_assign rfl) ?_
     first | refine aops_end ?_ | refine aops_nil ?_
     exact ⟨j+1, (by omega), by omega, le_of ⟨rfl, rfl, rfl, rfl, trivial⟩⟩
    ·
     try simp only [bs] at hc3
     rw [delRow_next_f (fun x => !p x) l j (by omega) (by simp_all), filt_next_f (fun x => !p x) l j (by omega) (by simp_all)]
     refine aw_skip ?_
     refine hK10 _ ?_
     refine aw_region ?_
     refine x_pure rfl (p_move rfl) ?_
     first | refine x_pure rfl (p_add rfl rfl (by omega) (by omega)) ?_ | refine x_pure rfl (p_bin rfl rfl rfl) ?_
     refine x_pure rfl (p_assign rfl) ?_
     first | refine aops_end ?_ | refine aops_nil ?_
     exact ⟨j+1, (by omega), by omega, le_of ⟨rfl, rfl, rfl, rfl, trivial⟩⟩
   ·
    try simp only [bs] at hc2
    refine aw_exit ?_
    refine hK6 _ ?_
    refine aw_seq_k (fun K14 hK14 => ?_)
    refine aw_region ?_
    refine x_pure rfl (p_move rfl) ?_
    refine x_pure rfl (p_move rfl) ?_
    first | refine x_pure rfl (p_slice_sl rfl Try.e76 Try.c42 rfl rfl (by omega) (by omega) rfl) ?_ | refine x_pure rfl (p_slice_own rfl Try.e76 Try.c42 rfl rfl (by omega) (by omega)) ?_ | refine x_pure rfl (p_slice_sl rfl Try.e76 Try.c42 (bnd_z rfl (by omega)) rfl (by omega) (by omega) rfl) ?_ | refine x_pure rfl (p_slice_own rfl Try.e76 Try.c42 (bnd_z rfl (by omega)) rfl (by omega) (by omega)) ?_
    refine x_clear hf Try.ap76 Try.z42 (by simp [Value.oneCell']) rfl rfl ?_
    first | refine aops_end ?_ | refine aops_nil ?_
    refine hK14 _ ?_
    refine aw_seq_k (fun K15 hK15 => ?_)
    refine aw_region ?_
    refine x_pure rfl (p_move rfl) ?_
    refine x_pure rfl (p_move rfl) ?_
    first | refine x_pure rfl (p_slice_sl rfl Try.e76 Try.c42 rfl rfl (by omega) (by omega) rfl) ?_ | refine x_pure rfl (p_slice_own rfl Try.e76 Try.c42 rfl rfl (by omega) (by omega)) ?_ | refine x_pure rfl (p_slice_sl rfl Try.e76 Try.c42 rfl (bnd_z rfl (by omega)) (by omega) (by omega) rfl) ?_ | refine x_pure rfl (p_slice_own rfl Try.e76 Try.c42 rfl (bnd_z rfl (by omega)) (by omega) (by omega)) ?_
    refine x_pure rfl (p_assign rfl) ?_
    first | refine aops_end ?_ | refine aops_nil ?_
    refine hK15 _ ?_
    refine aw_ret ?_
    have hjl : l.length ≤ j := by omega
    have he := delRow_end (fun x => !p x) l j hjl
    refine ⟨_, _, _, Le.refl _, rfl, rfl, ?_, ?_⟩
    · rw [List.take_of_length_le hjl]; rfl
    · rw [List.take_of_length_le hjl, Nat.zero_add, Int.toNat_natCast, ← List.map_take, he]
end Go.Proofs.Ytcjchfocohagdaa
