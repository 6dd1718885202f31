import Derived.Test.YtcjchfocohagdaaF
import Derived.Test.YtcjchfocohagdaaP
set_option linter.unusedVariables false
set_option linter.unusedSimpArgs false
namespace Go.Proofs.Ytcjchfocohagdaa.Nm
open Go Go.Abs

set_option maxRecDepth 20000 in
set_option maxHeartbeats 400000 in
theorem refCmp_den (a b : ByteArray) (ha : TS a) (hb : TS b)  : Den Try.prog 73 [.s (.string a), .s (.string b)]  (· = .s (.int .i64 (cmpB a b))) := by
 unfold cmpB
 refine den_of_aw Try.func73 rfl (Nat.le_of_ble_eq_true rfl) (fun w0 A hf => ?_)
 refine aw_seq_k (fun K1 hK1 => ?_)
 refine aw_region ?_
 refine x_pure rfl (p_assign_bad) ?_
 first | refine aops_end ?_ | refine aops_nil ?_
 refine hK1 _ ?_
 refine aw_seq_k (fun K2 hK2 => ?_)
 refine aw_seq_k (fun K3 hK3 => ?_)
 refine aw_region ?_
 refine x_pure rfl (p_assign rfl) ?_
 first | refine aops_end ?_ | refine aops_nil ?_
 refine hK3 _ ?_
 refine aw_block ?_
 refine aw_loop (ι := Nat) (fun k => ⟨42, [(0, .s (.string a)), (1, .s (.string b)), (5, .s (.int .i64 (k : Nat)))], []⟩) (fun k => k ≤ a.size ∧ k ≤ b.size ∧ cmpFrom a.data.toList b.data.toList = cmpFrom (a.data.toList.drop k) (b.data.toList.drop k)) (fun k => a.size - k) 0 ?_ ?_ ?_
 · exact ⟨by omega, by omega, rfl⟩
 · exact le_of ⟨rfl, rfl, rfl, trivial⟩
 ·
  rintro k hC
  obtain ⟨h1, h2, hcmp⟩ := hC
  refine aw_seq_k (fun K4 hK4 => ?_)
  refine aw_seq_k (fun K5 hK5 => ?_)
  refine aw_region ?_
  refine x_pure rfl (p_move rfl) ?_
  refine x_pure rfl (p_move rfl) ?_
  refine x_pure rfl (p_len_str rfl Try.underlying9) ?_
  refine x_pure rfl (p_bin rfl rfl rfl) ?_
  refine x_pure rfl (p_move rfl) ?_
  refine y_guard_s rfl rfl rfl (fun hg1 => ?_) (fun hg1 => ?_)
  ·
   try simp only [bs] at hg1
   refine x_pure rfl (p_move rfl) ?_
   refine x_guard_t rfl rfl rfl ?_
   refine x_pure rfl (p_move rfl) ?_
   refine x_guard_t rfl rfl rfl ?_
   refine x_pure rfl (p_len_str rfl Try.underlying9) ?_
   refine x_guard_t rfl rfl rfl ?_
   refine x_pure rfl (p_bin rfl rfl rfl) ?_
   refine x_pure rfl (p_pick_t rfl rfl) ?_
   first | refine aops_end ?_ | refine aops_nil ?_
   refine hK5 _ ?_
   refine aw_cond_s rfl (fun hc2 => ?_) (fun hc2 => ?_)
   ·
    try simp only [bs] at hc2
    refine aw_skip ?_
    refine hK4 _ ?_
    refine aw_seq_k (fun K6 hK6 => ?_)
    refine aw_block ?_
    refine aw_seq_k (fun K7 hK7 => ?_)
    refine aw_seq_k (fun K8 hK8 => ?_)
    refine aw_draw hf Try.mixed (by kernel_rfl) rfl ?_
    refine d_pure [(0, _)] rfl rfl ⟨⟨rfl, rfl⟩, trivial⟩ rfl (p_move rfl) ?_
    refine d_pure [(5, _)] rfl rfl ⟨⟨rfl, rfl⟩, trivial⟩ rfl (p_move rfl) ?_
    refine d_pure [(18, _), (19, _)] rfl rfl ⟨⟨rfl, rfl⟩, ⟨rfl, rfl⟩, trivial⟩ rfl (p_idx_str rfl rfl Try.underlying9 (by first | assumption | (refine ⟨by omega, ?_⟩; first | assumption | exact str_at (by omega)))) ?_
    refine d_pure [(1, _)] rfl rfl ⟨⟨rfl, rfl⟩, trivial⟩ rfl (p_move rfl) ?_
    refine d_pure [(5, _)] rfl rfl ⟨⟨rfl, rfl⟩, trivial⟩ rfl (p_move rfl) ?_
    refine d_pure [(21, _), (22, _)] rfl rfl ⟨⟨rfl, rfl⟩, ⟨rfl, rfl⟩, trivial⟩ rfl (p_idx_str rfl rfl Try.underlying9 (by first | assumption | (refine ⟨by omega, ?_⟩; first | assumption | exact str_at (by omega)))) ?_
    refine d_pure [(20, _), (23, _)] rfl rfl ⟨⟨rfl, rfl⟩, ⟨rfl, rfl⟩, trivial⟩ rfl (p_bin rfl rfl rfl) ?_
    refine lex_end (sl' := [(0, _), (1, _), (5, _), (24, _)]) rfl ⟨rfl, rfl, rfl, rfl, trivial⟩ rfl ?_
    refine hK8 _ ?_
    refine aw_cond_s rfl (fun hc3 => ?_) (fun hc3 => ?_)
    ·
     try simp only [bs] at hc3
     refine aw_seq_k (fun K9 hK9 => ?_)
     refine aw_region ?_
     refine x_pure rfl (p_assign rfl) ?_
     first | refine aops_end ?_ | refine aops_nil ?_
     refine hK9 _ ?_
     refine aw_ret ?_
     refine ⟨_, rfl, ?_⟩
     refine ret_int ?_
     rw [hcmp, cmpFrom_drop a b k (by omega) (by omega), if_pos (by rw [UInt8.lt_iff_toNat_lt]; omega)]
    ·
     try simp only [bs] at hc3
     refine aw_skip ?_
     refine hK7 _ ?_
     refine aw_seq_k (fun K10 hK10 => ?_)
     refine aw_draw hf Try.mixed (by kernel_rfl) rfl ?_
     refine d_pure [(0, _)] rfl rfl ⟨⟨rfl, rfl⟩, trivial⟩ rfl (p_move rfl) ?_
     refine d_pure [(5, _)] rfl rfl ⟨⟨rfl, rfl⟩, trivial⟩ rfl (p_move rfl) ?_
     refine d_pure [(25, _), (26, _)] rfl rfl ⟨⟨rfl, rfl⟩, ⟨rfl, rfl⟩, trivial⟩ rfl (p_idx_str rfl rfl Try.underlying9 (by first | assumption | (refine ⟨by omega, ?_⟩; first | assumption | exact str_at (by omega)))) ?_
     refine d_pure [(1, _)] rfl rfl ⟨⟨rfl, rfl⟩, trivial⟩ rfl (p_move rfl) ?_
     refine d_pure [(5, _)] rfl rfl ⟨⟨rfl, rfl⟩, trivial⟩ rfl (p_move rfl) ?_
     refine d_pure [(28, _), (29, _)] rfl rfl ⟨⟨rfl, rfl⟩, ⟨rfl, rfl⟩, trivial⟩ rfl (p_idx_str rfl rfl Try.underlying9 (by first | assumption | (refine ⟨by omega, ?_⟩; first | assumption | exact str_at (by omega)))) ?_
     refine d_pure [(27, _), (30, _)] rfl rfl ⟨⟨rfl, rfl⟩, ⟨rfl, rfl⟩, trivial⟩ rfl (p_bin rfl rfl rfl) ?_
     refine lex_end (sl' := [(0, _), (1, _), (5, _), (31, _)]) rfl ⟨rfl, rfl, rfl, rfl, trivial⟩ rfl ?_
     refine hK10 _ ?_
     refine aw_cond_s rfl (fun hc4 => ?_) (fun hc4 => ?_)
     ·
      try simp only [bs] at hc4
      refine aw_seq_k (fun K11 hK11 => ?_)
      refine aw_region ?_
      refine x_pure rfl (p_assign rfl) ?_
      first | refine aops_end ?_ | refine aops_nil ?_
      refine hK11 _ ?_
      refine aw_ret ?_
      refine ⟨_, rfl, ?_⟩
      refine ret_int ?_
      rw [hcmp, cmpFrom_drop a b k (by omega) (by omega), if_neg (by rw [UInt8.lt_iff_toNat_lt]; omega), if_pos (by show b[k] < a[k]; rw [UInt8.lt_iff_toNat_lt]; omega)]
     ·
      try simp only [bs] at hc4
      refine aw_skip ?_
      refine hK6 _ ?_
      refine aw_region ?_
      refine x_pure rfl (p_move rfl) ?_
      first | refine x_pure rfl (p_add rfl rfl (by omega) (by omega)) ?_ | refine x_pure rfl (p_bin rfl rfl rfl) ?_
      refine x_pure rfl (p_assign rfl) ?_
      first | refine aops_end ?_ | refine aops_nil ?_
      exact ⟨k+1, ⟨by omega, by omega, by rw [hcmp, cmpFrom_drop a b k (by omega) (by omega), if_neg (by rw [UInt8.lt_iff_toNat_lt]; omega), if_neg (by show ¬ b[k] < a[k]; rw [UInt8.lt_iff_toNat_lt]; omega)]⟩, by omega, le_of ⟨rfl, rfl, rfl, trivial⟩⟩
   ·
    try simp only [bs] at hc2
    refine aw_exit ?_
    refine hK2 _ ?_
    refine aw_seq_k (fun K12 hK12 => ?_)
    refine aw_seq_k (fun K13 hK13 => ?_)
    refine aw_region ?_
    refine x_pure rfl (p_move rfl) ?_
    refine x_pure rfl (p_len_str rfl Try.underlying9) ?_
    refine x_pure rfl (p_move rfl) ?_
    refine x_pure rfl (p_len_str rfl Try.underlying9) ?_
    refine x_pure rfl (p_bin rfl rfl rfl) ?_
    first | refine aops_end ?_ | refine aops_nil ?_
    refine hK13 _ ?_
    refine aw_cond_s rfl (fun hc5 => ?_) (fun hc5 => ?_)
    ·
     try simp only [bs] at hc5
     refine aw_seq_k (fun K14 hK14 => ?_)
     refine aw_region ?_
     refine x_pure rfl (p_assign rfl) ?_
     first | refine aops_end ?_ | refine aops_nil ?_
     refine hK14 _ ?_
     refine aw_ret ?_
     refine ⟨_, rfl, ?_⟩
     refine ret_int ?_
     rw [hcmp, cmpFrom_end a b k h1 h2 (by omega)]
     (repeat' split) <;> first | rfl | omega
    ·
     try simp only [bs] at hc5
     refine aw_skip ?_
     refine hK12 _ ?_
     refine aw_seq_k (fun K15 hK15 => ?_)
     refine aw_seq_k (fun K16 hK16 => ?_)
     refine aw_region ?_
     refine x_pure rfl (p_move rfl) ?_
     refine x_pure rfl (p_len_str rfl Try.underlying9) ?_
     refine x_pure rfl (p_move rfl) ?_
     refine x_pure rfl (p_len_str rfl Try.underlying9) ?_
     refine x_pure rfl (p_bin rfl rfl rfl) ?_
     first | refine aops_end ?_ | refine aops_nil ?_
     refine hK16 _ ?_
     refine aw_cond_s rfl (fun hc6 => ?_) (fun hc6 => ?_)
     ·
      try simp only [bs] at hc6
      refine aw_seq_k (fun K17 hK17 => ?_)
      refine aw_region ?_
      refine x_pure rfl (p_assign rfl) ?_
      first | refine aops_end ?_ | refine aops_nil ?_
      refine hK17 _ ?_
      refine aw_ret ?_
      refine ⟨_, rfl, ?_⟩
      refine ret_int ?_
      rw [hcmp, cmpFrom_end a b k h1 h2 (by omega)]
      (repeat' split) <;> first | rfl | omega
     ·
      try simp only [bs] at hc6
      refine aw_skip ?_
      refine hK15 _ ?_
      refine aw_seq_k (fun K18 hK18 => ?_)
      refine aw_region ?_
      refine x_pure rfl (p_assign rfl) ?_
      first | refine aops_end ?_ | refine aops_nil ?_
      refine hK18 _ ?_
      refine aw_ret ?_
      refine ⟨_, rfl, ?_⟩
      refine ret_int ?_
      rw [hcmp, cmpFrom_end a b k h1 h2 (by omega)]
      (repeat' split) <;> first | rfl | omega
  ·
   try simp only [bs] at hg1
   refine x_guard_f rfl rfl rfl ?_
   refine x_guard_f rfl rfl rfl ?_
   refine x_guard_f rfl rfl rfl ?_
   refine x_pure rfl (p_pick_f rfl rfl) ?_
   first | refine aops_end ?_ | refine aops_nil ?_
   refine hK5 _ ?_
   refine aw_cond_f rfl ?_
   refine aw_exit ?_
   refine hK2 _ ?_
   refine aw_seq_k (fun K19 hK19 => ?_)
   refine aw_seq_k (fun K20 hK20 => ?_)
   refine aw_region ?_
   refine x_pure rfl (p_move rfl) ?_
   refine x_pure rfl (p_len_str rfl Try.underlying9) ?_
   refine x_pure rfl (p_move rfl) ?_
   refine x_pure rfl (p_len_str rfl Try.underlying9) ?_
   refine x_pure rfl (p_bin rfl rfl rfl) ?_
   first | refine aops_end ?_ | refine aops_nil ?_
   refine hK20 _ ?_
   refine aw_cond_s rfl (fun hc8 => ?_) (fun hc8 => ?_)
   ·
    try simp only [bs] at hc8
    refine aw_seq_k (fun K21 hK21 => ?_)
    refine aw_region ?_
    refine x_pure rfl (p_assign rfl) ?_
    first | refine aops_end ?_ | refine aops_nil ?_
    refine hK21 _ ?_
    refine aw_ret ?_
    refine ⟨_, rfl, ?_⟩
    refine ret_int ?_
    rw [hcmp, cmpFrom_end a b k h1 h2 (by omega)]
    (repeat' split) <;> first | rfl | omega
   ·
    try simp only [bs] at hc8
    refine aw_skip ?_
    refine hK19 _ ?_
    refine aw_seq_k (fun K22 hK22 => ?_)
    refine aw_seq_k (fun K23 hK23 => ?_)
    refine aw_region ?_
    refine x_pure rfl (p_move rfl) ?_
    refine x_pure rfl (p_len_str rfl Try.underlying9) ?_
    refine x_pure rfl (p_move rfl) ?_
    refine x_pure rfl (p_len_str rfl Try.underlying9) ?_
    refine x_pure rfl (p_bin rfl rfl rfl) ?_
    first | refine aops_end ?_ | refine aops_nil ?_
    refine hK23 _ ?_
    refine aw_cond_s rfl (fun hc9 => ?_) (fun hc9 => ?_)
    ·
     try simp only [bs] at hc9
     refine aw_seq_k (fun K24 hK24 => ?_)
     refine aw_region ?_
     refine x_pure rfl (p_assign rfl) ?_
     first | refine aops_end ?_ | refine aops_nil ?_
     refine hK24 _ ?_
     refine aw_ret ?_
     refine ⟨_, rfl, ?_⟩
     refine ret_int ?_
     rw [hcmp, cmpFrom_end a b k h1 h2 (by omega)]
     (repeat' split) <;> first | rfl | omega
    ·
     try simp only [bs] at hc9
     refine aw_skip ?_
     refine hK22 _ ?_
     refine aw_seq_k (fun K25 hK25 => ?_)
     refine aw_region ?_
     refine x_pure rfl (p_assign rfl) ?_
     first | refine aops_end ?_ | refine aops_nil ?_
     refine hK25 _ ?_
     refine aw_ret ?_
     refine ⟨_, rfl, ?_⟩
     refine ret_int ?_
     rw [hcmp, cmpFrom_end a b k h1 h2 (by omega)]
     (repeat' split) <;> first | rfl | omega

set_option maxRecDepth 20000 in
set_option maxHeartbeats 400000 in
theorem letter_den (c : UInt8)  : Den Try.prog 65 [.s (.int .u8 (c.toNat : Int))]  (· = .s (.bool (letterB c))) := by
 refine den_of_aw Try.func65 rfl (Nat.le_of_ble_eq_true rfl) (fun w0 A hf => ?_)
 refine aw_seq_k (fun K1 hK1 => ?_)
 refine aw_region ?_
 refine x_pure rfl (p_assign_bad) ?_
 first | refine aops_end ?_ | refine aops_nil ?_
 refine hK1 _ ?_
 refine aw_seq_k (fun K2 hK2 => ?_)
 refine aw_region ?_
 refine x_pure rfl (p_move rfl) ?_
 refine x_pure rfl (p_bin rfl rfl rfl) ?_
 refine x_pure rfl (p_move rfl) ?_
 refine y_guard_s rfl rfl rfl (fun hg1 => ?_) (fun hg1 => ?_)
 ·
  try simp only [bs] at hg1
  refine x_pure rfl (p_move rfl) ?_
  refine x_guard_t rfl rfl rfl ?_
  refine x_pure rfl (p_bin rfl rfl rfl) ?_
  refine x_pure rfl (p_pick_t rfl rfl) ?_
  refine x_pure rfl (p_move rfl) ?_
  refine y_guard_s rfl rfl rfl (fun hg2 => ?_) (fun hg2 => ?_)
  ·
   try simp only [bs] at hg2
   refine x_pure rfl (p_move rfl) ?_
   refine x_guard_t rfl rfl rfl ?_
   refine x_pure rfl (p_bin rfl rfl rfl) ?_
   refine x_guard_t rfl rfl rfl ?_
   refine x_pure rfl (p_move rfl) ?_
   refine y_guard_s rfl rfl rfl (fun hg3 => ?_) (fun hg3 => ?_)
   ·
    try simp only [bs] at hg3
    refine x_pure rfl (p_move rfl) ?_
    refine x_guard_t rfl rfl rfl ?_
    refine x_pure rfl (p_bin rfl rfl rfl) ?_
    refine x_guard_t rfl rfl rfl ?_
    refine x_pure rfl (p_pick_t rfl rfl) ?_
    refine x_pure rfl (p_pick_f rfl rfl) ?_
    refine x_pure rfl (p_assign rfl) ?_
    first | refine aops_end ?_ | refine aops_nil ?_
    refine hK2 _ ?_
    refine aw_ret ?_
    refine ⟨_, rfl, ?_⟩
    refine ret_bool ?_
    rw [Bool.eq_iff_iff]
    simp only [letterB, Bool.or_eq_true, Bool.and_eq_true, decide_eq_true_eq, true_iff, Bool.false_eq_true, false_iff]
    omega
   ·
    try simp only [bs] at hg3
    refine x_guard_f rfl rfl rfl ?_
    refine x_guard_t rfl rfl rfl ?_
    refine x_pure rfl (p_pick_f rfl rfl) ?_
    refine x_pure rfl (p_pick_f rfl rfl) ?_
    refine x_pure rfl (p_assign rfl) ?_
    first | refine aops_end ?_ | refine aops_nil ?_
    refine hK2 _ ?_
    refine aw_ret ?_
    refine ⟨_, rfl, ?_⟩
    refine ret_bool ?_
    rw [Bool.eq_iff_iff]
    simp only [letterB, Bool.or_eq_true, Bool.and_eq_true, decide_eq_true_eq, true_iff, Bool.false_eq_true, false_iff]
    omega
  ·
   try simp only [bs] at hg2
   refine x_guard_f rfl rfl rfl ?_
   refine x_guard_f rfl rfl rfl ?_
   refine x_guard_u rfl rfl rfl ?_
   refine x_guard_u rfl rfl rfl ?_
   refine x_guard_f rfl rfl rfl ?_
   refine x_pure rfl (p_pick_t rfl rfl) ?_
   refine x_pure rfl (p_assign rfl) ?_
   first | refine aops_end ?_ | refine aops_nil ?_
   refine hK2 _ ?_
   refine aw_ret ?_
   refine ⟨_, rfl, ?_⟩
   refine ret_bool ?_
   rw [Bool.eq_iff_iff]
   simp only [letterB, Bool.or_eq_true, Bool.and_eq_true, decide_eq_true_eq, true_iff, Bool.false_eq_true, false_iff]
   omega
 ·
  try simp only [bs] at hg1
  refine x_guard_f rfl rfl rfl ?_
  refine x_pure rfl (p_pick_f rfl rfl) ?_
  refine x_pure rfl (p_move rfl) ?_
  refine x_guard_t rfl rfl rfl ?_
  refine x_pure rfl (p_move rfl) ?_
  refine x_guard_t rfl rfl rfl ?_
  refine x_pure rfl (p_bin rfl rfl rfl) ?_
  refine x_guard_t rfl rfl rfl ?_
  refine x_pure rfl (p_move rfl) ?_
  refine y_guard_s rfl rfl rfl (fun hg4 => ?_) (fun hg4 => ?_)
  ·
   try simp only [bs] at hg4
   refine x_pure rfl (p_move rfl) ?_
   refine x_guard_t rfl rfl rfl ?_
   refine x_pure rfl (p_bin rfl rfl rfl) ?_
   refine x_guard_t rfl rfl rfl ?_
   refine x_pure rfl (p_pick_t rfl rfl) ?_
   refine x_pure rfl (p_pick_f rfl rfl) ?_
   refine x_pure rfl (p_assign rfl) ?_
   first | refine aops_end ?_ | refine aops_nil ?_
   refine hK2 _ ?_
   refine aw_ret ?_
   refine ⟨_, rfl, ?_⟩
   refine ret_bool ?_
   rw [Bool.eq_iff_iff]
   simp only [letterB, Bool.or_eq_true, Bool.and_eq_true, decide_eq_true_eq, true_iff, Bool.false_eq_true, false_iff]
   omega
  ·
   try simp only [bs] at hg4
   refine x_guard_f rfl rfl rfl ?_
   refine x_guard_t rfl rfl rfl ?_
   refine x_pure rfl (p_pick_f rfl rfl) ?_
   refine x_pure rfl (p_pick_f rfl rfl) ?_
   refine x_pure rfl (p_assign rfl) ?_
   first | refine aops_end ?_ | refine aops_nil ?_
   refine hK2 _ ?_
   refine aw_ret ?_
   refine ⟨_, rfl, ?_⟩
   refine ret_bool ?_
   rw [Bool.eq_iff_iff]
   simp only [letterB, Bool.or_eq_true, Bool.and_eq_true, decide_eq_true_eq, true_iff, Bool.false_eq_true, false_iff]
   omega

set_option maxRecDepth 20000 in
set_option maxHeartbeats 400000 in
theorem right_den (s : ByteArray) (hs : TS s)  : Den Try.prog 45 [.s (.string s)]  (· = .s (.bool (rightB s))) := by
 refine den_of_aw Try.func45 rfl (Nat.le_of_ble_eq_true rfl) (fun w0 A hf => ?_)
 refine aw_seq_k (fun K1 hK1 => ?_)
 refine aw_region ?_
 refine x_pure rfl (p_assign_bad) ?_
 first | refine aops_end ?_ | refine aops_nil ?_
 refine hK1 _ ?_
 refine aw_seq_k (fun K2 hK2 => ?_)
 refine aw_seq_k (fun K3 hK3 => ?_)
 refine aw_region ?_
 refine x_pure rfl (p_move rfl) ?_
 refine x_pure rfl (p_len_str rfl Try.underlying9) ?_
 refine x_pure rfl (p_move rfl) ?_
 first | refine aops_end ?_ | refine aops_nil ?_
 refine hK3 _ ?_
 refine aw_block ?_
 refine aw_loop (ι := Nat) (fun k => ⟨23, [(0, .s (.string s)), (5, .s (.int .i64 (s.size : Nat))), (6, .s (.int .i64 (k : Nat)))], []⟩) (fun k => k ≤ s.size ∧ s.data.toList.all letterB = (s.data.toList.drop k).all letterB) (fun k => s.size - k) 0 ?_ ?_ ?_
 · exact ⟨by omega, rfl⟩
 · exact le_of ⟨rfl, rfl, rfl, trivial⟩
 ·
  rintro k hC
  obtain ⟨h1, h2⟩ := hC
  refine aw_seq_k (fun K4 hK4 => ?_)
  refine aw_region ?_
  refine x_pure rfl (p_bin rfl rfl rfl) ?_
  first | refine aops_end ?_ | refine aops_nil ?_
  refine hK4 _ ?_
  refine aw_seq_k (fun K5 hK5 => ?_)
  refine aw_cond_s rfl (fun hc1 => ?_) (fun hc1 => ?_)
  ·
   try simp only [bs] at hc1
   refine aw_skip ?_
   refine hK5 _ ?_
   refine aw_seq_k (fun K6 hK6 => ?_)
   refine aw_block ?_
   refine aw_seq_k (fun K7 hK7 => ?_)
   refine aw_region ?_
   refine x_pure rfl (p_move rfl) ?_
   refine x_pure rfl (p_assign rfl) ?_
   first | refine aops_end ?_ | refine aops_nil ?_
   refine hK7 _ ?_
   refine aw_seq_k (fun K8 hK8 => ?_)
   refine aw_region ?_
   refine x_pure rfl (p_move rfl) ?_
   refine x_pure rfl (p_move rfl) ?_
   refine x_pure rfl (p_idx_str rfl rfl Try.underlying9 (by first | assumption | (refine ⟨by omega, ?_⟩; first | assumption | exact str_at (by omega)))) ?_
   refine x_step hf rfl (r_call rfl rfl Try.ent65 rfl (letter_den _)) ?_
   refine x_pure rfl (p_not rfl) ?_
   first | refine aops_end ?_ | refine aops_nil ?_
   refine hK8 _ ?_
   refine aw_cond_s rfl (fun hc2 => ?_) (fun hc2 => ?_)
   ·
    try simp only [bs] at hc2
    refine aw_seq_k (fun K9 hK9 => ?_)
    refine aw_region ?_
    refine x_pure rfl (p_assign rfl) ?_
    first | refine aops_end ?_ | refine aops_nil ?_
    refine hK9 _ ?_
    refine aw_ret ?_
    refine ⟨_, rfl, ?_⟩
    refine ret_bool ?_
    rw [rightB, h2, all_drop letterB s k (by omega)]; simp_all
   ·
    try simp only [bs] at hc2
    refine aw_skip ?_
    refine hK6 _ ?_
    refine aw_region ?_
    first | refine x_pure rfl (p_add rfl rfl (by omega) (by omega)) ?_ | refine x_pure rfl (p_bin rfl rfl rfl) ?_
    refine x_pure rfl (p_move rfl) ?_
    first | refine aops_end ?_ | refine aops_nil ?_
    exact ⟨k+1, ⟨by omega, by rw [h2, all_drop letterB s k (by omega)]; simp_all⟩, by omega, le_of ⟨rfl, rfl, rfl, trivial⟩⟩
  ·
   try simp only [bs] at hc1
   refine aw_exit ?_
   refine hK2 _ ?_
   refine aw_seq_k (fun K10 hK10 => ?_)
   refine aw_region ?_
   refine x_pure rfl (p_move rfl) ?_
   refine x_pure rfl (p_len_str rfl Try.underlying9) ?_
   refine x_pure rfl (p_bin rfl rfl rfl) ?_
   refine x_pure rfl (p_move rfl) ?_
   refine y_guard_s rfl rfl rfl (fun hg3 => ?_) (fun hg3 => ?_)
   ·
    try simp only [bs] at hg3
    refine x_pure rfl (p_move rfl) ?_
    refine x_guard_t rfl rfl rfl ?_
    refine x_pure rfl (p_len_str rfl Try.underlying9) ?_
    refine x_guard_t rfl rfl rfl ?_
    refine x_pure rfl (p_bin rfl rfl rfl) ?_
    refine x_pure rfl (p_pick_t rfl rfl) ?_
    refine x_pure rfl (p_assign rfl) ?_
    first | refine aops_end ?_ | refine aops_nil ?_
    refine hK10 _ ?_
    refine aw_ret ?_
    refine ⟨_, rfl, ?_⟩
    refine ret_bool ?_
    rw [rightB, h2, all_end letterB s k (by omega)]
    rw [Bool.eq_iff_iff]
    simp only [Bool.and_eq_true, decide_eq_true_eq, true_iff, Bool.false_eq_true, false_iff, and_true]
    omega
   ·
    try simp only [bs] at hg3
    refine x_guard_f rfl rfl rfl ?_
    refine x_guard_f rfl rfl rfl ?_
    refine x_pure rfl (p_pick_f rfl rfl) ?_
    refine x_pure rfl (p_assign rfl) ?_
    first | refine aops_end ?_ | refine aops_nil ?_
    refine hK10 _ ?_
    refine aw_ret ?_
    refine ⟨_, rfl, ?_⟩
    refine ret_bool ?_
    rw [rightB, h2, all_end letterB s k (by omega)]
    rw [Bool.eq_iff_iff]
    simp only [Bool.and_eq_true, decide_eq_true_eq, true_iff, Bool.false_eq_true, false_iff, and_true]
    omega

set_option maxRecDepth 20000 in
set_option maxHeartbeats 400000 in
theorem refRight_den (s : ByteArray) (hs : TS s)  : Den Try.prog 44 [.s (.string s)]  (· = .s (.bool (rightB s))) := by
 refine den_of_aw Try.func44 rfl (Nat.le_of_ble_eq_true rfl) (fun w0 A hf => ?_)
 refine aw_seq_k (fun K1 hK1 => ?_)
 refine aw_region ?_
 refine x_pure rfl (p_assign_bad) ?_
 first | refine aops_end ?_ | refine aops_nil ?_
 refine hK1 _ ?_
 refine aw_seq_k (fun K2 hK2 => ?_)
 refine aw_seq_k (fun K3 hK3 => ?_)
 refine aw_region ?_
 refine x_pure rfl (p_move rfl) ?_
 refine x_pure rfl (p_len_str rfl Try.underlying9) ?_
 refine x_pure rfl (p_bin rfl rfl rfl) ?_
 refine x_pure rfl (p_move rfl) ?_
 refine y_guard_s rfl rfl rfl (fun hg1 => ?_) (fun hg1 => ?_)
 ·
  try simp only [bs] at hg1
  refine x_pure rfl (p_move rfl) ?_
  refine x_guard_t rfl rfl rfl ?_
  refine x_pure rfl (p_len_str rfl Try.underlying9) ?_
  refine x_guard_t rfl rfl rfl ?_
  refine x_pure rfl (p_bin rfl rfl rfl) ?_
  refine x_pure rfl (p_pick_f rfl rfl) ?_
  first | refine aops_end ?_ | refine aops_nil ?_
  refine hK3 _ ?_
  refine aw_cond_s rfl (fun hc2 => ?_) (fun hc2 => ?_)
  ·
   try simp only [bs] at hc2
   refine aw_seq_k (fun K4 hK4 => ?_)
   refine aw_region ?_
   refine x_pure rfl (p_assign rfl) ?_
   first | refine aops_end ?_ | refine aops_nil ?_
   refine hK4 _ ?_
   refine aw_ret ?_
   refine ⟨_, rfl, ?_⟩
   refine ret_bool ?_
   rw [eq_comm, rightB, Bool.eq_false_iff]
   simp only [ne_eq, Bool.and_eq_true, decide_eq_true_eq]
   omega
  ·
   try simp only [bs] at hc2
   refine aw_skip ?_
   refine hK2 _ ?_
   refine aw_seq_k (fun K5 hK5 => ?_)
   refine aw_seq_k (fun K6 hK6 => ?_)
   refine aw_region ?_
   refine x_pure rfl (p_assign rfl) ?_
   first | refine aops_end ?_ | refine aops_nil ?_
   refine hK6 _ ?_
   refine aw_block ?_
   refine aw_loop (ι := Nat) (fun k => ⟨38, [(0, .s (.string s)), (3, .s (.int .i64 (k : Nat)))], []⟩) (fun k => k ≤ s.size ∧ s.data.toList.all letterB = (s.data.toList.drop k).all letterB) (fun k => s.size - k) 0 ?_ ?_ ?_
   · exact ⟨by omega, rfl⟩
   · exact le_of ⟨rfl, rfl, trivial⟩
   ·
    rintro k hC
    obtain ⟨h1, h2⟩ := hC
    refine aw_seq_k (fun K7 hK7 => ?_)
    refine aw_seq_k (fun K8 hK8 => ?_)
    refine aw_region ?_
    refine x_pure rfl (p_move rfl) ?_
    refine x_pure rfl (p_move rfl) ?_
    refine x_pure rfl (p_len_str rfl Try.underlying9) ?_
    refine x_pure rfl (p_bin rfl rfl rfl) ?_
    first | refine aops_end ?_ | refine aops_nil ?_
    refine hK8 _ ?_
    refine aw_cond_s rfl (fun hc3 => ?_) (fun hc3 => ?_)
    ·
     try simp only [bs] at hc3
     refine aw_skip ?_
     refine hK7 _ ?_
     refine aw_seq_k (fun K9 hK9 => ?_)
     refine aw_block ?_
     refine aw_seq_k (fun K10 hK10 => ?_)
     refine aw_region ?_
     refine x_pure rfl (p_move rfl) ?_
     refine x_pure rfl (p_move rfl) ?_
     refine x_pure rfl (p_idx_str rfl rfl Try.underlying9 (by first | assumption | (refine ⟨by omega, ?_⟩; first | assumption | exact str_at (by omega)))) ?_
     refine x_pure rfl (p_assign rfl) ?_
     first | refine aops_end ?_ | refine aops_nil ?_
     refine hK10 _ ?_
     refine aw_seq_k (fun K11 hK11 => ?_)
     refine aw_region ?_
     refine x_pure rfl (p_move rfl) ?_
     refine x_pure rfl (p_bin rfl rfl rfl) ?_
     refine x_pure rfl (p_move rfl) ?_
     refine y_guard_s rfl rfl rfl (fun hg4 => ?_) (fun hg4 => ?_)
     ·
      try simp only [bs] at hg4
      refine x_pure rfl (p_move rfl) ?_
      refine x_guard_t rfl rfl rfl ?_
      refine x_pure rfl (p_bin rfl rfl rfl) ?_
      refine x_pure rfl (p_pick_t rfl rfl) ?_
      refine x_pure rfl (p_not rfl) ?_
      refine x_pure rfl (p_move rfl) ?_
      refine y_guard_s rfl rfl rfl (fun hg5 => ?_) (fun hg5 => ?_)
      ·
       try simp only [bs] at hg5
       refine x_pure rfl (p_move rfl) ?_
       refine x_guard_t rfl rfl rfl ?_
       refine x_pure rfl (p_bin rfl rfl rfl) ?_
       refine x_guard_t rfl rfl rfl ?_
       refine x_pure rfl (p_move rfl) ?_
       refine y_guard_s rfl rfl rfl (fun hg6 => ?_) (fun hg6 => ?_)
       ·
        try simp only [bs] at hg6
        refine x_pure rfl (p_move rfl) ?_
        refine x_guard_t rfl rfl rfl ?_
        refine x_pure rfl (p_bin rfl rfl rfl) ?_
        refine x_guard_t rfl rfl rfl ?_
        refine x_pure rfl (p_pick_t rfl rfl) ?_
        refine x_guard_t rfl rfl rfl ?_
        refine x_pure rfl (p_not rfl) ?_
        refine x_pure rfl (p_pick_t rfl rfl) ?_
        first | refine aops_end ?_ | refine aops_nil ?_
        refine hK11 _ ?_
        refine aw_cond_s rfl (fun hc7 => ?_) (fun hc7 => ?_)
        ·
         try simp only [bs] at hc7
         refine aw_seq_k (fun K12 hK12 => ?_)
         refine aw_region ?_
         refine x_pure rfl (p_assign rfl) ?_
         first | refine aops_end ?_ | refine aops_nil ?_
         refine hK12 _ ?_
         refine aw_ret ?_
         refine ⟨_, rfl, ?_⟩
         refine ret_bool ?_
         rw [rightB, h2, all_drop letterB s k (by omega), show letterB s[k] = false from Bool.eq_false_iff.2 (fun h => by have := (letterB_iff _).1 h; omega)]; simp
        ·
         try simp only [bs] at hc7
         refine aw_skip ?_
         refine hK9 _ ?_
         refine aw_region ?_
         refine x_pure rfl (p_move rfl) ?_
         first | refine x_pure rfl (p_add rfl rfl (by omega) (by omega)) ?_ | refine x_pure rfl (p_bin rfl rfl rfl) ?_
         refine x_pure rfl (p_assign rfl) ?_
         first | refine aops_end ?_ | refine aops_nil ?_
         exact ⟨k+1, ⟨by omega, by rw [h2, all_drop letterB s k (by omega), (letterB_iff _).2 (by omega)]; rfl⟩, by omega, le_of ⟨rfl, rfl, trivial⟩⟩
       ·
        try simp only [bs] at hg6
        refine x_guard_f rfl rfl rfl ?_
        refine x_guard_t rfl rfl rfl ?_
        refine x_pure rfl (p_pick_f rfl rfl) ?_
        refine x_guard_t rfl rfl rfl ?_
        refine x_pure rfl (p_not rfl) ?_
        refine x_pure rfl (p_pick_t rfl rfl) ?_
        first | refine aops_end ?_ | refine aops_nil ?_
        refine hK11 _ ?_
        refine aw_cond_t rfl ?_
        refine aw_seq_k (fun K13 hK13 => ?_)
        refine aw_region ?_
        refine x_pure rfl (p_assign rfl) ?_
        first | refine aops_end ?_ | refine aops_nil ?_
        refine hK13 _ ?_
        refine aw_ret ?_
        refine ⟨_, rfl, ?_⟩
        refine ret_bool ?_
        rw [rightB, h2, all_drop letterB s k (by omega), show letterB s[k] = false from Bool.eq_false_iff.2 (fun h => by have := (letterB_iff _).1 h; omega)]; simp
      ·
       try simp only [bs] at hg5
       refine x_guard_f rfl rfl rfl ?_
       refine x_guard_f rfl rfl rfl ?_
       refine x_guard_u rfl rfl rfl ?_
       refine x_guard_u rfl rfl rfl ?_
       refine x_guard_f rfl rfl rfl ?_
       refine x_guard_f rfl rfl rfl ?_
       refine x_pure rfl (p_pick_f rfl rfl) ?_
       first | refine aops_end ?_ | refine aops_nil ?_
       refine hK11 _ ?_
       refine aw_cond_f rfl ?_
       refine aw_skip ?_
       refine hK9 _ ?_
       refine aw_region ?_
       refine x_pure rfl (p_move rfl) ?_
       first | refine x_pure rfl (p_add rfl rfl (by omega) (by omega)) ?_ | refine x_pure rfl (p_bin rfl rfl rfl) ?_
       refine x_pure rfl (p_assign rfl) ?_
       first | refine aops_end ?_ | refine aops_nil ?_
       exact ⟨k+1, ⟨by omega, by rw [h2, all_drop letterB s k (by omega), (letterB_iff _).2 (by omega)]; rfl⟩, by omega, le_of ⟨rfl, rfl, trivial⟩⟩
     ·
      try simp only [bs] at hg4
      refine x_guard_f rfl rfl rfl ?_
      refine x_pure rfl (p_pick_f rfl rfl) ?_
      refine x_pure rfl (p_not rfl) ?_
      refine x_pure rfl (p_move rfl) ?_
      refine x_guard_t rfl rfl rfl ?_
      refine x_pure rfl (p_move rfl) ?_
      refine x_guard_t rfl rfl rfl ?_
      refine x_pure rfl (p_bin rfl rfl rfl) ?_
      refine x_guard_t rfl rfl rfl ?_
      refine x_pure rfl (p_move rfl) ?_
      refine y_guard_s rfl rfl rfl (fun hg10 => ?_) (fun hg10 => ?_)
      ·
       try simp only [bs] at hg10
       refine x_pure rfl (p_move rfl) ?_
       refine x_guard_t rfl rfl rfl ?_
       refine x_pure rfl (p_bin rfl rfl rfl) ?_
       refine x_guard_t rfl rfl rfl ?_
       refine x_pure rfl (p_pick_t rfl rfl) ?_
       refine x_guard_t rfl rfl rfl ?_
       refine x_pure rfl (p_not rfl) ?_
       refine x_pure rfl (p_pick_t rfl rfl) ?_
       first | refine aops_end ?_ | refine aops_nil ?_
       refine hK11 _ ?_
       refine aw_cond_s rfl (fun hc11 => ?_) (fun hc11 => ?_)
       ·
        try simp only [bs] at hc11
        refine aw_seq_k (fun K14 hK14 => ?_)
        refine aw_region ?_
        refine x_pure rfl (p_assign rfl) ?_
        first | refine aops_end ?_ | refine aops_nil ?_
        refine hK14 _ ?_
        refine aw_ret ?_
        refine ⟨_, rfl, ?_⟩
        refine ret_bool ?_
        rw [rightB, h2, all_drop letterB s k (by omega), show letterB s[k] = false from Bool.eq_false_iff.2 (fun h => by have := (letterB_iff _).1 h; omega)]; simp
       ·
        try simp only [bs] at hc11
        refine aw_skip ?_
        refine hK9 _ ?_
        refine aw_region ?_
        refine x_pure rfl (p_move rfl) ?_
        first | refine x_pure rfl (p_add rfl rfl (by omega) (by omega)) ?_ | refine x_pure rfl (p_bin rfl rfl rfl) ?_
        refine x_pure rfl (p_assign rfl) ?_
        first | refine aops_end ?_ | refine aops_nil ?_
        exact ⟨k+1, ⟨by omega, by rw [h2, all_drop letterB s k (by omega), (letterB_iff _).2 (by omega)]; rfl⟩, by omega, le_of ⟨rfl, rfl, trivial⟩⟩
      ·
       try simp only [bs] at hg10
       refine x_guard_f rfl rfl rfl ?_
       refine x_guard_t rfl rfl rfl ?_
       refine x_pure rfl (p_pick_f rfl rfl) ?_
       refine x_guard_t rfl rfl rfl ?_
       refine x_pure rfl (p_not rfl) ?_
       refine x_pure rfl (p_pick_t rfl rfl) ?_
       first | refine aops_end ?_ | refine aops_nil ?_
       refine hK11 _ ?_
       refine aw_cond_t rfl ?_
       refine aw_seq_k (fun K15 hK15 => ?_)
       refine aw_region ?_
       refine x_pure rfl (p_assign rfl) ?_
       first | refine aops_end ?_ | refine aops_nil ?_
       refine hK15 _ ?_
       refine aw_ret ?_
       refine ⟨_, rfl, ?_⟩
       refine ret_bool ?_
       rw [rightB, h2, all_drop letterB s k (by omega), show letterB s[k] = false from Bool.eq_false_iff.2 (fun h => by have := (letterB_iff _).1 h; omega)]; simp
    ·
     try simp only [bs] at hc3
     refine aw_exit ?_
     refine hK5 _ ?_
     refine aw_seq_k (fun K16 hK16 => ?_)
     refine aw_region ?_
     refine x_pure rfl (p_assign rfl) ?_
     first | refine aops_end ?_ | refine aops_nil ?_
     refine hK16 _ ?_
     refine aw_ret ?_
     refine ⟨_, rfl, ?_⟩
     refine ret_bool ?_
     rw [rightB, h2, all_end letterB s k (by omega), eq_comm]
     simp only [Bool.and_eq_true, decide_eq_true_eq, and_true]
     omega
 ·
  try simp only [bs] at hg1
  refine x_guard_f rfl rfl rfl ?_
  refine x_guard_f rfl rfl rfl ?_
  refine x_pure rfl (p_pick_t rfl rfl) ?_
  first | refine aops_end ?_ | refine aops_nil ?_
  refine hK3 _ ?_
  refine aw_cond_t rfl ?_
  refine aw_seq_k (fun K17 hK17 => ?_)
  refine aw_region ?_
  refine x_pure rfl (p_assign rfl) ?_
  first | refine aops_end ?_ | refine aops_nil ?_
  refine hK17 _ ?_
  refine aw_ret ?_
  refine ⟨_, rfl, ?_⟩
  refine ret_bool ?_
  rw [eq_comm, rightB, Bool.eq_false_iff]
  simp only [ne_eq, Bool.and_eq_true, decide_eq_true_eq]
  omega
end Go.Proofs.Ytcjchfocohagdaa.Nm
