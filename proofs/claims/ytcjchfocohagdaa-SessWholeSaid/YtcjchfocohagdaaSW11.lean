import Derived.Test.YtcjchfocohagdaaSW10
import Derived.Test.YtcjchfocohagdaaX3
set_option linter.unusedVariables false
set_option linter.unusedSimpArgs false
namespace Go.Proofs.Ytcjchfocohagdaa
open Go Go.Abs

theorem wholeChange_den (l : List Se) (e : Se) (s0 a st t : Int) (h : hasN l e.1.1 = false) (hl : l.length ≤ 50) : Den Try.prog 18 [.sl 4 ((opnL l (e.1, (s0, a))).map seC), .s (.int .i64 e.1.1), .s (.string e.1.2), .s (.int .i64 st), .s (.int .i64 t)] (· = .tup [.sl 4 ((opnL l (e.1, (st, t))).map seC), .agg (stC ((a, t), (e.1.1, s0))), .s (.int .i64 0)]) := by
  obtain ⟨h1, h2, h3, h4⟩ := whole_at (l := l) (e := e) (s0 := s0) (a := a) (st := st) (t := t) h
  have hq := opn_len l (e.1, (s0, a))
  exact den_is (change10_den _ _ _ st t (by omega)) (by rw [h1, h3, h4])
theorem wholeClose_den (l : List Se) (e : Se) (s0 a t : Int) (h : hasN l e.1.1 = false) (hl : l.length ≤ 50) : Den Try.prog 23 [.sl 4 ((opnL l (e.1, (s0, a))).map seC), .s (.int .i64 e.1.1), .s (.string e.1.2), .s (.int .i64 t)] (· = .tup [.sl 4 (l.map seC), .agg (stC ((a, t), (e.1.1, s0))), .s (.int .i64 0)]) := by
  obtain ⟨h1, h2, h3, h4⟩ := whole_at (l := l) (e := e) (s0 := s0) (a := a) (st := 0) (t := t) h
  have hq := opn_len l (e.1, (s0, a))
  exact den_is (close10_den _ _ _ t (by omega)) (by rw [h2, h3, h4])
theorem wholeFind_den (l : List Se) (e : Se) (h : hasN l e.1.1 = false) (hl : l.length ≤ 50) : Den Try.prog 20 [.sl 4 (l.map seC), .s (.int .i64 e.1.1), .s (.string e.1.2)] (· = .tup [.agg (seC se0), .s (.int .i64 101)]) := by
  have hc := whole_code (e := e) h
  exact den_is (find10_den _ _ _ (by omega)) (by rw [fndR, hc, if_neg (by decide)])

set_option maxRecDepth 20000 in
set_option maxHeartbeats 400000 in
theorem same7b_den (a b : List Sp) (ha : a.length ≤ 9223372036854775807) (hb : b.length ≤ 9223372036854775807)  : Den Try.prog 37 [.sl 2 (a.map spC), .sl 2 (b.map spC)]  (· = .s (.bool (decide (a = b)))) := by
 refine den_of_aw Try.func37 rfl (Nat.le_of_ble_eq_true rfl) (fun w0 A hf => ?_)
 refine aw_seq_k (fun K1 hK1 => ?_)
 refine aw_region ?_
 refine x_pure rfl (p_assign_bad) ?_
 first | refine aops_end ?_ | refine aops_nil ?_
 refine hK1 _ ?_
 refine aw_seq_k (fun K2 hK2 => ?_)
 refine aw_region ?_
 refine x_pure rfl (p_move rfl) ?_
 refine x_pure rfl (p_move rfl) ?_
 refine x_step hf rfl (r_call rfl rfl Try.ent58 rfl (equal_den a b ha hb)) ?_
 refine x_pure rfl (p_assign rfl) ?_
 first | refine aops_end ?_ | refine aops_nil ?_
 refine hK2 _ ?_
 refine aw_ret ?_
 refine ⟨_, rfl, ?_⟩
 rfl

theorem sameTb_den (a b : List Sp) (h : a = b) (ha : a.length ≤ 9223372036854775807) : Den Try.prog 37 [.sl 2 (a.map spC), .sl 2 (b.map spC)] (· = .s (.bool true)) := by
  subst h
  exact (same7b_den a a ha ha).mono fun r h => h.trans (by simp)

set_option maxRecDepth 20000 in
set_option maxHeartbeats 16000000 in
theorem sessWhole_den (l : List Se) (e : Se) (times : List Int) (ht : ∀ x ∈ l, TS x.1.2)  : Den Try.prog 9 [.sl 4 (l.map seC), .agg (seC e), .sl 1 (ints times)]  (· = .s (.bool true)) := by
 refine den_of_aw Try.func9 rfl (Nat.le_of_ble_eq_true rfl) (fun w0 A hf => ?_)
 refine aw_seq_k (fun K1 hK1 => ?_)
 refine aw_region ?_
 refine x_step hf rfl (r_box rfl rfl (by simp [seC, stC, spC, ints, AV.cells, AV.leaf, Value.oneCell', splice, AV.kill, AV.clean, cleanL, AV.only])) ?_
 refine x_pure rfl (p_assign_bad) ?_
 first | refine aops_end ?_ | refine aops_nil ?_
 refine hK1 _ ?_
 refine aw_seq_k (fun K2 hK2 => ?_)
 refine aw_seq_k (fun K3 hK3 => ?_)
 refine aw_region ?_
 refine x_pure rfl (p_move rfl) ?_
 first | refine x_pure rfl (p_len_sl rfl Try.e22) ?_ | refine x_pure rfl (p_len_own rfl Try.e22) ?_ | refine x_pure rfl (p_len_nil rfl Try.e22) ?_
 refine x_pure rfl (p_bin rfl rfl rfl) ?_
 refine x_pure rfl (p_move rfl) ?_
 refine y_guard_s rfl rfl rfl (fun hg1 => ?_) (fun hg1 => ?_)
 ·
  try simp only [bs, ints_len] at hg1
  refine x_pure rfl (p_move rfl) ?_
  refine x_guard_t rfl rfl rfl ?_
  first | refine x_pure rfl (p_len_sl rfl Try.e75) ?_ | refine x_pure rfl (p_len_own rfl Try.e75) ?_ | refine x_pure rfl (p_len_nil rfl Try.e75) ?_
  refine x_guard_t rfl rfl rfl ?_
  refine x_pure rfl (p_bin rfl rfl rfl) ?_
  refine x_pure rfl (p_pick_f rfl rfl) ?_
  refine x_pure rfl (p_move rfl) ?_
  refine y_guard_s rfl rfl rfl (fun hg2 => ?_) (fun hg2 => ?_)
  ·
   try simp only [bs, ints_len] at hg2
   refine x_pure rfl (p_move rfl) ?_
   refine x_guard_t rfl rfl rfl ?_
   first | refine x_pure rfl (p_len_sl rfl Try.e75) ?_ | refine x_pure rfl (p_len_own rfl Try.e75) ?_ | refine x_pure rfl (p_len_nil rfl Try.e75) ?_
   refine x_guard_t rfl rfl rfl ?_
   refine x_pure rfl (p_bin rfl rfl rfl) ?_
   refine x_pure rfl (p_pick_f rfl rfl) ?_
   first | refine aops_end ?_ | refine aops_nil ?_
   refine hK3 _ ?_
   refine aw_cond_s rfl (fun hc3 => ?_) (fun hc3 => ?_)
   ·
    try simp only [bs, ints_len] at hc3
    refine aw_seq_k (fun K4 hK4 => ?_)
    refine aw_region ?_
    refine x_step hf rfl (r_call rfl rfl Try.ent10 rfl (alive10_den)) ?_
    refine x_pure rfl (p_assign rfl) ?_
    first | refine aops_end ?_ | refine aops_nil ?_
    refine hK4 _ ?_
    refine aw_ret ?_
    refine ⟨_, rfl, ?_⟩
    rfl
   ·
    try simp only [bs, ints_len] at hc3
    refine aw_skip ?_
    refine hK2 _ ?_
    refine aw_seq_k (fun K5 hK5 => ?_)
    refine aw_draw hf Try.mixed (by kernel_rfl) rfl ?_
    refine d_pure [(0, _)] rfl rfl ⟨⟨rfl, rfl⟩, trivial⟩ rfl (p_move rfl) ?_
    refine d_rstep [(34, _)] rfl rfl ⟨⟨rfl, rfl⟩, trivial⟩ rfl (r_call rfl rfl Try.ent11 rfl (news10_den _ (by omega))) ?_
    first | refine d_pure [(4, _)] rfl rfl ⟨⟨rfl, rfl⟩, trivial⟩ rfl (p_loads rfl Try.g24 Try.c24 rfl rfl) ?_ | refine d_pure [(4, _)] rfl rfl ⟨⟨rfl, rfl⟩, trivial⟩ rfl (p_loadsr rfl Try.g24 Try.c24 rfl rfl rfl) ?_
    refine d_rstep [(35, _), (36, _)] rfl rfl ⟨⟨rfl, rfl⟩, ⟨rfl, rfl⟩, trivial⟩ rfl (r_call rfl rfl Try.ent12 rfl (open10_den l e (by omega))) ?_
    refine d_pure [(37, _)] rfl rfl ⟨⟨rfl, rfl⟩, trivial⟩ rfl (p_move rfl) ?_
    refine d_pure [(33, _)] rfl rfl ⟨⟨rfl, rfl⟩, trivial⟩ rfl (p_extract rfl rfl) ?_
    refine d_pure [(33, _)] rfl rfl ⟨⟨rfl, rfl⟩, trivial⟩ rfl (p_extract rfl rfl) ?_
    refine d_pure [(38, _)] rfl rfl ⟨⟨rfl, rfl⟩, trivial⟩ rfl (p_assign rfl) ?_
    refine d_pure [(39, _)] rfl rfl ⟨⟨rfl, rfl⟩, trivial⟩ rfl (p_assign rfl) ?_
    refine lex_end (sl' := [(0, _), (2, _), (4, _), (7, _), (8, _)]) rfl ⟨rfl, rfl, rfl, rfl, rfl, trivial⟩ rfl ?_
    refine hK5 _ ?_
    refine aw_seq_k (fun K6 hK6 => ?_)
    refine aw_seq_k (fun K7 hK7 => ?_)
    refine aw_region ?_
    refine x_pure rfl (p_move rfl) ?_
    refine x_pure rfl (p_bin rfl rfl rfl) ?_
    first | refine aops_end ?_ | refine aops_nil ?_
    refine hK7 _ ?_
    refine aw_cond_s rfl (fun hc4 => ?_) (fun hc4 => ?_)
    ·
     try simp only [bs, ints_len] at hc4
     refine aw_seq_k (fun K8 hK8 => ?_)
     refine aw_region ?_
     refine x_step hf rfl (r_call rfl rfl Try.ent10 rfl (alive10_den)) ?_
     refine x_pure rfl (p_assign rfl) ?_
     first | refine aops_end ?_ | refine aops_nil ?_
     refine hK8 _ ?_
     refine aw_ret ?_
     refine ⟨_, rfl, ?_⟩
     rfl
    ·
     try simp only [bs, ints_len] at hc4
     refine aw_skip ?_
     refine hK6 _ ?_
     refine aw_seq_k (fun K9 hK9 => ?_)
     refine aw_region ?_
     have hop : opnS l e = 0 := by first | assumption | omega
     have hnn := opn_has hop
     have hq := opn_len l e
     rw [show opnR l e = opnL l e from if_pos hop]
     refine x_nil hf 4 rfl rfl rfl ?_
     first | refine aops_end ?_ | refine aops_nil ?_
     refine hK9 _ ?_
     refine aw_seq_k (fun K10 hK10 => ?_)
     refine aw_region ?_
     refine x_nil hf 2 rfl rfl rfl ?_
     first | refine aops_end ?_ | refine aops_nil ?_
     refine hK10 _ ?_
     refine aw_seq_k (fun K11 hK11 => ?_)
     refine aw_region ?_
     first | refine x_pure rfl (p_fld_adr rfl Try.fd24_3 Try.c3 rfl) ?_ | refine x_pure rfl (p_fld_ref rfl Try.fd24_3 Try.c3 rfl) ?_
     first | refine x_pure rfl (p_load1 rfl Try.g3 rfl) ?_ | refine x_pure rfl (p_load1r rfl Try.g3 rfl rfl) ?_ | refine x_pure rfl (p_load1r rfl Try.g3 rfl (strs_ref (by simp only [List.length_cons] at *; omega))) ?_ | refine x_pure rfl (p_load1r rfl Try.g3 rfl (strs_ref (by omega))) ?_
     refine x_pure rfl (p_assign rfl) ?_
     first | refine aops_end ?_ | refine aops_nil ?_
     refine hK11 _ ?_
     refine aw_seq_k (fun K12 hK12 => ?_)
     refine aw_seq_k (fun K13 hK13 => ?_)
     refine aw_region ?_
     refine x_pure rfl (p_move rfl) ?_
     first | refine x_pure rfl (p_len_sl rfl Try.e75) ?_ | refine x_pure rfl (p_len_own rfl Try.e75) ?_ | refine x_pure rfl (p_len_nil rfl Try.e75) ?_
     refine x_pure rfl (p_move rfl) ?_
     first | refine aops_end ?_ | refine aops_nil ?_
     refine hK13 _ ?_
     refine aw_block ?_
     refine aw_loop (ι := (Nat × Int) × (Int × (List Stay × List Sp))) (fun (⟨⟨k, s0⟩, ⟨a, ⟨ys, zs⟩⟩⟩ : (Nat × Int) × (Int × (List Stay × List Sp))) => ⟨163, [(0, .sl 4 (l.map seC)), (2, .sl 1 (ints times)), (4, .adr (seC e)), (7, .sl 4 ((if k < times.length then opnL l (e.1, (s0, a)) else l).map seC)), (9, .own 9 4 0 ys.length), (10, .own 10 2 0 zs.length), (11, .s (.int .i64 a)), (45, .sl 1 (ints times)), (46, .s (.int .i64 ((ints times).length : Nat))), (47, .s (.int .i64 (k : Nat)))], [(10, .buf 2 (zs.map spC)), (9, .buf 4 (ys.map stC))]⟩) (fun (⟨⟨k, s0⟩, ⟨a, ⟨ys, zs⟩⟩⟩ : (Nat × Int) × (Int × (List Stay × List Sp))) => WholeI e k a ys zs times.length) (fun (⟨⟨k, s0⟩, ⟨a, ⟨ys, zs⟩⟩⟩ : (Nat × Int) × (Int × (List Stay × List Sp))) => times.length - k) ((0, e.2.1), (e.2.2, ([], []))) ?_ ?_ ?_
     · exact WholeI.start e _
     · exact le_to ⟨(by first | rfl | (rw [if_pos (by omega)]; rfl) | (rw [if_pos (by omega)]; done) | (rw [if_neg (by omega)]; rfl) | (rw [if_neg (by omega)]; done) | (rw [List.length_append]; rfl) | (rw [List.length_append]; done) | exact slot_int (by omega)), (by first | rfl | (rw [if_pos (by omega)]; rfl) | (rw [if_pos (by omega)]; done) | (rw [if_neg (by omega)]; rfl) | (rw [if_neg (by omega)]; done) | (rw [List.length_append]; rfl) | (rw [List.length_append]; done) | exact slot_int (by omega)), (by first | rfl | (rw [if_pos (by omega)]; rfl) | (rw [if_pos (by omega)]; done) | (rw [if_neg (by omega)]; rfl) | (rw [if_neg (by omega)]; done) | (rw [List.length_append]; rfl) | (rw [List.length_append]; done) | exact slot_int (by omega)), (by first | rfl | (rw [if_pos (by omega)]; rfl) | (rw [if_pos (by omega)]; done) | (rw [if_neg (by omega)]; rfl) | (rw [if_neg (by omega)]; done) | (rw [List.length_append]; rfl) | (rw [List.length_append]; done) | exact slot_int (by omega)), (by first | rfl | (rw [if_pos (by omega)]; rfl) | (rw [if_pos (by omega)]; done) | (rw [if_neg (by omega)]; rfl) | (rw [if_neg (by omega)]; done) | (rw [List.length_append]; rfl) | (rw [List.length_append]; done) | exact slot_int (by omega)), (by first | rfl | (rw [if_pos (by omega)]; rfl) | (rw [if_pos (by omega)]; done) | (rw [if_neg (by omega)]; rfl) | (rw [if_neg (by omega)]; done) | (rw [List.length_append]; rfl) | (rw [List.length_append]; done) | exact slot_int (by omega)), (by first | rfl | (rw [if_pos (by omega)]; rfl) | (rw [if_pos (by omega)]; done) | (rw [if_neg (by omega)]; rfl) | (rw [if_neg (by omega)]; done) | (rw [List.length_append]; rfl) | (rw [List.length_append]; done) | exact slot_int (by omega)), (by first | rfl | (rw [if_pos (by omega)]; rfl) | (rw [if_pos (by omega)]; done) | (rw [if_neg (by omega)]; rfl) | (rw [if_neg (by omega)]; done) | (rw [List.length_append]; rfl) | (rw [List.length_append]; done) | exact slot_int (by omega)), (by first | rfl | (rw [if_pos (by omega)]; rfl) | (rw [if_pos (by omega)]; done) | (rw [if_neg (by omega)]; rfl) | (rw [if_neg (by omega)]; done) | (rw [List.length_append]; rfl) | (rw [List.length_append]; done) | exact slot_int (by omega)), (by first | rfl | (rw [if_pos (by omega)]; rfl) | (rw [if_pos (by omega)]; done) | (rw [if_neg (by omega)]; rfl) | (rw [if_neg (by omega)]; done) | (rw [List.length_append]; rfl) | (rw [List.length_append]; done) | exact slot_int (by omega)), trivial⟩ rfl
     ·
      rintro ⟨⟨k, s0⟩, ⟨a, ⟨ys, zs⟩⟩⟩ hC
      have h1 := hC.le
      have h2 := hC.l1
      have h3 := hC.l2
      refine aw_seq_k (fun K14 hK14 => ?_)
      refine aw_region ?_
      refine x_pure rfl (p_bin rfl rfl rfl) ?_
      first | refine aops_end ?_ | refine aops_nil ?_
      refine hK14 _ ?_
      refine aw_seq_k (fun K15 hK15 => ?_)
      refine aw_cond_s rfl (fun hc5 => ?_) (fun hc5 => ?_)
      ·
       try simp only [bs, ints_len] at hc5
       refine aw_skip ?_
       refine hK15 _ ?_
       refine aw_seq_k (fun K16 hK16 => ?_)
       refine aw_block ?_
       refine aw_seq_k (fun K17 hK17 => ?_)
       refine aw_region ?_
       have hk : k < times.length := by omega
       rw [if_pos hk]
       refine x_pure rfl (p_move rfl) ?_
       first | refine x_pure rfl (p_idx_sl rfl rfl Try.e75 Try.c3 (by first | assumption | (refine ⟨by omega, ?_⟩; first | assumption | exact strs_at (by omega) | exact strs_at (by simp only [List.length_cons] at *; omega) | exact ints_at (by omega) | exact map_at (by omega) | exact list_at (by omega)) | exact ⟨by decide, rfl⟩)) ?_ | refine x_pure rfl (p_idx_own rfl rfl Try.e75 Try.c3 (by omega)) ?_
       first | refine x_pure rfl (p_load1 rfl Try.g3 rfl) ?_ | refine x_pure rfl (p_load1r rfl Try.g3 rfl rfl) ?_ | refine x_pure rfl (p_load1r rfl Try.g3 rfl (strs_ref (by simp only [List.length_cons] at *; omega))) ?_ | refine x_pure rfl (p_load1r rfl Try.g3 rfl (strs_ref (by omega))) ?_
       refine x_pure rfl (p_assign rfl) ?_
       refine x_pure rfl (p_assign rfl) ?_
       first | refine aops_end ?_ | refine aops_nil ?_
       refine hK17 _ ?_
       refine aw_seq_k (fun K18 hK18 => ?_)
       refine aw_seq_k (fun K19 hK19 => ?_)
       refine aw_region ?_
       refine x_pure rfl (p_move rfl) ?_
       refine x_pure rfl (p_move rfl) ?_
       refine x_pure rfl (p_bin rfl rfl rfl) ?_
       first | refine aops_end ?_ | refine aops_nil ?_
       refine hK19 _ ?_
       refine aw_cond_s rfl (fun hc6 => ?_) (fun hc6 => ?_)
       ·
        try simp only [bs, ints_len] at hc6
        refine aw_seq_k (fun K20 hK20 => ?_)
        refine aw_region ?_
        refine x_step hf rfl (r_call rfl rfl Try.ent10 rfl (alive10_den)) ?_
        refine x_pure rfl (p_assign rfl) ?_
        first | refine aops_end ?_ | refine aops_nil ?_
        refine hK20 _ ?_
        refine aw_ret ?_
        refine ⟨_, rfl, ?_⟩
        rfl
       ·
        try simp only [bs, ints_len] at hc6
        refine aw_skip ?_
        refine hK18 _ ?_
        refine aw_seq_k (fun K21 hK21 => ?_)
        refine aw_region ?_
        refine x_pure rfl (p_move rfl) ?_
        refine x_pure rfl (p_assign rfl) ?_
        first | refine aops_end ?_ | refine aops_nil ?_
        refine hK21 _ ?_
        refine aw_seq_k (fun K22 hK22 => ?_)
        refine aw_region ?_
        refine x_alloc hf rfl rfl rfl Try.z44 ?_
        first | refine aops_end ?_ | refine aops_nil ?_
        refine hK22 _ ?_
        refine aw_seq_k (fun K23 hK23 => ?_)
        refine aw_seq_k (fun K24 hK24 => ?_)
        refine aw_region ?_
        refine x_pure rfl (p_move rfl) ?_
        first | refine x_pure rfl (p_add rfl rfl (by omega) (by omega)) ?_ | refine x_pure rfl (p_bin rfl rfl rfl) ?_
        refine x_pure rfl (p_move rfl) ?_
        first | refine x_pure rfl (p_len_sl rfl Try.e75) ?_ | refine x_pure rfl (p_len_own rfl Try.e75) ?_ | refine x_pure rfl (p_len_nil rfl Try.e75) ?_
        refine x_pure rfl (p_bin rfl rfl rfl) ?_
        first | refine aops_end ?_ | refine aops_nil ?_
        refine hK24 _ ?_
        refine aw_cond_s rfl (fun hc7 => ?_) (fun hc7 => ?_)
        ·
         try simp only [bs, ints_len] at hc7
         refine aw_region ?_
         refine x_pure rfl (p_move rfl) ?_
         first | refine x_pure rfl (p_fld_adr rfl Try.fd24_0 Try.c3 rfl) ?_ | refine x_pure rfl (p_fld_ref rfl Try.fd24_0 Try.c3 rfl) ?_
         first | refine x_pure rfl (p_load1 rfl Try.g3 rfl) ?_ | refine x_pure rfl (p_load1r rfl Try.g3 rfl rfl) ?_ | refine x_pure rfl (p_load1r rfl Try.g3 rfl (strs_ref (by simp only [List.length_cons] at *; omega))) ?_ | refine x_pure rfl (p_load1r rfl Try.g3 rfl (strs_ref (by omega))) ?_
         first | refine x_pure rfl (p_fld_adr rfl Try.fd24_1 Try.c9 rfl) ?_ | refine x_pure rfl (p_fld_ref rfl Try.fd24_1 Try.c9 rfl) ?_
         first | refine x_pure rfl (p_load1 rfl Try.g9 rfl) ?_ | refine x_pure rfl (p_load1r rfl Try.g9 rfl rfl) ?_ | refine x_pure rfl (p_load1r rfl Try.g9 rfl (strs_ref (by simp only [List.length_cons] at *; omega))) ?_ | refine x_pure rfl (p_load1r rfl Try.g9 rfl (strs_ref (by omega))) ?_
         refine x_pure rfl (p_move rfl) ?_
         refine x_pure rfl (p_bin rfl rfl (rem_nat k 4 (by decide))) ?_
         first | refine x_pure rfl (p_add rfl rfl (by omega) (by omega)) ?_ | refine x_pure rfl (p_bin rfl rfl rfl) ?_
         refine x_pure rfl (p_move rfl) ?_
         refine x_step hf rfl (r_call rfl rfl Try.ent18 rfl (wholeChange_den l e s0 a (1 + ((k % 4 : Nat) : Int)) times[k] hnn (by omega))) ?_
         refine x_pure rfl (p_move rfl) ?_
         refine x_pure rfl (p_extract rfl rfl) ?_
         refine x_pure rfl (p_extract rfl rfl) ?_
         refine x_pure rfl (p_extract rfl rfl) ?_
         refine x_pure rfl (p_assign rfl) ?_
         refine x_store hf rfl rfl Try.c44 rfl rfl (by simp [seC, stC, spC, ints, AV.cells, AV.one, Value.oneCell', splice, AV.kill, AV.clean, cleanL, AV.only]) (by simp [seC, stC, spC, ints, AV.cells, AV.leaf, Value.oneCell', splice, AV.kill, AV.clean, cleanL, AV.only]) rfl ?_
         refine x_pure rfl (p_assign rfl) ?_
         first | refine aops_end ?_ | refine aops_nil ?_
         refine hK23 _ ?_
         refine aw_seq_k (fun K25 hK25 => ?_)
         refine aw_seq_k (fun K26 hK26 => ?_)
         refine aw_region ?_
         refine aops_le (le_keep (nee 14) (sl' := [(0, .sl 4 (l.map seC)), (2, .sl 1 (ints times)), (4, .adr (seC e)), (7, .sl 4 ((if k + 1 < times.length then opnL l (e.1, (1 + ((k % 4 : Nat) : Int), times[k])) else l).map seC)), (9, .own 9 4 0 ys.length), (10, .own 10 2 0 zs.length), (11, .s (.int .i64 times[k])), (13, .s (.int .i64 times[k])), (8, .s (.int .i64 0)), (14, .adr (stC ((a, times[k]), (e.1.1, s0)))), (45, .sl 1 (ints times)), (46, .s (.int .i64 ((ints times).length : Nat))), (47, .s (.int .i64 (k : Nat)))]) (m' := [(10, .buf 2 (zs.map spC)), (9, .buf 4 (ys.map stC))]) ⟨⟨_, rfl, rfl⟩, ⟨_, rfl, rfl⟩, ⟨_, rfl, rfl⟩, ⟨_, rfl, (by show AV.sl 4 _ = AV.sl 4 _; first | rw [if_pos (by omega)] | rw [if_neg (by omega)])⟩, ⟨_, rfl, rfl⟩, ⟨_, rfl, rfl⟩, ⟨_, rfl, rfl⟩, ⟨_, rfl, rfl⟩, ⟨_, rfl, rfl⟩, ⟨_, rfl, rfl⟩, ⟨_, rfl, rfl⟩, ⟨_, rfl, rfl⟩, ⟨_, rfl, rfl⟩, trivial⟩ rfl) ?_
         refine x_pure rfl (p_move rfl) ?_
         refine x_pure rfl (p_bin rfl rfl rfl) ?_
         refine x_pure rfl (p_move rfl) ?_
         refine x_guard_t rfl rfl rfl ?_
         first | refine x_pure rfl (p_fld_adr rfl Try.fd44_1 Try.c3 rfl) ?_ | refine x_pure rfl (p_fld_ref rfl Try.fd44_1 Try.c3 rfl) ?_
         refine x_guard_t rfl rfl rfl ?_
         first | refine x_pure rfl (p_load1 rfl Try.g3 rfl) ?_ | refine x_pure rfl (p_load1r rfl Try.g3 rfl rfl) ?_ | refine x_pure rfl (p_load1r rfl Try.g3 rfl (strs_ref (by simp only [List.length_cons] at *; omega))) ?_ | refine x_pure rfl (p_load1r rfl Try.g3 rfl (strs_ref (by omega))) ?_
         refine x_guard_t rfl rfl rfl ?_
         first | refine x_pure rfl (p_fld_adr rfl Try.fd24_0 Try.c3 rfl) ?_ | refine x_pure rfl (p_fld_ref rfl Try.fd24_0 Try.c3 rfl) ?_
         refine x_guard_t rfl rfl rfl ?_
         first | refine x_pure rfl (p_load1 rfl Try.g3 rfl) ?_ | refine x_pure rfl (p_load1r rfl Try.g3 rfl rfl) ?_ | refine x_pure rfl (p_load1r rfl Try.g3 rfl (strs_ref (by simp only [List.length_cons] at *; omega))) ?_ | refine x_pure rfl (p_load1r rfl Try.g3 rfl (strs_ref (by omega))) ?_
         refine x_guard_t rfl rfl rfl ?_
         refine x_pure rfl (p_bin rfl rfl (neint_f rfl)) ?_
         refine x_pure rfl (p_pick_f rfl rfl) ?_
         refine x_pure rfl (p_move rfl) ?_
         refine x_guard_t rfl rfl rfl ?_
         first | refine x_pure rfl (p_fld_adr rfl Try.fd44_0 Try.c42 rfl) ?_ | refine x_pure rfl (p_fld_ref rfl Try.fd44_0 Try.c42 rfl) ?_
         refine x_guard_t rfl rfl rfl ?_
         first | refine x_pure rfl (p_fld_adr rfl Try.fd42_1 Try.c3 rfl) ?_ | refine x_pure rfl (p_fld_ref rfl Try.fd42_1 Try.c3 rfl) ?_
         refine x_guard_t rfl rfl rfl ?_
         first | refine x_pure rfl (p_load1 rfl Try.g3 rfl) ?_ | refine x_pure rfl (p_load1r rfl Try.g3 rfl rfl) ?_ | refine x_pure rfl (p_load1r rfl Try.g3 rfl (strs_ref (by simp only [List.length_cons] at *; omega))) ?_ | refine x_pure rfl (p_load1r rfl Try.g3 rfl (strs_ref (by omega))) ?_
         refine x_guard_t rfl rfl rfl ?_
         refine x_pure rfl (p_move rfl) ?_
         refine x_guard_t rfl rfl rfl ?_
         refine x_pure rfl (p_bin rfl rfl (neint_f rfl)) ?_
         refine x_pure rfl (p_pick_f rfl rfl) ?_
         first | refine aops_end ?_ | refine aops_nil ?_
         refine hK26 _ ?_
         refine aw_cond_f rfl ?_
         refine aw_skip ?_
         refine hK25 _ ?_
         refine aw_seq_k (fun K27 hK27 => ?_)
         refine aw_seq_k (fun K28 hK28 => ?_)
         refine aw_region ?_
         refine x_pure rfl (p_move rfl) ?_
         first | refine x_pure rfl (p_len_sl rfl Try.e63) ?_ | refine x_pure rfl (p_len_own rfl Try.e63) ?_ | refine x_pure rfl (p_len_nil rfl Try.e63) ?_
         refine x_pure rfl (p_move rfl) ?_
         first | refine aops_end ?_ | refine aops_nil ?_
         refine hK28 _ ?_
         refine aw_block ?_
         refine aw_loop (ι := Nat) (fun j => ⟨163, [(0, .sl 4 (l.map seC)), (2, .sl 1 (ints times)), (4, .adr (seC e)), (7, .sl 4 ((if k + 1 < times.length then opnL l (e.1, (1 + ((k % 4 : Nat) : Int), times[k])) else l).map seC)), (9, .own 9 4 0 ys.length), (10, .own 10 2 0 zs.length), (11, .s (.int .i64 times[k])), (14, .adr (stC ((a, times[k]), (e.1.1, s0)))), (45, .sl 1 (ints times)), (46, .s (.int .i64 ((ints times).length : Nat))), (47, .s (.int .i64 (k : Nat))), (103, .own 9 4 0 ys.length), (104, .s (.int .i64 (ys.length : Nat))), (105, .s (.int .i64 (j : Nat)))], [(10, .buf 2 (zs.map spC)), (9, .buf 4 (ys.map stC))]⟩) (fun j => j ≤ ys.length) (fun j => ys.length - j) 0 ?_ ?_ ?_
         · exact Nat.zero_le _
         · exact le_of ⟨rfl, rfl, rfl, rfl, rfl, rfl, rfl, rfl, rfl, rfl, rfl, rfl, rfl, rfl, trivial⟩
         ·
          rintro j hC
          have hj := hC
          clear hC
          refine aw_seq_k (fun K29 hK29 => ?_)
          refine aw_region ?_
          refine x_pure rfl (p_bin rfl rfl rfl) ?_
          first | refine aops_end ?_ | refine aops_nil ?_
          refine hK29 _ ?_
          refine aw_seq_k (fun K30 hK30 => ?_)
          refine aw_cond_s rfl (fun hc9 => ?_) (fun hc9 => ?_)
          ·
           try simp only [bs, ints_len] at hc9
           refine aw_skip ?_
           refine hK30 _ ?_
           refine aw_seq_k (fun K31 hK31 => ?_)
           refine aw_block ?_
           refine aw_seq_k (fun K32 hK32 => ?_)
           refine aw_region ?_
           have hj2 : j < ys.length := by omega
           first | refine x_pure rfl (p_idx_sl rfl rfl Try.e63 Try.c44 (by first | assumption | (refine ⟨by omega, ?_⟩; first | assumption | exact strs_at (by omega) | exact strs_at (by simp only [List.length_cons] at *; omega) | exact ints_at (by omega) | exact map_at (by omega) | exact list_at (by omega)) | exact ⟨by decide, rfl⟩)) ?_ | refine x_pure rfl (p_idx_own rfl rfl Try.e63 Try.c44 (by omega)) ?_
           refine x_pure rfl (p_loadsr rfl Try.g44 Try.c44 rfl (own_ble (by omega) hj2 rfl) (own_take (by omega) hj2 rfl)) ?_
           refine x_allocst hf rfl Try.z44 rfl Try.c44 rfl rfl rfl rfl (by simp [seC, stC, spC, ints, AV.cells, AV.leaf, Value.oneCell', splice, AV.kill, AV.clean, cleanL, AV.only]) ?_
           first | refine aops_end ?_ | refine aops_nil ?_
           refine hK32 _ ?_
           refine aw_seq_k (fun K33 hK33 => ?_)
           refine aw_region ?_
           first | refine x_pure rfl (p_fld_adr rfl Try.fd44_0 Try.c42 rfl) ?_ | refine x_pure rfl (p_fld_ref rfl Try.fd44_0 Try.c42 rfl) ?_
           first | refine x_pure rfl (p_loads rfl Try.g42 Try.c42 rfl rfl) ?_ | refine x_pure rfl (p_loadsr rfl Try.g42 Try.c42 rfl rfl rfl) ?_
           first | refine x_pure rfl (p_fld_adr rfl Try.fd44_0 Try.c42 rfl) ?_ | refine x_pure rfl (p_fld_ref rfl Try.fd44_0 Try.c42 rfl) ?_
           first | refine x_pure rfl (p_loads rfl Try.g42 Try.c42 rfl rfl) ?_ | refine x_pure rfl (p_loadsr rfl Try.g42 Try.c42 rfl rfl rfl) ?_
           refine x_step hf rfl (r_call rfl rfl Try.ent36 rfl (meet1_den ys[j].1 (a, times[k]))) ?_
           refine x_step hf rfl (r_call rfl rfl Try.ent35 rfl (den_is (none_den (meet1 ys[j].1 (a, times[k]))) (congrArg (fun z => AV.s (.bool z)) (whole_none (hC.ends ys[j] (List.getElem_mem hj2)))))) ?_
           refine x_pure rfl (p_not rfl) ?_
           first | refine aops_end ?_ | refine aops_nil ?_
           refine hK33 _ ?_
           refine aw_cond_f rfl ?_
           refine aw_skip ?_
           refine hK31 _ ?_
           refine aw_region ?_
           first | refine x_pure rfl (p_add rfl rfl (by omega) (by omega)) ?_ | refine x_pure rfl (p_bin rfl rfl rfl) ?_
           refine x_pure rfl (p_move rfl) ?_
           first | refine aops_end ?_ | refine aops_nil ?_
           exact ⟨j + 1, (by omega), by omega, le_of ⟨rfl, rfl, rfl, rfl, rfl, rfl, rfl, rfl, rfl, rfl, rfl, rfl, rfl, rfl, trivial⟩⟩
          ·
           try simp only [bs, ints_len] at hc9
           refine aw_exit ?_
           refine hK27 _ ?_
           refine aw_region_any Try.mixed ?_
           refine af_step (listed' := #[true, false, false, false, false, false, false, false, false, false, false]) 0 rfl (by kernel_rfl) (by kernel_rfl) (by kernel_rfl) rfl (fun _ _ h => h) (w_move rfl) ?_
           refine af_step (listed' := #[true, false, false, false, true, false, false, false, false, false, false]) 4 rfl (by kernel_rfl) (by kernel_rfl) (by kernel_rfl) rfl (fun _ _ h => h) (w_move rfl) ?_
           first | refine af_step (listed' := #[true, false, false, false, true, true, false, false, false, false, false]) 5 rfl (by kernel_rfl) (by kernel_rfl) (by kernel_rfl) rfl (fun _ _ h => h) (w_fld_adr rfl Try.fd44_0 Try.c42 rfl) ?_ | refine af_step (listed' := #[true, false, false, false, true, true, false, false, false, false, false]) 5 rfl (by kernel_rfl) (by kernel_rfl) (by kernel_rfl) rfl (fun _ _ h => h) (w_fld_ref rfl Try.fd44_0 Try.c42 rfl) ?_
           refine aany_le (le_of (sl' := [(0, _), (2, _), (4, _), (7, _), (9, _), (10, _), (11, _), (14, _), (45, _), (46, _), (47, _), (117, _), (121, _), (122, _)]) ⟨rfl, rfl, rfl, rfl, rfl, rfl, rfl, rfl, rfl, rfl, rfl, rfl, rfl, rfl, trivial⟩) ?_
           suffices hj : AAny _ _ _ _ _ 2 #[true, true, true, true, true, true, true, true, true, false, false] ⟨163, [(0, .sl 4 (l.map seC)), (2, .sl 1 (ints times)), (4, .adr (seC e)), (7, .sl 4 ((if k + 1 < times.length then opnL l (e.1, (1 + ((k % 4 : Nat) : Int), times[k])) else l).map seC)), (11, .s (.int .i64 times[k])), (45, .sl 1 (ints times)), (46, .s (.int .i64 ((ints times).length : Nat))), (47, .s (.int .i64 (k : Nat))), (120, .own 9 4 0 (ys.length + 1)), (125, .own 10 2 0 (zs.length + 1))], [(10, .buf 2 (zs.map spC ++ [spC (a, times[k])])), (9, .buf 4 (ys.map stC ++ [stC ((a, times[k]), (e.1.1, s0))]))]⟩ by
            refine aany_step 1 [6] (by kernel_rfl) ⟨?_, ?_, trivial⟩
            ·
             refine ⟨_, rfl, rfl, ?_⟩
             refine aop_of_aops (ops := #[]) rfl ?_
             first | refine x_pure rfl (p_loads rfl Try.g44 Try.c44 rfl rfl) ?_ | refine x_pure rfl (p_loadsr rfl Try.g44 Try.c44 rfl rfl rfl) ?_
             refine aops_any ?_
             refine aany_step 2 [6] (by kernel_rfl) ⟨?_, ?_, trivial⟩
             ·
              refine ⟨_, rfl, rfl, ?_⟩
              refine aop_of_aops (ops := #[]) rfl ?_
              refine x_step hf rfl (r_buildSlice Try.ap63 rfl rfl rfl rfl (by simp [seC, stC, spC, ints, AV.cells, AV.leaf, Value.oneCell', splice, AV.kill, AV.clean, cleanL, AV.only])) ?_
              refine aops_any ?_
              refine aany_step 3 [6] (by kernel_rfl) ⟨?_, ?_, trivial⟩
              ·
               refine ⟨_, rfl, rfl, ?_⟩
               refine aop_of_aops (ops := #[]) rfl ?_
               refine x_append hf rfl Try.ap63 rfl rfl rfl (.inl rfl) (by rw [List.length_map]) rfl (by first | rfl | simp [asrc, look]) (by first | (simp only [maxLen, List.length_map, List.length_append, List.length_cons, List.length_nil]; omega) | (simp [maxLen] <;> omega)) (by first | (simp only [List.length_map, List.length_append, List.length_cons, List.length_nil]; omega) | (simp <;> omega)) ?_
               refine aops_le (le_of (sl' := [(0, _), (2, _), (4, _), (7, _), (9, _), (10, _), (11, _), (45, _), (46, _), (47, _), (120, _), (121, _), (122, _)]) ⟨rfl, rfl, rfl, rfl, rfl, rfl, rfl, rfl, rfl, rfl, rfl, rfl, rfl, trivial⟩) ?_
               refine aops_any ?_
               refine aany_step 6 [] (by kernel_rfl) ⟨?_, trivial⟩
               ·
                refine ⟨_, rfl, rfl, ?_⟩
                refine aop_of_aops (ops := #[]) rfl ?_
                first | refine x_pure rfl (p_loads rfl Try.g42 Try.c42 rfl rfl) ?_ | refine x_pure rfl (p_loadsr rfl Try.g42 Try.c42 rfl rfl rfl) ?_
                refine aops_any ?_
                refine aany_step 7 [] (by kernel_rfl) ⟨?_, trivial⟩
                ·
                 refine ⟨_, rfl, rfl, ?_⟩
                 refine aop_of_aops (ops := #[]) rfl ?_
                 refine x_step hf rfl (r_buildSlice Try.ap76 rfl rfl rfl rfl (by simp [seC, stC, spC, ints, AV.cells, AV.leaf, Value.oneCell', splice, AV.kill, AV.clean, cleanL, AV.only])) ?_
                 refine aops_any ?_
                 refine aany_step 8 [] (by kernel_rfl) ⟨?_, trivial⟩
                 ·
                  refine ⟨_, rfl, rfl, ?_⟩
                  refine aop_of_aops (ops := #[]) rfl ?_
                  refine x_append hf rfl Try.ap76 rfl rfl rfl (.inl rfl) (by rw [List.length_map]) rfl (by first | rfl | simp [asrc, look]) (by first | (simp only [maxLen, List.length_map, List.length_append, List.length_cons, List.length_nil]; omega) | (simp [maxLen] <;> omega)) (by first | (simp only [List.length_map, List.length_append, List.length_cons, List.length_nil]; omega) | (simp <;> omega)) ?_
                  refine aops_le (le_of (sl' := [(0, _), (2, _), (4, _), (7, _), (9, _), (10, _), (11, _), (45, _), (46, _), (47, _), (120, _), (125, _)]) ⟨rfl, rfl, rfl, rfl, rfl, rfl, rfl, rfl, rfl, rfl, rfl, rfl, trivial⟩) ?_
                  refine aops_any ?_
                  refine aany_le ?_ hj
                  exact le_mem ⟨rfl, rfl, rfl, rfl, rfl, rfl, rfl, rfl, rfl, rfl, trivial⟩ (by intro g; first | rfl | exact look_swap (by decide))
              ·
               refine ⟨_, rfl, rfl, ?_⟩
               refine aop_of_aops (ops := #[]) rfl ?_
               first | refine x_pure rfl (p_loads rfl Try.g42 Try.c42 rfl rfl) ?_ | refine x_pure rfl (p_loadsr rfl Try.g42 Try.c42 rfl rfl rfl) ?_
               refine aops_any ?_
               refine aany_step 3 [7] (by kernel_rfl) ⟨?_, ?_, trivial⟩
               ·
                refine ⟨_, rfl, rfl, ?_⟩
                refine aop_of_aops (ops := #[]) rfl ?_
                refine x_append hf rfl Try.ap63 rfl rfl rfl (.inl rfl) (by rw [List.length_map]) rfl (by first | rfl | simp [asrc, look]) (by first | (simp only [maxLen, List.length_map, List.length_append, List.length_cons, List.length_nil]; omega) | (simp [maxLen] <;> omega)) (by first | (simp only [List.length_map, List.length_append, List.length_cons, List.length_nil]; omega) | (simp <;> omega)) ?_
                refine aops_le (le_of (sl' := [(0, _), (2, _), (4, _), (7, _), (9, _), (10, _), (11, _), (45, _), (46, _), (47, _), (120, _), (121, _), (123, _)]) ⟨rfl, rfl, rfl, rfl, rfl, rfl, rfl, rfl, rfl, rfl, rfl, rfl, rfl, trivial⟩) ?_
                refine aops_any ?_
                refine aany_step 7 [] (by kernel_rfl) ⟨?_, trivial⟩
                ·
                 refine ⟨_, rfl, rfl, ?_⟩
                 refine aop_of_aops (ops := #[]) rfl ?_
                 refine x_step hf rfl (r_buildSlice Try.ap76 rfl rfl rfl rfl (by simp [seC, stC, spC, ints, AV.cells, AV.leaf, Value.oneCell', splice, AV.kill, AV.clean, cleanL, AV.only])) ?_
                 refine aops_any ?_
                 refine aany_step 8 [] (by kernel_rfl) ⟨?_, trivial⟩
                 ·
                  refine ⟨_, rfl, rfl, ?_⟩
                  refine aop_of_aops (ops := #[]) rfl ?_
                  refine x_append hf rfl Try.ap76 rfl rfl rfl (.inl rfl) (by rw [List.length_map]) rfl (by first | rfl | simp [asrc, look]) (by first | (simp only [maxLen, List.length_map, List.length_append, List.length_cons, List.length_nil]; omega) | (simp [maxLen] <;> omega)) (by first | (simp only [List.length_map, List.length_append, List.length_cons, List.length_nil]; omega) | (simp <;> omega)) ?_
                  refine aops_le (le_of (sl' := [(0, _), (2, _), (4, _), (7, _), (9, _), (10, _), (11, _), (45, _), (46, _), (47, _), (120, _), (125, _)]) ⟨rfl, rfl, rfl, rfl, rfl, rfl, rfl, rfl, rfl, rfl, rfl, rfl, trivial⟩) ?_
                  refine aops_any ?_
                  refine aany_le ?_ hj
                  exact le_mem ⟨rfl, rfl, rfl, rfl, rfl, rfl, rfl, rfl, rfl, rfl, trivial⟩ (by intro g; first | rfl | exact look_swap (by decide))
               ·
                refine ⟨_, rfl, rfl, ?_⟩
                refine aop_of_aops (ops := #[]) rfl ?_
                refine x_step hf rfl (r_buildSlice Try.ap76 rfl rfl rfl rfl (by simp [seC, stC, spC, ints, AV.cells, AV.leaf, Value.oneCell', splice, AV.kill, AV.clean, cleanL, AV.only])) ?_
                refine aops_any ?_
                refine aany_step 3 [] (by kernel_rfl) ⟨?_, trivial⟩
                ·
                 refine ⟨_, rfl, rfl, ?_⟩
                 refine aop_of_aops (ops := #[]) rfl ?_
                 refine x_append hf rfl Try.ap63 rfl rfl rfl (.inl rfl) (by rw [List.length_map]) rfl (by first | rfl | simp [asrc, look]) (by first | (simp only [maxLen, List.length_map, List.length_append, List.length_cons, List.length_nil]; omega) | (simp [maxLen] <;> omega)) (by first | (simp only [List.length_map, List.length_append, List.length_cons, List.length_nil]; omega) | (simp <;> omega)) ?_
                 refine aops_le (le_of (sl' := [(0, _), (2, _), (4, _), (7, _), (9, _), (10, _), (11, _), (45, _), (46, _), (47, _), (120, _), (121, _), (124, _)]) ⟨rfl, rfl, rfl, rfl, rfl, rfl, rfl, rfl, rfl, rfl, rfl, rfl, rfl, trivial⟩) ?_
                 refine aops_any ?_
                 refine aany_step 8 [] (by kernel_rfl) ⟨?_, trivial⟩
                 ·
                  refine ⟨_, rfl, rfl, ?_⟩
                  refine aop_of_aops (ops := #[]) rfl ?_
                  refine x_append hf rfl Try.ap76 rfl rfl rfl (.inl rfl) (by rw [List.length_map]) rfl (by first | rfl | simp [asrc, look]) (by first | (simp only [maxLen, List.length_map, List.length_append, List.length_cons, List.length_nil]; omega) | (simp [maxLen] <;> omega)) (by first | (simp only [List.length_map, List.length_append, List.length_cons, List.length_nil]; omega) | (simp <;> omega)) ?_
                  refine aops_le (le_of (sl' := [(0, _), (2, _), (4, _), (7, _), (9, _), (10, _), (11, _), (45, _), (46, _), (47, _), (120, _), (125, _)]) ⟨rfl, rfl, rfl, rfl, rfl, rfl, rfl, rfl, rfl, rfl, rfl, rfl, trivial⟩) ?_
                  refine aops_any ?_
                  refine aany_le ?_ hj
                  exact le_mem ⟨rfl, rfl, rfl, rfl, rfl, rfl, rfl, rfl, rfl, rfl, trivial⟩ (by intro g; first | rfl | exact look_swap (by decide))
             ·
              refine ⟨_, rfl, rfl, ?_⟩
              refine aop_of_aops (ops := #[]) rfl ?_
              first | refine x_pure rfl (p_loads rfl Try.g42 Try.c42 rfl rfl) ?_ | refine x_pure rfl (p_loadsr rfl Try.g42 Try.c42 rfl rfl rfl) ?_
              refine aops_any ?_
              refine aany_step 2 [7] (by kernel_rfl) ⟨?_, ?_, trivial⟩
              ·
               refine ⟨_, rfl, rfl, ?_⟩
               refine aop_of_aops (ops := #[]) rfl ?_
               refine x_step hf rfl (r_buildSlice Try.ap63 rfl rfl rfl rfl (by simp [seC, stC, spC, ints, AV.cells, AV.leaf, Value.oneCell', splice, AV.kill, AV.clean, cleanL, AV.only])) ?_
               refine aops_any ?_
               refine aany_step 3 [7] (by kernel_rfl) ⟨?_, ?_, trivial⟩
               ·
                refine ⟨_, rfl, rfl, ?_⟩
                refine aop_of_aops (ops := #[]) rfl ?_
                refine x_append hf rfl Try.ap63 rfl rfl rfl (.inl rfl) (by rw [List.length_map]) rfl (by first | rfl | simp [asrc, look]) (by first | (simp only [maxLen, List.length_map, List.length_append, List.length_cons, List.length_nil]; omega) | (simp [maxLen] <;> omega)) (by first | (simp only [List.length_map, List.length_append, List.length_cons, List.length_nil]; omega) | (simp <;> omega)) ?_
                refine aops_le (le_of (sl' := [(0, _), (2, _), (4, _), (7, _), (9, _), (10, _), (11, _), (45, _), (46, _), (47, _), (120, _), (121, _), (123, _)]) ⟨rfl, rfl, rfl, rfl, rfl, rfl, rfl, rfl, rfl, rfl, rfl, rfl, rfl, trivial⟩) ?_
                refine aops_any ?_
                refine aany_step 7 [] (by kernel_rfl) ⟨?_, trivial⟩
                ·
                 refine ⟨_, rfl, rfl, ?_⟩
                 refine aop_of_aops (ops := #[]) rfl ?_
                 refine x_step hf rfl (r_buildSlice Try.ap76 rfl rfl rfl rfl (by simp [seC, stC, spC, ints, AV.cells, AV.leaf, Value.oneCell', splice, AV.kill, AV.clean, cleanL, AV.only])) ?_
                 refine aops_any ?_
                 refine aany_step 8 [] (by kernel_rfl) ⟨?_, trivial⟩
                 ·
                  refine ⟨_, rfl, rfl, ?_⟩
                  refine aop_of_aops (ops := #[]) rfl ?_
                  refine x_append hf rfl Try.ap76 rfl rfl rfl (.inl rfl) (by rw [List.length_map]) rfl (by first | rfl | simp [asrc, look]) (by first | (simp only [maxLen, List.length_map, List.length_append, List.length_cons, List.length_nil]; omega) | (simp [maxLen] <;> omega)) (by first | (simp only [List.length_map, List.length_append, List.length_cons, List.length_nil]; omega) | (simp <;> omega)) ?_
                  refine aops_le (le_of (sl' := [(0, _), (2, _), (4, _), (7, _), (9, _), (10, _), (11, _), (45, _), (46, _), (47, _), (120, _), (125, _)]) ⟨rfl, rfl, rfl, rfl, rfl, rfl, rfl, rfl, rfl, rfl, rfl, rfl, trivial⟩) ?_
                  refine aops_any ?_
                  refine aany_le ?_ hj
                  exact le_mem ⟨rfl, rfl, rfl, rfl, rfl, rfl, rfl, rfl, rfl, rfl, trivial⟩ (by intro g; first | rfl | exact look_swap (by decide))
               ·
                refine ⟨_, rfl, rfl, ?_⟩
                refine aop_of_aops (ops := #[]) rfl ?_
                refine x_step hf rfl (r_buildSlice Try.ap76 rfl rfl rfl rfl (by simp [seC, stC, spC, ints, AV.cells, AV.leaf, Value.oneCell', splice, AV.kill, AV.clean, cleanL, AV.only])) ?_
                refine aops_any ?_
                refine aany_step 3 [] (by kernel_rfl) ⟨?_, trivial⟩
                ·
                 refine ⟨_, rfl, rfl, ?_⟩
                 refine aop_of_aops (ops := #[]) rfl ?_
                 refine x_append hf rfl Try.ap63 rfl rfl rfl (.inl rfl) (by rw [List.length_map]) rfl (by first | rfl | simp [asrc, look]) (by first | (simp only [maxLen, List.length_map, List.length_append, List.length_cons, List.length_nil]; omega) | (simp [maxLen] <;> omega)) (by first | (simp only [List.length_map, List.length_append, List.length_cons, List.length_nil]; omega) | (simp <;> omega)) ?_
                 refine aops_le (le_of (sl' := [(0, _), (2, _), (4, _), (7, _), (9, _), (10, _), (11, _), (45, _), (46, _), (47, _), (120, _), (121, _), (124, _)]) ⟨rfl, rfl, rfl, rfl, rfl, rfl, rfl, rfl, rfl, rfl, rfl, rfl, rfl, trivial⟩) ?_
                 refine aops_any ?_
                 refine aany_step 8 [] (by kernel_rfl) ⟨?_, trivial⟩
                 ·
                  refine ⟨_, rfl, rfl, ?_⟩
                  refine aop_of_aops (ops := #[]) rfl ?_
                  refine x_append hf rfl Try.ap76 rfl rfl rfl (.inl rfl) (by rw [List.length_map]) rfl (by first | rfl | simp [asrc, look]) (by first | (simp only [maxLen, List.length_map, List.length_append, List.length_cons, List.length_nil]; omega) | (simp [maxLen] <;> omega)) (by first | (simp only [List.length_map, List.length_append, List.length_cons, List.length_nil]; omega) | (simp <;> omega)) ?_
                  refine aops_le (le_of (sl' := [(0, _), (2, _), (4, _), (7, _), (9, _), (10, _), (11, _), (45, _), (46, _), (47, _), (120, _), (125, _)]) ⟨rfl, rfl, rfl, rfl, rfl, rfl, rfl, rfl, rfl, rfl, rfl, rfl, trivial⟩) ?_
                  refine aops_any ?_
                  refine aany_le ?_ hj
                  exact le_mem ⟨rfl, rfl, rfl, rfl, rfl, rfl, rfl, rfl, rfl, rfl, trivial⟩ (by intro g; first | rfl | exact look_swap (by decide))
              ·
               refine ⟨_, rfl, rfl, ?_⟩
               refine aop_of_aops (ops := #[]) rfl ?_
               refine x_step hf rfl (r_buildSlice Try.ap76 rfl rfl rfl rfl (by simp [seC, stC, spC, ints, AV.cells, AV.leaf, Value.oneCell', splice, AV.kill, AV.clean, cleanL, AV.only])) ?_
               refine aops_any ?_
               refine aany_step 2 [] (by kernel_rfl) ⟨?_, trivial⟩
               ·
                refine ⟨_, rfl, rfl, ?_⟩
                refine aop_of_aops (ops := #[]) rfl ?_
                refine x_step hf rfl (r_buildSlice Try.ap63 rfl rfl rfl rfl (by simp [seC, stC, spC, ints, AV.cells, AV.leaf, Value.oneCell', splice, AV.kill, AV.clean, cleanL, AV.only])) ?_
                refine aops_any ?_
                refine aany_step 3 [] (by kernel_rfl) ⟨?_, trivial⟩
                ·
                 refine ⟨_, rfl, rfl, ?_⟩
                 refine aop_of_aops (ops := #[]) rfl ?_
                 refine x_append hf rfl Try.ap63 rfl rfl rfl (.inl rfl) (by rw [List.length_map]) rfl (by first | rfl | simp [asrc, look]) (by first | (simp only [maxLen, List.length_map, List.length_append, List.length_cons, List.length_nil]; omega) | (simp [maxLen] <;> omega)) (by first | (simp only [List.length_map, List.length_append, List.length_cons, List.length_nil]; omega) | (simp <;> omega)) ?_
                 refine aops_le (le_of (sl' := [(0, _), (2, _), (4, _), (7, _), (9, _), (10, _), (11, _), (45, _), (46, _), (47, _), (120, _), (121, _), (124, _)]) ⟨rfl, rfl, rfl, rfl, rfl, rfl, rfl, rfl, rfl, rfl, rfl, rfl, rfl, trivial⟩) ?_
                 refine aops_any ?_
                 refine aany_step 8 [] (by kernel_rfl) ⟨?_, trivial⟩
                 ·
                  refine ⟨_, rfl, rfl, ?_⟩
                  refine aop_of_aops (ops := #[]) rfl ?_
                  refine x_append hf rfl Try.ap76 rfl rfl rfl (.inl rfl) (by rw [List.length_map]) rfl (by first | rfl | simp [asrc, look]) (by first | (simp only [maxLen, List.length_map, List.length_append, List.length_cons, List.length_nil]; omega) | (simp [maxLen] <;> omega)) (by first | (simp only [List.length_map, List.length_append, List.length_cons, List.length_nil]; omega) | (simp <;> omega)) ?_
                  refine aops_le (le_of (sl' := [(0, _), (2, _), (4, _), (7, _), (9, _), (10, _), (11, _), (45, _), (46, _), (47, _), (120, _), (125, _)]) ⟨rfl, rfl, rfl, rfl, rfl, rfl, rfl, rfl, rfl, rfl, rfl, rfl, trivial⟩) ?_
                  refine aops_any ?_
                  refine aany_le ?_ hj
                  exact le_mem ⟨rfl, rfl, rfl, rfl, rfl, rfl, rfl, rfl, rfl, rfl, trivial⟩ (by intro g; first | rfl | exact look_swap (by decide))
            ·
             refine ⟨_, rfl, rfl, ?_⟩
             refine aop_of_aops (ops := #[]) rfl ?_
             first | refine x_pure rfl (p_loads rfl Try.g42 Try.c42 rfl rfl) ?_ | refine x_pure rfl (p_loadsr rfl Try.g42 Try.c42 rfl rfl rfl) ?_
             refine aops_any ?_
             refine aany_step 1 [7] (by kernel_rfl) ⟨?_, ?_, trivial⟩
             ·
              refine ⟨_, rfl, rfl, ?_⟩
              refine aop_of_aops (ops := #[]) rfl ?_
              first | refine x_pure rfl (p_loads rfl Try.g44 Try.c44 rfl rfl) ?_ | refine x_pure rfl (p_loadsr rfl Try.g44 Try.c44 rfl rfl rfl) ?_
              refine aops_any ?_
              refine aany_step 2 [7] (by kernel_rfl) ⟨?_, ?_, trivial⟩
              ·
               refine ⟨_, rfl, rfl, ?_⟩
               refine aop_of_aops (ops := #[]) rfl ?_
               refine x_step hf rfl (r_buildSlice Try.ap63 rfl rfl rfl rfl (by simp [seC, stC, spC, ints, AV.cells, AV.leaf, Value.oneCell', splice, AV.kill, AV.clean, cleanL, AV.only])) ?_
               refine aops_any ?_
               refine aany_step 3 [7] (by kernel_rfl) ⟨?_, ?_, trivial⟩
               ·
                refine ⟨_, rfl, rfl, ?_⟩
                refine aop_of_aops (ops := #[]) rfl ?_
                refine x_append hf rfl Try.ap63 rfl rfl rfl (.inl rfl) (by rw [List.length_map]) rfl (by first | rfl | simp [asrc, look]) (by first | (simp only [maxLen, List.length_map, List.length_append, List.length_cons, List.length_nil]; omega) | (simp [maxLen] <;> omega)) (by first | (simp only [List.length_map, List.length_append, List.length_cons, List.length_nil]; omega) | (simp <;> omega)) ?_
                refine aops_le (le_of (sl' := [(0, _), (2, _), (4, _), (7, _), (9, _), (10, _), (11, _), (45, _), (46, _), (47, _), (120, _), (121, _), (123, _)]) ⟨rfl, rfl, rfl, rfl, rfl, rfl, rfl, rfl, rfl, rfl, rfl, rfl, rfl, trivial⟩) ?_
                refine aops_any ?_
                refine aany_step 7 [] (by kernel_rfl) ⟨?_, trivial⟩
                ·
                 refine ⟨_, rfl, rfl, ?_⟩
                 refine aop_of_aops (ops := #[]) rfl ?_
                 refine x_step hf rfl (r_buildSlice Try.ap76 rfl rfl rfl rfl (by simp [seC, stC, spC, ints, AV.cells, AV.leaf, Value.oneCell', splice, AV.kill, AV.clean, cleanL, AV.only])) ?_
                 refine aops_any ?_
                 refine aany_step 8 [] (by kernel_rfl) ⟨?_, trivial⟩
                 ·
                  refine ⟨_, rfl, rfl, ?_⟩
                  refine aop_of_aops (ops := #[]) rfl ?_
                  refine x_append hf rfl Try.ap76 rfl rfl rfl (.inl rfl) (by rw [List.length_map]) rfl (by first | rfl | simp [asrc, look]) (by first | (simp only [maxLen, List.length_map, List.length_append, List.length_cons, List.length_nil]; omega) | (simp [maxLen] <;> omega)) (by first | (simp only [List.length_map, List.length_append, List.length_cons, List.length_nil]; omega) | (simp <;> omega)) ?_
                  refine aops_le (le_of (sl' := [(0, _), (2, _), (4, _), (7, _), (9, _), (10, _), (11, _), (45, _), (46, _), (47, _), (120, _), (125, _)]) ⟨rfl, rfl, rfl, rfl, rfl, rfl, rfl, rfl, rfl, rfl, rfl, rfl, trivial⟩) ?_
                  refine aops_any ?_
                  refine aany_le ?_ hj
                  exact le_mem ⟨rfl, rfl, rfl, rfl, rfl, rfl, rfl, rfl, rfl, rfl, trivial⟩ (by intro g; first | rfl | exact look_swap (by decide))
               ·
                refine ⟨_, rfl, rfl, ?_⟩
                refine aop_of_aops (ops := #[]) rfl ?_
                refine x_step hf rfl (r_buildSlice Try.ap76 rfl rfl rfl rfl (by simp [seC, stC, spC, ints, AV.cells, AV.leaf, Value.oneCell', splice, AV.kill, AV.clean, cleanL, AV.only])) ?_
                refine aops_any ?_
                refine aany_step 3 [] (by kernel_rfl) ⟨?_, trivial⟩
                ·
                 refine ⟨_, rfl, rfl, ?_⟩
                 refine aop_of_aops (ops := #[]) rfl ?_
                 refine x_append hf rfl Try.ap63 rfl rfl rfl (.inl rfl) (by rw [List.length_map]) rfl (by first | rfl | simp [asrc, look]) (by first | (simp only [maxLen, List.length_map, List.length_append, List.length_cons, List.length_nil]; omega) | (simp [maxLen] <;> omega)) (by first | (simp only [List.length_map, List.length_append, List.length_cons, List.length_nil]; omega) | (simp <;> omega)) ?_
                 refine aops_le (le_of (sl' := [(0, _), (2, _), (4, _), (7, _), (9, _), (10, _), (11, _), (45, _), (46, _), (47, _), (120, _), (121, _), (124, _)]) ⟨rfl, rfl, rfl, rfl, rfl, rfl, rfl, rfl, rfl, rfl, rfl, rfl, rfl, trivial⟩) ?_
                 refine aops_any ?_
                 refine aany_step 8 [] (by kernel_rfl) ⟨?_, trivial⟩
                 ·
                  refine ⟨_, rfl, rfl, ?_⟩
                  refine aop_of_aops (ops := #[]) rfl ?_
                  refine x_append hf rfl Try.ap76 rfl rfl rfl (.inl rfl) (by rw [List.length_map]) rfl (by first | rfl | simp [asrc, look]) (by first | (simp only [maxLen, List.length_map, List.length_append, List.length_cons, List.length_nil]; omega) | (simp [maxLen] <;> omega)) (by first | (simp only [List.length_map, List.length_append, List.length_cons, List.length_nil]; omega) | (simp <;> omega)) ?_
                  refine aops_le (le_of (sl' := [(0, _), (2, _), (4, _), (7, _), (9, _), (10, _), (11, _), (45, _), (46, _), (47, _), (120, _), (125, _)]) ⟨rfl, rfl, rfl, rfl, rfl, rfl, rfl, rfl, rfl, rfl, rfl, rfl, trivial⟩) ?_
                  refine aops_any ?_
                  refine aany_le ?_ hj
                  exact le_mem ⟨rfl, rfl, rfl, rfl, rfl, rfl, rfl, rfl, rfl, rfl, trivial⟩ (by intro g; first | rfl | exact look_swap (by decide))
              ·
               refine ⟨_, rfl, rfl, ?_⟩
               refine aop_of_aops (ops := #[]) rfl ?_
               refine x_step hf rfl (r_buildSlice Try.ap76 rfl rfl rfl rfl (by simp [seC, stC, spC, ints, AV.cells, AV.leaf, Value.oneCell', splice, AV.kill, AV.clean, cleanL, AV.only])) ?_
               refine aops_any ?_
               refine aany_step 2 [] (by kernel_rfl) ⟨?_, trivial⟩
               ·
                refine ⟨_, rfl, rfl, ?_⟩
                refine aop_of_aops (ops := #[]) rfl ?_
                refine x_step hf rfl (r_buildSlice Try.ap63 rfl rfl rfl rfl (by simp [seC, stC, spC, ints, AV.cells, AV.leaf, Value.oneCell', splice, AV.kill, AV.clean, cleanL, AV.only])) ?_
                refine aops_any ?_
                refine aany_step 3 [] (by kernel_rfl) ⟨?_, trivial⟩
                ·
                 refine ⟨_, rfl, rfl, ?_⟩
                 refine aop_of_aops (ops := #[]) rfl ?_
                 refine x_append hf rfl Try.ap63 rfl rfl rfl (.inl rfl) (by rw [List.length_map]) rfl (by first | rfl | simp [asrc, look]) (by first | (simp only [maxLen, List.length_map, List.length_append, List.length_cons, List.length_nil]; omega) | (simp [maxLen] <;> omega)) (by first | (simp only [List.length_map, List.length_append, List.length_cons, List.length_nil]; omega) | (simp <;> omega)) ?_
                 refine aops_le (le_of (sl' := [(0, _), (2, _), (4, _), (7, _), (9, _), (10, _), (11, _), (45, _), (46, _), (47, _), (120, _), (121, _), (124, _)]) ⟨rfl, rfl, rfl, rfl, rfl, rfl, rfl, rfl, rfl, rfl, rfl, rfl, rfl, trivial⟩) ?_
                 refine aops_any ?_
                 refine aany_step 8 [] (by kernel_rfl) ⟨?_, trivial⟩
                 ·
                  refine ⟨_, rfl, rfl, ?_⟩
                  refine aop_of_aops (ops := #[]) rfl ?_
                  refine x_append hf rfl Try.ap76 rfl rfl rfl (.inl rfl) (by rw [List.length_map]) rfl (by first | rfl | simp [asrc, look]) (by first | (simp only [maxLen, List.length_map, List.length_append, List.length_cons, List.length_nil]; omega) | (simp [maxLen] <;> omega)) (by first | (simp only [List.length_map, List.length_append, List.length_cons, List.length_nil]; omega) | (simp <;> omega)) ?_
                  refine aops_le (le_of (sl' := [(0, _), (2, _), (4, _), (7, _), (9, _), (10, _), (11, _), (45, _), (46, _), (47, _), (120, _), (125, _)]) ⟨rfl, rfl, rfl, rfl, rfl, rfl, rfl, rfl, rfl, rfl, rfl, rfl, trivial⟩) ?_
                  refine aops_any ?_
                  refine aany_le ?_ hj
                  exact le_mem ⟨rfl, rfl, rfl, rfl, rfl, rfl, rfl, rfl, rfl, rfl, trivial⟩ (by intro g; first | rfl | exact look_swap (by decide))
             ·
              refine ⟨_, rfl, rfl, ?_⟩
              refine aop_of_aops (ops := #[]) rfl ?_
              refine x_step hf rfl (r_buildSlice Try.ap76 rfl rfl rfl rfl (by simp [seC, stC, spC, ints, AV.cells, AV.leaf, Value.oneCell', splice, AV.kill, AV.clean, cleanL, AV.only])) ?_
              refine aops_any ?_
              refine aany_step 1 [] (by kernel_rfl) ⟨?_, trivial⟩
              ·
               refine ⟨_, rfl, rfl, ?_⟩
               refine aop_of_aops (ops := #[]) rfl ?_
               first | refine x_pure rfl (p_loads rfl Try.g44 Try.c44 rfl rfl) ?_ | refine x_pure rfl (p_loadsr rfl Try.g44 Try.c44 rfl rfl rfl) ?_
               refine aops_any ?_
               refine aany_step 2 [] (by kernel_rfl) ⟨?_, trivial⟩
               ·
                refine ⟨_, rfl, rfl, ?_⟩
                refine aop_of_aops (ops := #[]) rfl ?_
                refine x_step hf rfl (r_buildSlice Try.ap63 rfl rfl rfl rfl (by simp [seC, stC, spC, ints, AV.cells, AV.leaf, Value.oneCell', splice, AV.kill, AV.clean, cleanL, AV.only])) ?_
                refine aops_any ?_
                refine aany_step 3 [] (by kernel_rfl) ⟨?_, trivial⟩
                ·
                 refine ⟨_, rfl, rfl, ?_⟩
                 refine aop_of_aops (ops := #[]) rfl ?_
                 refine x_append hf rfl Try.ap63 rfl rfl rfl (.inl rfl) (by rw [List.length_map]) rfl (by first | rfl | simp [asrc, look]) (by first | (simp only [maxLen, List.length_map, List.length_append, List.length_cons, List.length_nil]; omega) | (simp [maxLen] <;> omega)) (by first | (simp only [List.length_map, List.length_append, List.length_cons, List.length_nil]; omega) | (simp <;> omega)) ?_
                 refine aops_le (le_of (sl' := [(0, _), (2, _), (4, _), (7, _), (9, _), (10, _), (11, _), (45, _), (46, _), (47, _), (120, _), (121, _), (124, _)]) ⟨rfl, rfl, rfl, rfl, rfl, rfl, rfl, rfl, rfl, rfl, rfl, rfl, rfl, trivial⟩) ?_
                 refine aops_any ?_
                 refine aany_step 8 [] (by kernel_rfl) ⟨?_, trivial⟩
                 ·
                  refine ⟨_, rfl, rfl, ?_⟩
                  refine aop_of_aops (ops := #[]) rfl ?_
                  refine x_append hf rfl Try.ap76 rfl rfl rfl (.inl rfl) (by rw [List.length_map]) rfl (by first | rfl | simp [asrc, look]) (by first | (simp only [maxLen, List.length_map, List.length_append, List.length_cons, List.length_nil]; omega) | (simp [maxLen] <;> omega)) (by first | (simp only [List.length_map, List.length_append, List.length_cons, List.length_nil]; omega) | (simp <;> omega)) ?_
                  refine aops_le (le_of (sl' := [(0, _), (2, _), (4, _), (7, _), (9, _), (10, _), (11, _), (45, _), (46, _), (47, _), (120, _), (125, _)]) ⟨rfl, rfl, rfl, rfl, rfl, rfl, rfl, rfl, rfl, rfl, rfl, rfl, trivial⟩) ?_
                  refine aops_any ?_
                  refine aany_le ?_ hj
                  exact le_mem ⟨rfl, rfl, rfl, rfl, rfl, rfl, rfl, rfl, rfl, rfl, trivial⟩ (by intro g; first | rfl | exact look_swap (by decide))
           refine aany_step 9 [] (by kernel_rfl) ⟨?_, trivial⟩
           ·
            refine ⟨_, rfl, rfl, ?_⟩
            refine aop_of_aops (ops := #[]) rfl ?_
            refine x_pure rfl (p_assign rfl) ?_
            refine aops_any ?_
            refine aany_step 10 [] (by kernel_rfl) ⟨?_, trivial⟩
            ·
             refine ⟨_, rfl, rfl, ?_⟩
             refine aop_of_aops (ops := #[]) rfl ?_
             refine x_pure rfl (p_assign rfl) ?_
             refine aops_any ?_
             refine aany_end (by kernel_rfl) ?_
             refine hK16 _ ?_
             refine aw_region ?_
             first | refine x_pure rfl (p_add rfl rfl (by omega) (by omega)) ?_ | refine x_pure rfl (p_bin rfl rfl rfl) ?_
             refine x_pure rfl (p_move rfl) ?_
             first | refine aops_end ?_ | refine aops_nil ?_
             exact ⟨((k + 1, 1 + ((k % 4 : Nat) : Int)), (times[k], (ys ++ [((a, times[k]), (e.1.1, s0))], zs ++ [(a, times[k])]))), hC.next (by omega) (by omega), by simp only; omega, le_to ⟨(by first | rfl | (rw [if_pos (by omega)]; rfl) | (rw [if_pos (by omega)]; done) | (rw [if_neg (by omega)]; rfl) | (rw [if_neg (by omega)]; done) | (rw [List.length_append]; rfl) | (rw [List.length_append]; done) | exact slot_int (by omega)), (by first | rfl | (rw [if_pos (by omega)]; rfl) | (rw [if_pos (by omega)]; done) | (rw [if_neg (by omega)]; rfl) | (rw [if_neg (by omega)]; done) | (rw [List.length_append]; rfl) | (rw [List.length_append]; done) | exact slot_int (by omega)), (by first | rfl | (rw [if_pos (by omega)]; rfl) | (rw [if_pos (by omega)]; done) | (rw [if_neg (by omega)]; rfl) | (rw [if_neg (by omega)]; done) | (rw [List.length_append]; rfl) | (rw [List.length_append]; done) | exact slot_int (by omega)), (by first | rfl | (rw [if_pos (by omega)]; rfl) | (rw [if_pos (by omega)]; done) | (rw [if_neg (by omega)]; rfl) | (rw [if_neg (by omega)]; done) | (rw [List.length_append]; rfl) | (rw [List.length_append]; done) | exact slot_int (by omega)), (by first | rfl | (rw [if_pos (by omega)]; rfl) | (rw [if_pos (by omega)]; done) | (rw [if_neg (by omega)]; rfl) | (rw [if_neg (by omega)]; done) | (rw [List.length_append]; rfl) | (rw [List.length_append]; done) | exact slot_int (by omega)), (by first | rfl | (rw [if_pos (by omega)]; rfl) | (rw [if_pos (by omega)]; done) | (rw [if_neg (by omega)]; rfl) | (rw [if_neg (by omega)]; done) | (rw [List.length_append]; rfl) | (rw [List.length_append]; done) | exact slot_int (by omega)), (by first | rfl | (rw [if_pos (by omega)]; rfl) | (rw [if_pos (by omega)]; done) | (rw [if_neg (by omega)]; rfl) | (rw [if_neg (by omega)]; done) | (rw [List.length_append]; rfl) | (rw [List.length_append]; done) | exact slot_int (by omega)), (by first | rfl | (rw [if_pos (by omega)]; rfl) | (rw [if_pos (by omega)]; done) | (rw [if_neg (by omega)]; rfl) | (rw [if_neg (by omega)]; done) | (rw [List.length_append]; rfl) | (rw [List.length_append]; done) | exact slot_int (by omega)), (by first | rfl | (rw [if_pos (by omega)]; rfl) | (rw [if_pos (by omega)]; done) | (rw [if_neg (by omega)]; rfl) | (rw [if_neg (by omega)]; done) | (rw [List.length_append]; rfl) | (rw [List.length_append]; done) | exact slot_int (by omega)), (by first | rfl | (rw [if_pos (by omega)]; rfl) | (rw [if_pos (by omega)]; done) | (rw [if_neg (by omega)]; rfl) | (rw [if_neg (by omega)]; done) | (rw [List.length_append]; rfl) | (rw [List.length_append]; done) | exact slot_int (by omega)), trivial⟩ (by rw [List.map_append, List.map_append]; rfl)⟩
        ·
         try simp only [bs, ints_len] at hc7
         refine aw_region ?_
         refine x_pure rfl (p_move rfl) ?_
         first | refine x_pure rfl (p_fld_adr rfl Try.fd24_0 Try.c3 rfl) ?_ | refine x_pure rfl (p_fld_ref rfl Try.fd24_0 Try.c3 rfl) ?_
         first | refine x_pure rfl (p_load1 rfl Try.g3 rfl) ?_ | refine x_pure rfl (p_load1r rfl Try.g3 rfl rfl) ?_ | refine x_pure rfl (p_load1r rfl Try.g3 rfl (strs_ref (by simp only [List.length_cons] at *; omega))) ?_ | refine x_pure rfl (p_load1r rfl Try.g3 rfl (strs_ref (by omega))) ?_
         first | refine x_pure rfl (p_fld_adr rfl Try.fd24_1 Try.c9 rfl) ?_ | refine x_pure rfl (p_fld_ref rfl Try.fd24_1 Try.c9 rfl) ?_
         first | refine x_pure rfl (p_load1 rfl Try.g9 rfl) ?_ | refine x_pure rfl (p_load1r rfl Try.g9 rfl rfl) ?_ | refine x_pure rfl (p_load1r rfl Try.g9 rfl (strs_ref (by simp only [List.length_cons] at *; omega))) ?_ | refine x_pure rfl (p_load1r rfl Try.g9 rfl (strs_ref (by omega))) ?_
         refine x_pure rfl (p_move rfl) ?_
         refine x_step hf rfl (r_call rfl rfl Try.ent23 rfl (wholeClose_den l e s0 a times[k] hnn (by omega))) ?_
         refine x_pure rfl (p_move rfl) ?_
         refine x_pure rfl (p_extract rfl rfl) ?_
         refine x_pure rfl (p_extract rfl rfl) ?_
         refine x_pure rfl (p_extract rfl rfl) ?_
         refine x_pure rfl (p_assign rfl) ?_
         refine x_store hf rfl rfl Try.c44 rfl rfl (by simp [seC, stC, spC, ints, AV.cells, AV.one, Value.oneCell', splice, AV.kill, AV.clean, cleanL, AV.only]) (by simp [seC, stC, spC, ints, AV.cells, AV.leaf, Value.oneCell', splice, AV.kill, AV.clean, cleanL, AV.only]) rfl ?_
         refine x_pure rfl (p_assign rfl) ?_
         first | refine aops_end ?_ | refine aops_nil ?_
         refine hK23 _ ?_
         refine aw_seq_k (fun K34 hK34 => ?_)
         refine aw_seq_k (fun K35 hK35 => ?_)
         refine aw_region ?_
         refine aops_le (le_keep (nee 14) (sl' := [(0, .sl 4 (l.map seC)), (2, .sl 1 (ints times)), (4, .adr (seC e)), (7, .sl 4 ((if k + 1 < times.length then opnL l (e.1, (1 + ((k % 4 : Nat) : Int), times[k])) else l).map seC)), (9, .own 9 4 0 ys.length), (10, .own 10 2 0 zs.length), (11, .s (.int .i64 times[k])), (13, .s (.int .i64 times[k])), (8, .s (.int .i64 0)), (14, .adr (stC ((a, times[k]), (e.1.1, s0)))), (45, .sl 1 (ints times)), (46, .s (.int .i64 ((ints times).length : Nat))), (47, .s (.int .i64 (k : Nat)))]) (m' := [(10, .buf 2 (zs.map spC)), (9, .buf 4 (ys.map stC))]) ⟨⟨_, rfl, rfl⟩, ⟨_, rfl, rfl⟩, ⟨_, rfl, rfl⟩, ⟨_, rfl, (by show AV.sl 4 _ = AV.sl 4 _; first | rw [if_pos (by omega)] | rw [if_neg (by omega)])⟩, ⟨_, rfl, rfl⟩, ⟨_, rfl, rfl⟩, ⟨_, rfl, rfl⟩, ⟨_, rfl, rfl⟩, ⟨_, rfl, rfl⟩, ⟨_, rfl, rfl⟩, ⟨_, rfl, rfl⟩, ⟨_, rfl, rfl⟩, ⟨_, rfl, rfl⟩, trivial⟩ rfl) ?_
         refine x_pure rfl (p_move rfl) ?_
         refine x_pure rfl (p_bin rfl rfl rfl) ?_
         refine x_pure rfl (p_move rfl) ?_
         refine x_guard_t rfl rfl rfl ?_
         first | refine x_pure rfl (p_fld_adr rfl Try.fd44_1 Try.c3 rfl) ?_ | refine x_pure rfl (p_fld_ref rfl Try.fd44_1 Try.c3 rfl) ?_
         refine x_guard_t rfl rfl rfl ?_
         first | refine x_pure rfl (p_load1 rfl Try.g3 rfl) ?_ | refine x_pure rfl (p_load1r rfl Try.g3 rfl rfl) ?_ | refine x_pure rfl (p_load1r rfl Try.g3 rfl (strs_ref (by simp only [List.length_cons] at *; omega))) ?_ | refine x_pure rfl (p_load1r rfl Try.g3 rfl (strs_ref (by omega))) ?_
         refine x_guard_t rfl rfl rfl ?_
         first | refine x_pure rfl (p_fld_adr rfl Try.fd24_0 Try.c3 rfl) ?_ | refine x_pure rfl (p_fld_ref rfl Try.fd24_0 Try.c3 rfl) ?_
         refine x_guard_t rfl rfl rfl ?_
         first | refine x_pure rfl (p_load1 rfl Try.g3 rfl) ?_ | refine x_pure rfl (p_load1r rfl Try.g3 rfl rfl) ?_ | refine x_pure rfl (p_load1r rfl Try.g3 rfl (strs_ref (by simp only [List.length_cons] at *; omega))) ?_ | refine x_pure rfl (p_load1r rfl Try.g3 rfl (strs_ref (by omega))) ?_
         refine x_guard_t rfl rfl rfl ?_
         refine x_pure rfl (p_bin rfl rfl (neint_f rfl)) ?_
         refine x_pure rfl (p_pick_f rfl rfl) ?_
         refine x_pure rfl (p_move rfl) ?_
         refine x_guard_t rfl rfl rfl ?_
         first | refine x_pure rfl (p_fld_adr rfl Try.fd44_0 Try.c42 rfl) ?_ | refine x_pure rfl (p_fld_ref rfl Try.fd44_0 Try.c42 rfl) ?_
         refine x_guard_t rfl rfl rfl ?_
         first | refine x_pure rfl (p_fld_adr rfl Try.fd42_1 Try.c3 rfl) ?_ | refine x_pure rfl (p_fld_ref rfl Try.fd42_1 Try.c3 rfl) ?_
         refine x_guard_t rfl rfl rfl ?_
         first | refine x_pure rfl (p_load1 rfl Try.g3 rfl) ?_ | refine x_pure rfl (p_load1r rfl Try.g3 rfl rfl) ?_ | refine x_pure rfl (p_load1r rfl Try.g3 rfl (strs_ref (by simp only [List.length_cons] at *; omega))) ?_ | refine x_pure rfl (p_load1r rfl Try.g3 rfl (strs_ref (by omega))) ?_
         refine x_guard_t rfl rfl rfl ?_
         refine x_pure rfl (p_move rfl) ?_
         refine x_guard_t rfl rfl rfl ?_
         refine x_pure rfl (p_bin rfl rfl (neint_f rfl)) ?_
         refine x_pure rfl (p_pick_f rfl rfl) ?_
         first | refine aops_end ?_ | refine aops_nil ?_
         refine hK35 _ ?_
         refine aw_cond_f rfl ?_
         refine aw_skip ?_
         refine hK34 _ ?_
         refine aw_seq_k (fun K36 hK36 => ?_)
         refine aw_seq_k (fun K37 hK37 => ?_)
         refine aw_region ?_
         refine x_pure rfl (p_move rfl) ?_
         first | refine x_pure rfl (p_len_sl rfl Try.e63) ?_ | refine x_pure rfl (p_len_own rfl Try.e63) ?_ | refine x_pure rfl (p_len_nil rfl Try.e63) ?_
         refine x_pure rfl (p_move rfl) ?_
         first | refine aops_end ?_ | refine aops_nil ?_
         refine hK37 _ ?_
         refine aw_block ?_
         refine aw_loop (ι := Nat) (fun j => ⟨163, [(0, .sl 4 (l.map seC)), (2, .sl 1 (ints times)), (4, .adr (seC e)), (7, .sl 4 ((if k + 1 < times.length then opnL l (e.1, (1 + ((k % 4 : Nat) : Int), times[k])) else l).map seC)), (9, .own 9 4 0 ys.length), (10, .own 10 2 0 zs.length), (11, .s (.int .i64 times[k])), (14, .adr (stC ((a, times[k]), (e.1.1, s0)))), (45, .sl 1 (ints times)), (46, .s (.int .i64 ((ints times).length : Nat))), (47, .s (.int .i64 (k : Nat))), (103, .own 9 4 0 ys.length), (104, .s (.int .i64 (ys.length : Nat))), (105, .s (.int .i64 (j : Nat)))], [(10, .buf 2 (zs.map spC)), (9, .buf 4 (ys.map stC))]⟩) (fun j => j ≤ ys.length) (fun j => ys.length - j) 0 ?_ ?_ ?_
         · exact Nat.zero_le _
         · exact le_of ⟨rfl, rfl, rfl, rfl, rfl, rfl, rfl, rfl, rfl, rfl, rfl, rfl, rfl, rfl, trivial⟩
         ·
          rintro j hC
          have hj := hC
          clear hC
          refine aw_seq_k (fun K38 hK38 => ?_)
          refine aw_region ?_
          refine x_pure rfl (p_bin rfl rfl rfl) ?_
          first | refine aops_end ?_ | refine aops_nil ?_
          refine hK38 _ ?_
          refine aw_seq_k (fun K39 hK39 => ?_)
          refine aw_cond_s rfl (fun hc12 => ?_) (fun hc12 => ?_)
          ·
           try simp only [bs, ints_len] at hc12
           refine aw_skip ?_
           refine hK39 _ ?_
           refine aw_seq_k (fun K40 hK40 => ?_)
           refine aw_block ?_
           refine aw_seq_k (fun K41 hK41 => ?_)
           refine aw_region ?_
           have hj2 : j < ys.length := by omega
           first | refine x_pure rfl (p_idx_sl rfl rfl Try.e63 Try.c44 (by first | assumption | (refine ⟨by omega, ?_⟩; first | assumption | exact strs_at (by omega) | exact strs_at (by simp only [List.length_cons] at *; omega) | exact ints_at (by omega) | exact map_at (by omega) | exact list_at (by omega)) | exact ⟨by decide, rfl⟩)) ?_ | refine x_pure rfl (p_idx_own rfl rfl Try.e63 Try.c44 (by omega)) ?_
           refine x_pure rfl (p_loadsr rfl Try.g44 Try.c44 rfl (own_ble (by omega) hj2 rfl) (own_take (by omega) hj2 rfl)) ?_
           refine x_allocst hf rfl Try.z44 rfl Try.c44 rfl rfl rfl rfl (by simp [seC, stC, spC, ints, AV.cells, AV.leaf, Value.oneCell', splice, AV.kill, AV.clean, cleanL, AV.only]) ?_
           first | refine aops_end ?_ | refine aops_nil ?_
           refine hK41 _ ?_
           refine aw_seq_k (fun K42 hK42 => ?_)
           refine aw_region ?_
           first | refine x_pure rfl (p_fld_adr rfl Try.fd44_0 Try.c42 rfl) ?_ | refine x_pure rfl (p_fld_ref rfl Try.fd44_0 Try.c42 rfl) ?_
           first | refine x_pure rfl (p_loads rfl Try.g42 Try.c42 rfl rfl) ?_ | refine x_pure rfl (p_loadsr rfl Try.g42 Try.c42 rfl rfl rfl) ?_
           first | refine x_pure rfl (p_fld_adr rfl Try.fd44_0 Try.c42 rfl) ?_ | refine x_pure rfl (p_fld_ref rfl Try.fd44_0 Try.c42 rfl) ?_
           first | refine x_pure rfl (p_loads rfl Try.g42 Try.c42 rfl rfl) ?_ | refine x_pure rfl (p_loadsr rfl Try.g42 Try.c42 rfl rfl rfl) ?_
           refine x_step hf rfl (r_call rfl rfl Try.ent36 rfl (meet1_den ys[j].1 (a, times[k]))) ?_
           refine x_step hf rfl (r_call rfl rfl Try.ent35 rfl (den_is (none_den (meet1 ys[j].1 (a, times[k]))) (congrArg (fun z => AV.s (.bool z)) (whole_none (hC.ends ys[j] (List.getElem_mem hj2)))))) ?_
           refine x_pure rfl (p_not rfl) ?_
           first | refine aops_end ?_ | refine aops_nil ?_
           refine hK42 _ ?_
           refine aw_cond_f rfl ?_
           refine aw_skip ?_
           refine hK40 _ ?_
           refine aw_region ?_
           first | refine x_pure rfl (p_add rfl rfl (by omega) (by omega)) ?_ | refine x_pure rfl (p_bin rfl rfl rfl) ?_
           refine x_pure rfl (p_move rfl) ?_
           first | refine aops_end ?_ | refine aops_nil ?_
           exact ⟨j + 1, (by omega), by omega, le_of ⟨rfl, rfl, rfl, rfl, rfl, rfl, rfl, rfl, rfl, rfl, rfl, rfl, rfl, rfl, trivial⟩⟩
          ·
           try simp only [bs, ints_len] at hc12
           refine aw_exit ?_
           refine hK36 _ ?_
           refine aw_region_any Try.mixed ?_
           refine af_step (listed' := #[true, false, false, false, false, false, false, false, false, false, false]) 0 rfl (by kernel_rfl) (by kernel_rfl) (by kernel_rfl) rfl (fun _ _ h => h) (w_move rfl) ?_
           refine af_step (listed' := #[true, false, false, false, true, false, false, false, false, false, false]) 4 rfl (by kernel_rfl) (by kernel_rfl) (by kernel_rfl) rfl (fun _ _ h => h) (w_move rfl) ?_
           first | refine af_step (listed' := #[true, false, false, false, true, true, false, false, false, false, false]) 5 rfl (by kernel_rfl) (by kernel_rfl) (by kernel_rfl) rfl (fun _ _ h => h) (w_fld_adr rfl Try.fd44_0 Try.c42 rfl) ?_ | refine af_step (listed' := #[true, false, false, false, true, true, false, false, false, false, false]) 5 rfl (by kernel_rfl) (by kernel_rfl) (by kernel_rfl) rfl (fun _ _ h => h) (w_fld_ref rfl Try.fd44_0 Try.c42 rfl) ?_
           refine aany_le (le_of (sl' := [(0, _), (2, _), (4, _), (7, _), (9, _), (10, _), (11, _), (14, _), (45, _), (46, _), (47, _), (117, _), (121, _), (122, _)]) ⟨rfl, rfl, rfl, rfl, rfl, rfl, rfl, rfl, rfl, rfl, rfl, rfl, rfl, rfl, trivial⟩) ?_
           suffices hj : AAny _ _ _ _ _ 2 #[true, true, true, true, true, true, true, true, true, false, false] ⟨163, [(0, .sl 4 (l.map seC)), (2, .sl 1 (ints times)), (4, .adr (seC e)), (7, .sl 4 ((if k + 1 < times.length then opnL l (e.1, (1 + ((k % 4 : Nat) : Int), times[k])) else l).map seC)), (11, .s (.int .i64 times[k])), (45, .sl 1 (ints times)), (46, .s (.int .i64 ((ints times).length : Nat))), (47, .s (.int .i64 (k : Nat))), (120, .own 9 4 0 (ys.length + 1)), (125, .own 10 2 0 (zs.length + 1))], [(10, .buf 2 (zs.map spC ++ [spC (a, times[k])])), (9, .buf 4 (ys.map stC ++ [stC ((a, times[k]), (e.1.1, s0))]))]⟩ by
            refine aany_step 1 [6] (by kernel_rfl) ⟨?_, ?_, trivial⟩
            ·
             refine ⟨_, rfl, rfl, ?_⟩
             refine aop_of_aops (ops := #[]) rfl ?_
             first | refine x_pure rfl (p_loads rfl Try.g44 Try.c44 rfl rfl) ?_ | refine x_pure rfl (p_loadsr rfl Try.g44 Try.c44 rfl rfl rfl) ?_
             refine aops_any ?_
             refine aany_step 2 [6] (by kernel_rfl) ⟨?_, ?_, trivial⟩
             ·
              refine ⟨_, rfl, rfl, ?_⟩
              refine aop_of_aops (ops := #[]) rfl ?_
              refine x_step hf rfl (r_buildSlice Try.ap63 rfl rfl rfl rfl (by simp [seC, stC, spC, ints, AV.cells, AV.leaf, Value.oneCell', splice, AV.kill, AV.clean, cleanL, AV.only])) ?_
              refine aops_any ?_
              refine aany_step 3 [6] (by kernel_rfl) ⟨?_, ?_, trivial⟩
              ·
               refine ⟨_, rfl, rfl, ?_⟩
               refine aop_of_aops (ops := #[]) rfl ?_
               refine x_append hf rfl Try.ap63 rfl rfl rfl (.inl rfl) (by rw [List.length_map]) rfl (by first | rfl | simp [asrc, look]) (by first | (simp only [maxLen, List.length_map, List.length_append, List.length_cons, List.length_nil]; omega) | (simp [maxLen] <;> omega)) (by first | (simp only [List.length_map, List.length_append, List.length_cons, List.length_nil]; omega) | (simp <;> omega)) ?_
               refine aops_le (le_of (sl' := [(0, _), (2, _), (4, _), (7, _), (9, _), (10, _), (11, _), (45, _), (46, _), (47, _), (120, _), (121, _), (122, _)]) ⟨rfl, rfl, rfl, rfl, rfl, rfl, rfl, rfl, rfl, rfl, rfl, rfl, rfl, trivial⟩) ?_
               refine aops_any ?_
               refine aany_step 6 [] (by kernel_rfl) ⟨?_, trivial⟩
               ·
                refine ⟨_, rfl, rfl, ?_⟩
                refine aop_of_aops (ops := #[]) rfl ?_
                first | refine x_pure rfl (p_loads rfl Try.g42 Try.c42 rfl rfl) ?_ | refine x_pure rfl (p_loadsr rfl Try.g42 Try.c42 rfl rfl rfl) ?_
                refine aops_any ?_
                refine aany_step 7 [] (by kernel_rfl) ⟨?_, trivial⟩
                ·
                 refine ⟨_, rfl, rfl, ?_⟩
                 refine aop_of_aops (ops := #[]) rfl ?_
                 refine x_step hf rfl (r_buildSlice Try.ap76 rfl rfl rfl rfl (by simp [seC, stC, spC, ints, AV.cells, AV.leaf, Value.oneCell', splice, AV.kill, AV.clean, cleanL, AV.only])) ?_
                 refine aops_any ?_
                 refine aany_step 8 [] (by kernel_rfl) ⟨?_, trivial⟩
                 ·
                  refine ⟨_, rfl, rfl, ?_⟩
                  refine aop_of_aops (ops := #[]) rfl ?_
                  refine x_append hf rfl Try.ap76 rfl rfl rfl (.inl rfl) (by rw [List.length_map]) rfl (by first | rfl | simp [asrc, look]) (by first | (simp only [maxLen, List.length_map, List.length_append, List.length_cons, List.length_nil]; omega) | (simp [maxLen] <;> omega)) (by first | (simp only [List.length_map, List.length_append, List.length_cons, List.length_nil]; omega) | (simp <;> omega)) ?_
                  refine aops_le (le_of (sl' := [(0, _), (2, _), (4, _), (7, _), (9, _), (10, _), (11, _), (45, _), (46, _), (47, _), (120, _), (125, _)]) ⟨rfl, rfl, rfl, rfl, rfl, rfl, rfl, rfl, rfl, rfl, rfl, rfl, trivial⟩) ?_
                  refine aops_any ?_
                  refine aany_le ?_ hj
                  exact le_mem ⟨rfl, rfl, rfl, rfl, rfl, rfl, rfl, rfl, rfl, rfl, trivial⟩ (by intro g; first | rfl | exact look_swap (by decide))
              ·
               refine ⟨_, rfl, rfl, ?_⟩
               refine aop_of_aops (ops := #[]) rfl ?_
               first | refine x_pure rfl (p_loads rfl Try.g42 Try.c42 rfl rfl) ?_ | refine x_pure rfl (p_loadsr rfl Try.g42 Try.c42 rfl rfl rfl) ?_
               refine aops_any ?_
               refine aany_step 3 [7] (by kernel_rfl) ⟨?_, ?_, trivial⟩
               ·
                refine ⟨_, rfl, rfl, ?_⟩
                refine aop_of_aops (ops := #[]) rfl ?_
                refine x_append hf rfl Try.ap63 rfl rfl rfl (.inl rfl) (by rw [List.length_map]) rfl (by first | rfl | simp [asrc, look]) (by first | (simp only [maxLen, List.length_map, List.length_append, List.length_cons, List.length_nil]; omega) | (simp [maxLen] <;> omega)) (by first | (simp only [List.length_map, List.length_append, List.length_cons, List.length_nil]; omega) | (simp <;> omega)) ?_
                refine aops_le (le_of (sl' := [(0, _), (2, _), (4, _), (7, _), (9, _), (10, _), (11, _), (45, _), (46, _), (47, _), (120, _), (121, _), (123, _)]) ⟨rfl, rfl, rfl, rfl, rfl, rfl, rfl, rfl, rfl, rfl, rfl, rfl, rfl, trivial⟩) ?_
                refine aops_any ?_
                refine aany_step 7 [] (by kernel_rfl) ⟨?_, trivial⟩
                ·
                 refine ⟨_, rfl, rfl, ?_⟩
                 refine aop_of_aops (ops := #[]) rfl ?_
                 refine x_step hf rfl (r_buildSlice Try.ap76 rfl rfl rfl rfl (by simp [seC, stC, spC, ints, AV.cells, AV.leaf, Value.oneCell', splice, AV.kill, AV.clean, cleanL, AV.only])) ?_
                 refine aops_any ?_
                 refine aany_step 8 [] (by kernel_rfl) ⟨?_, trivial⟩
                 ·
                  refine ⟨_, rfl, rfl, ?_⟩
                  refine aop_of_aops (ops := #[]) rfl ?_
                  refine x_append hf rfl Try.ap76 rfl rfl rfl (.inl rfl) (by rw [List.length_map]) rfl (by first | rfl | simp [asrc, look]) (by first | (simp only [maxLen, List.length_map, List.length_append, List.length_cons, List.length_nil]; omega) | (simp [maxLen] <;> omega)) (by first | (simp only [List.length_map, List.length_append, List.length_cons, List.length_nil]; omega) | (simp <;> omega)) ?_
                  refine aops_le (le_of (sl' := [(0, _), (2, _), (4, _), (7, _), (9, _), (10, _), (11, _), (45, _), (46, _), (47, _), (120, _), (125, _)]) ⟨rfl, rfl, rfl, rfl, rfl, rfl, rfl, rfl, rfl, rfl, rfl, rfl, trivial⟩) ?_
                  refine aops_any ?_
                  refine aany_le ?_ hj
                  exact le_mem ⟨rfl, rfl, rfl, rfl, rfl, rfl, rfl, rfl, rfl, rfl, trivial⟩ (by intro g; first | rfl | exact look_swap (by decide))
               ·
                refine ⟨_, rfl, rfl, ?_⟩
                refine aop_of_aops (ops := #[]) rfl ?_
                refine x_step hf rfl (r_buildSlice Try.ap76 rfl rfl rfl rfl (by simp [seC, stC, spC, ints, AV.cells, AV.leaf, Value.oneCell', splice, AV.kill, AV.clean, cleanL, AV.only])) ?_
                refine aops_any ?_
                refine aany_step 3 [] (by kernel_rfl) ⟨?_, trivial⟩
                ·
                 refine ⟨_, rfl, rfl, ?_⟩
                 refine aop_of_aops (ops := #[]) rfl ?_
                 refine x_append hf rfl Try.ap63 rfl rfl rfl (.inl rfl) (by rw [List.length_map]) rfl (by first | rfl | simp [asrc, look]) (by first | (simp only [maxLen, List.length_map, List.length_append, List.length_cons, List.length_nil]; omega) | (simp [maxLen] <;> omega)) (by first | (simp only [List.length_map, List.length_append, List.length_cons, List.length_nil]; omega) | (simp <;> omega)) ?_
                 refine aops_le (le_of (sl' := [(0, _), (2, _), (4, _), (7, _), (9, _), (10, _), (11, _), (45, _), (46, _), (47, _), (120, _), (121, _), (124, _)]) ⟨rfl, rfl, rfl, rfl, rfl, rfl, rfl, rfl, rfl, rfl, rfl, rfl, rfl, trivial⟩) ?_
                 refine aops_any ?_
                 refine aany_step 8 [] (by kernel_rfl) ⟨?_, trivial⟩
                 ·
                  refine ⟨_, rfl, rfl, ?_⟩
                  refine aop_of_aops (ops := #[]) rfl ?_
                  refine x_append hf rfl Try.ap76 rfl rfl rfl (.inl rfl) (by rw [List.length_map]) rfl (by first | rfl | simp [asrc, look]) (by first | (simp only [maxLen, List.length_map, List.length_append, List.length_cons, List.length_nil]; omega) | (simp [maxLen] <;> omega)) (by first | (simp only [List.length_map, List.length_append, List.length_cons, List.length_nil]; omega) | (simp <;> omega)) ?_
                  refine aops_le (le_of (sl' := [(0, _), (2, _), (4, _), (7, _), (9, _), (10, _), (11, _), (45, _), (46, _), (47, _), (120, _), (125, _)]) ⟨rfl, rfl, rfl, rfl, rfl, rfl, rfl, rfl, rfl, rfl, rfl, rfl, trivial⟩) ?_
                  refine aops_any ?_
                  refine aany_le ?_ hj
                  exact le_mem ⟨rfl, rfl, rfl, rfl, rfl, rfl, rfl, rfl, rfl, rfl, trivial⟩ (by intro g; first | rfl | exact look_swap (by decide))
             ·
              refine ⟨_, rfl, rfl, ?_⟩
              refine aop_of_aops (ops := #[]) rfl ?_
              first | refine x_pure rfl (p_loads rfl Try.g42 Try.c42 rfl rfl) ?_ | refine x_pure rfl (p_loadsr rfl Try.g42 Try.c42 rfl rfl rfl) ?_
              refine aops_any ?_
              refine aany_step 2 [7] (by kernel_rfl) ⟨?_, ?_, trivial⟩
              ·
               refine ⟨_, rfl, rfl, ?_⟩
               refine aop_of_aops (ops := #[]) rfl ?_
               refine x_step hf rfl (r_buildSlice Try.ap63 rfl rfl rfl rfl (by simp [seC, stC, spC, ints, AV.cells, AV.leaf, Value.oneCell', splice, AV.kill, AV.clean, cleanL, AV.only])) ?_
               refine aops_any ?_
               refine aany_step 3 [7] (by kernel_rfl) ⟨?_, ?_, trivial⟩
               ·
                refine ⟨_, rfl, rfl, ?_⟩
                refine aop_of_aops (ops := #[]) rfl ?_
                refine x_append hf rfl Try.ap63 rfl rfl rfl (.inl rfl) (by rw [List.length_map]) rfl (by first | rfl | simp [asrc, look]) (by first | (simp only [maxLen, List.length_map, List.length_append, List.length_cons, List.length_nil]; omega) | (simp [maxLen] <;> omega)) (by first | (simp only [List.length_map, List.length_append, List.length_cons, List.length_nil]; omega) | (simp <;> omega)) ?_
                refine aops_le (le_of (sl' := [(0, _), (2, _), (4, _), (7, _), (9, _), (10, _), (11, _), (45, _), (46, _), (47, _), (120, _), (121, _), (123, _)]) ⟨rfl, rfl, rfl, rfl, rfl, rfl, rfl, rfl, rfl, rfl, rfl, rfl, rfl, trivial⟩) ?_
                refine aops_any ?_
                refine aany_step 7 [] (by kernel_rfl) ⟨?_, trivial⟩
                ·
                 refine ⟨_, rfl, rfl, ?_⟩
                 refine aop_of_aops (ops := #[]) rfl ?_
                 refine x_step hf rfl (r_buildSlice Try.ap76 rfl rfl rfl rfl (by simp [seC, stC, spC, ints, AV.cells, AV.leaf, Value.oneCell', splice, AV.kill, AV.clean, cleanL, AV.only])) ?_
                 refine aops_any ?_
                 refine aany_step 8 [] (by kernel_rfl) ⟨?_, trivial⟩
                 ·
                  refine ⟨_, rfl, rfl, ?_⟩
                  refine aop_of_aops (ops := #[]) rfl ?_
                  refine x_append hf rfl Try.ap76 rfl rfl rfl (.inl rfl) (by rw [List.length_map]) rfl (by first | rfl | simp [asrc, look]) (by first | (simp only [maxLen, List.length_map, List.length_append, List.length_cons, List.length_nil]; omega) | (simp [maxLen] <;> omega)) (by first | (simp only [List.length_map, List.length_append, List.length_cons, List.length_nil]; omega) | (simp <;> omega)) ?_
                  refine aops_le (le_of (sl' := [(0, _), (2, _), (4, _), (7, _), (9, _), (10, _), (11, _), (45, _), (46, _), (47, _), (120, _), (125, _)]) ⟨rfl, rfl, rfl, rfl, rfl, rfl, rfl, rfl, rfl, rfl, rfl, rfl, trivial⟩) ?_
                  refine aops_any ?_
                  refine aany_le ?_ hj
                  exact le_mem ⟨rfl, rfl, rfl, rfl, rfl, rfl, rfl, rfl, rfl, rfl, trivial⟩ (by intro g; first | rfl | exact look_swap (by decide))
               ·
                refine ⟨_, rfl, rfl, ?_⟩
                refine aop_of_aops (ops := #[]) rfl ?_
                refine x_step hf rfl (r_buildSlice Try.ap76 rfl rfl rfl rfl (by simp [seC, stC, spC, ints, AV.cells, AV.leaf, Value.oneCell', splice, AV.kill, AV.clean, cleanL, AV.only])) ?_
                refine aops_any ?_
                refine aany_step 3 [] (by kernel_rfl) ⟨?_, trivial⟩
                ·
                 refine ⟨_, rfl, rfl, ?_⟩
                 refine aop_of_aops (ops := #[]) rfl ?_
                 refine x_append hf rfl Try.ap63 rfl rfl rfl (.inl rfl) (by rw [List.length_map]) rfl (by first | rfl | simp [asrc, look]) (by first | (simp only [maxLen, List.length_map, List.length_append, List.length_cons, List.length_nil]; omega) | (simp [maxLen] <;> omega)) (by first | (simp only [List.length_map, List.length_append, List.length_cons, List.length_nil]; omega) | (simp <;> omega)) ?_
                 refine aops_le (le_of (sl' := [(0, _), (2, _), (4, _), (7, _), (9, _), (10, _), (11, _), (45, _), (46, _), (47, _), (120, _), (121, _), (124, _)]) ⟨rfl, rfl, rfl, rfl, rfl, rfl, rfl, rfl, rfl, rfl, rfl, rfl, rfl, trivial⟩) ?_
                 refine aops_any ?_
                 refine aany_step 8 [] (by kernel_rfl) ⟨?_, trivial⟩
                 ·
                  refine ⟨_, rfl, rfl, ?_⟩
                  refine aop_of_aops (ops := #[]) rfl ?_
                  refine x_append hf rfl Try.ap76 rfl rfl rfl (.inl rfl) (by rw [List.length_map]) rfl (by first | rfl | simp [asrc, look]) (by first | (simp only [maxLen, List.length_map, List.length_append, List.length_cons, List.length_nil]; omega) | (simp [maxLen] <;> omega)) (by first | (simp only [List.length_map, List.length_append, List.length_cons, List.length_nil]; omega) | (simp <;> omega)) ?_
                  refine aops_le (le_of (sl' := [(0, _), (2, _), (4, _), (7, _), (9, _), (10, _), (11, _), (45, _), (46, _), (47, _), (120, _), (125, _)]) ⟨rfl, rfl, rfl, rfl, rfl, rfl, rfl, rfl, rfl, rfl, rfl, rfl, trivial⟩) ?_
                  refine aops_any ?_
                  refine aany_le ?_ hj
                  exact le_mem ⟨rfl, rfl, rfl, rfl, rfl, rfl, rfl, rfl, rfl, rfl, trivial⟩ (by intro g; first | rfl | exact look_swap (by decide))
              ·
               refine ⟨_, rfl, rfl, ?_⟩
               refine aop_of_aops (ops := #[]) rfl ?_
               refine x_step hf rfl (r_buildSlice Try.ap76 rfl rfl rfl rfl (by simp [seC, stC, spC, ints, AV.cells, AV.leaf, Value.oneCell', splice, AV.kill, AV.clean, cleanL, AV.only])) ?_
               refine aops_any ?_
               refine aany_step 2 [] (by kernel_rfl) ⟨?_, trivial⟩
               ·
                refine ⟨_, rfl, rfl, ?_⟩
                refine aop_of_aops (ops := #[]) rfl ?_
                refine x_step hf rfl (r_buildSlice Try.ap63 rfl rfl rfl rfl (by simp [seC, stC, spC, ints, AV.cells, AV.leaf, Value.oneCell', splice, AV.kill, AV.clean, cleanL, AV.only])) ?_
                refine aops_any ?_
                refine aany_step 3 [] (by kernel_rfl) ⟨?_, trivial⟩
                ·
                 refine ⟨_, rfl, rfl, ?_⟩
                 refine aop_of_aops (ops := #[]) rfl ?_
                 refine x_append hf rfl Try.ap63 rfl rfl rfl (.inl rfl) (by rw [List.length_map]) rfl (by first | rfl | simp [asrc, look]) (by first | (simp only [maxLen, List.length_map, List.length_append, List.length_cons, List.length_nil]; omega) | (simp [maxLen] <;> omega)) (by first | (simp only [List.length_map, List.length_append, List.length_cons, List.length_nil]; omega) | (simp <;> omega)) ?_
                 refine aops_le (le_of (sl' := [(0, _), (2, _), (4, _), (7, _), (9, _), (10, _), (11, _), (45, _), (46, _), (47, _), (120, _), (121, _), (124, _)]) ⟨rfl, rfl, rfl, rfl, rfl, rfl, rfl, rfl, rfl, rfl, rfl, rfl, rfl, trivial⟩) ?_
                 refine aops_any ?_
                 refine aany_step 8 [] (by kernel_rfl) ⟨?_, trivial⟩
                 ·
                  refine ⟨_, rfl, rfl, ?_⟩
                  refine aop_of_aops (ops := #[]) rfl ?_
                  refine x_append hf rfl Try.ap76 rfl rfl rfl (.inl rfl) (by rw [List.length_map]) rfl (by first | rfl | simp [asrc, look]) (by first | (simp only [maxLen, List.length_map, List.length_append, List.length_cons, List.length_nil]; omega) | (simp [maxLen] <;> omega)) (by first | (simp only [List.length_map, List.length_append, List.length_cons, List.length_nil]; omega) | (simp <;> omega)) ?_
                  refine aops_le (le_of (sl' := [(0, _), (2, _), (4, _), (7, _), (9, _), (10, _), (11, _), (45, _), (46, _), (47, _), (120, _), (125, _)]) ⟨rfl, rfl, rfl, rfl, rfl, rfl, rfl, rfl, rfl, rfl, rfl, rfl, trivial⟩) ?_
                  refine aops_any ?_
                  refine aany_le ?_ hj
                  exact le_mem ⟨rfl, rfl, rfl, rfl, rfl, rfl, rfl, rfl, rfl, rfl, trivial⟩ (by intro g; first | rfl | exact look_swap (by decide))
            ·
             refine ⟨_, rfl, rfl, ?_⟩
             refine aop_of_aops (ops := #[]) rfl ?_
             first | refine x_pure rfl (p_loads rfl Try.g42 Try.c42 rfl rfl) ?_ | refine x_pure rfl (p_loadsr rfl Try.g42 Try.c42 rfl rfl rfl) ?_
             refine aops_any ?_
             refine aany_step 1 [7] (by kernel_rfl) ⟨?_, ?_, trivial⟩
             ·
              refine ⟨_, rfl, rfl, ?_⟩
              refine aop_of_aops (ops := #[]) rfl ?_
              first | refine x_pure rfl (p_loads rfl Try.g44 Try.c44 rfl rfl) ?_ | refine x_pure rfl (p_loadsr rfl Try.g44 Try.c44 rfl rfl rfl) ?_
              refine aops_any ?_
              refine aany_step 2 [7] (by kernel_rfl) ⟨?_, ?_, trivial⟩
              ·
               refine ⟨_, rfl, rfl, ?_⟩
               refine aop_of_aops (ops := #[]) rfl ?_
               refine x_step hf rfl (r_buildSlice Try.ap63 rfl rfl rfl rfl (by simp [seC, stC, spC, ints, AV.cells, AV.leaf, Value.oneCell', splice, AV.kill, AV.clean, cleanL, AV.only])) ?_
               refine aops_any ?_
               refine aany_step 3 [7] (by kernel_rfl) ⟨?_, ?_, trivial⟩
               ·
                refine ⟨_, rfl, rfl, ?_⟩
                refine aop_of_aops (ops := #[]) rfl ?_
                refine x_append hf rfl Try.ap63 rfl rfl rfl (.inl rfl) (by rw [List.length_map]) rfl (by first | rfl | simp [asrc, look]) (by first | (simp only [maxLen, List.length_map, List.length_append, List.length_cons, List.length_nil]; omega) | (simp [maxLen] <;> omega)) (by first | (simp only [List.length_map, List.length_append, List.length_cons, List.length_nil]; omega) | (simp <;> omega)) ?_
                refine aops_le (le_of (sl' := [(0, _), (2, _), (4, _), (7, _), (9, _), (10, _), (11, _), (45, _), (46, _), (47, _), (120, _), (121, _), (123, _)]) ⟨rfl, rfl, rfl, rfl, rfl, rfl, rfl, rfl, rfl, rfl, rfl, rfl, rfl, trivial⟩) ?_
                refine aops_any ?_
                refine aany_step 7 [] (by kernel_rfl) ⟨?_, trivial⟩
                ·
                 refine ⟨_, rfl, rfl, ?_⟩
                 refine aop_of_aops (ops := #[]) rfl ?_
                 refine x_step hf rfl (r_buildSlice Try.ap76 rfl rfl rfl rfl (by simp [seC, stC, spC, ints, AV.cells, AV.leaf, Value.oneCell', splice, AV.kill, AV.clean, cleanL, AV.only])) ?_
                 refine aops_any ?_
                 refine aany_step 8 [] (by kernel_rfl) ⟨?_, trivial⟩
                 ·
                  refine ⟨_, rfl, rfl, ?_⟩
                  refine aop_of_aops (ops := #[]) rfl ?_
                  refine x_append hf rfl Try.ap76 rfl rfl rfl (.inl rfl) (by rw [List.length_map]) rfl (by first | rfl | simp [asrc, look]) (by first | (simp only [maxLen, List.length_map, List.length_append, List.length_cons, List.length_nil]; omega) | (simp [maxLen] <;> omega)) (by first | (simp only [List.length_map, List.length_append, List.length_cons, List.length_nil]; omega) | (simp <;> omega)) ?_
                  refine aops_le (le_of (sl' := [(0, _), (2, _), (4, _), (7, _), (9, _), (10, _), (11, _), (45, _), (46, _), (47, _), (120, _), (125, _)]) ⟨rfl, rfl, rfl, rfl, rfl, rfl, rfl, rfl, rfl, rfl, rfl, rfl, trivial⟩) ?_
                  refine aops_any ?_
                  refine aany_le ?_ hj
                  exact le_mem ⟨rfl, rfl, rfl, rfl, rfl, rfl, rfl, rfl, rfl, rfl, trivial⟩ (by intro g; first | rfl | exact look_swap (by decide))
               ·
                refine ⟨_, rfl, rfl, ?_⟩
                refine aop_of_aops (ops := #[]) rfl ?_
                refine x_step hf rfl (r_buildSlice Try.ap76 rfl rfl rfl rfl (by simp [seC, stC, spC, ints, AV.cells, AV.leaf, Value.oneCell', splice, AV.kill, AV.clean, cleanL, AV.only])) ?_
                refine aops_any ?_
                refine aany_step 3 [] (by kernel_rfl) ⟨?_, trivial⟩
                ·
                 refine ⟨_, rfl, rfl, ?_⟩
                 refine aop_of_aops (ops := #[]) rfl ?_
                 refine x_append hf rfl Try.ap63 rfl rfl rfl (.inl rfl) (by rw [List.length_map]) rfl (by first | rfl | simp [asrc, look]) (by first | (simp only [maxLen, List.length_map, List.length_append, List.length_cons, List.length_nil]; omega) | (simp [maxLen] <;> omega)) (by first | (simp only [List.length_map, List.length_append, List.length_cons, List.length_nil]; omega) | (simp <;> omega)) ?_
                 refine aops_le (le_of (sl' := [(0, _), (2, _), (4, _), (7, _), (9, _), (10, _), (11, _), (45, _), (46, _), (47, _), (120, _), (121, _), (124, _)]) ⟨rfl, rfl, rfl, rfl, rfl, rfl, rfl, rfl, rfl, rfl, rfl, rfl, rfl, trivial⟩) ?_
                 refine aops_any ?_
                 refine aany_step 8 [] (by kernel_rfl) ⟨?_, trivial⟩
                 ·
                  refine ⟨_, rfl, rfl, ?_⟩
                  refine aop_of_aops (ops := #[]) rfl ?_
                  refine x_append hf rfl Try.ap76 rfl rfl rfl (.inl rfl) (by rw [List.length_map]) rfl (by first | rfl | simp [asrc, look]) (by first | (simp only [maxLen, List.length_map, List.length_append, List.length_cons, List.length_nil]; omega) | (simp [maxLen] <;> omega)) (by first | (simp only [List.length_map, List.length_append, List.length_cons, List.length_nil]; omega) | (simp <;> omega)) ?_
                  refine aops_le (le_of (sl' := [(0, _), (2, _), (4, _), (7, _), (9, _), (10, _), (11, _), (45, _), (46, _), (47, _), (120, _), (125, _)]) ⟨rfl, rfl, rfl, rfl, rfl, rfl, rfl, rfl, rfl, rfl, rfl, rfl, trivial⟩) ?_
                  refine aops_any ?_
                  refine aany_le ?_ hj
                  exact le_mem ⟨rfl, rfl, rfl, rfl, rfl, rfl, rfl, rfl, rfl, rfl, trivial⟩ (by intro g; first | rfl | exact look_swap (by decide))
              ·
               refine ⟨_, rfl, rfl, ?_⟩
               refine aop_of_aops (ops := #[]) rfl ?_
               refine x_step hf rfl (r_buildSlice Try.ap76 rfl rfl rfl rfl (by simp [seC, stC, spC, ints, AV.cells, AV.leaf, Value.oneCell', splice, AV.kill, AV.clean, cleanL, AV.only])) ?_
               refine aops_any ?_
               refine aany_step 2 [] (by kernel_rfl) ⟨?_, trivial⟩
               ·
                refine ⟨_, rfl, rfl, ?_⟩
                refine aop_of_aops (ops := #[]) rfl ?_
                refine x_step hf rfl (r_buildSlice Try.ap63 rfl rfl rfl rfl (by simp [seC, stC, spC, ints, AV.cells, AV.leaf, Value.oneCell', splice, AV.kill, AV.clean, cleanL, AV.only])) ?_
                refine aops_any ?_
                refine aany_step 3 [] (by kernel_rfl) ⟨?_, trivial⟩
                ·
                 refine ⟨_, rfl, rfl, ?_⟩
                 refine aop_of_aops (ops := #[]) rfl ?_
                 refine x_append hf rfl Try.ap63 rfl rfl rfl (.inl rfl) (by rw [List.length_map]) rfl (by first | rfl | simp [asrc, look]) (by first | (simp only [maxLen, List.length_map, List.length_append, List.length_cons, List.length_nil]; omega) | (simp [maxLen] <;> omega)) (by first | (simp only [List.length_map, List.length_append, List.length_cons, List.length_nil]; omega) | (simp <;> omega)) ?_
                 refine aops_le (le_of (sl' := [(0, _), (2, _), (4, _), (7, _), (9, _), (10, _), (11, _), (45, _), (46, _), (47, _), (120, _), (121, _), (124, _)]) ⟨rfl, rfl, rfl, rfl, rfl, rfl, rfl, rfl, rfl, rfl, rfl, rfl, rfl, trivial⟩) ?_
                 refine aops_any ?_
                 refine aany_step 8 [] (by kernel_rfl) ⟨?_, trivial⟩
                 ·
                  refine ⟨_, rfl, rfl, ?_⟩
                  refine aop_of_aops (ops := #[]) rfl ?_
                  refine x_append hf rfl Try.ap76 rfl rfl rfl (.inl rfl) (by rw [List.length_map]) rfl (by first | rfl | simp [asrc, look]) (by first | (simp only [maxLen, List.length_map, List.length_append, List.length_cons, List.length_nil]; omega) | (simp [maxLen] <;> omega)) (by first | (simp only [List.length_map, List.length_append, List.length_cons, List.length_nil]; omega) | (simp <;> omega)) ?_
                  refine aops_le (le_of (sl' := [(0, _), (2, _), (4, _), (7, _), (9, _), (10, _), (11, _), (45, _), (46, _), (47, _), (120, _), (125, _)]) ⟨rfl, rfl, rfl, rfl, rfl, rfl, rfl, rfl, rfl, rfl, rfl, rfl, trivial⟩) ?_
                  refine aops_any ?_
                  refine aany_le ?_ hj
                  exact le_mem ⟨rfl, rfl, rfl, rfl, rfl, rfl, rfl, rfl, rfl, rfl, trivial⟩ (by intro g; first | rfl | exact look_swap (by decide))
             ·
              refine ⟨_, rfl, rfl, ?_⟩
              refine aop_of_aops (ops := #[]) rfl ?_
              refine x_step hf rfl (r_buildSlice Try.ap76 rfl rfl rfl rfl (by simp [seC, stC, spC, ints, AV.cells, AV.leaf, Value.oneCell', splice, AV.kill, AV.clean, cleanL, AV.only])) ?_
              refine aops_any ?_
              refine aany_step 1 [] (by kernel_rfl) ⟨?_, trivial⟩
              ·
               refine ⟨_, rfl, rfl, ?_⟩
               refine aop_of_aops (ops := #[]) rfl ?_
               first | refine x_pure rfl (p_loads rfl Try.g44 Try.c44 rfl rfl) ?_ | refine x_pure rfl (p_loadsr rfl Try.g44 Try.c44 rfl rfl rfl) ?_
               refine aops_any ?_
               refine aany_step 2 [] (by kernel_rfl) ⟨?_, trivial⟩
               ·
                refine ⟨_, rfl, rfl, ?_⟩
                refine aop_of_aops (ops := #[]) rfl ?_
                refine x_step hf rfl (r_buildSlice Try.ap63 rfl rfl rfl rfl (by simp [seC, stC, spC, ints, AV.cells, AV.leaf, Value.oneCell', splice, AV.kill, AV.clean, cleanL, AV.only])) ?_
                refine aops_any ?_
                refine aany_step 3 [] (by kernel_rfl) ⟨?_, trivial⟩
                ·
                 refine ⟨_, rfl, rfl, ?_⟩
                 refine aop_of_aops (ops := #[]) rfl ?_
                 refine x_append hf rfl Try.ap63 rfl rfl rfl (.inl rfl) (by rw [List.length_map]) rfl (by first | rfl | simp [asrc, look]) (by first | (simp only [maxLen, List.length_map, List.length_append, List.length_cons, List.length_nil]; omega) | (simp [maxLen] <;> omega)) (by first | (simp only [List.length_map, List.length_append, List.length_cons, List.length_nil]; omega) | (simp <;> omega)) ?_
                 refine aops_le (le_of (sl' := [(0, _), (2, _), (4, _), (7, _), (9, _), (10, _), (11, _), (45, _), (46, _), (47, _), (120, _), (121, _), (124, _)]) ⟨rfl, rfl, rfl, rfl, rfl, rfl, rfl, rfl, rfl, rfl, rfl, rfl, rfl, trivial⟩) ?_
                 refine aops_any ?_
                 refine aany_step 8 [] (by kernel_rfl) ⟨?_, trivial⟩
                 ·
                  refine ⟨_, rfl, rfl, ?_⟩
                  refine aop_of_aops (ops := #[]) rfl ?_
                  refine x_append hf rfl Try.ap76 rfl rfl rfl (.inl rfl) (by rw [List.length_map]) rfl (by first | rfl | simp [asrc, look]) (by first | (simp only [maxLen, List.length_map, List.length_append, List.length_cons, List.length_nil]; omega) | (simp [maxLen] <;> omega)) (by first | (simp only [List.length_map, List.length_append, List.length_cons, List.length_nil]; omega) | (simp <;> omega)) ?_
                  refine aops_le (le_of (sl' := [(0, _), (2, _), (4, _), (7, _), (9, _), (10, _), (11, _), (45, _), (46, _), (47, _), (120, _), (125, _)]) ⟨rfl, rfl, rfl, rfl, rfl, rfl, rfl, rfl, rfl, rfl, rfl, rfl, trivial⟩) ?_
                  refine aops_any ?_
                  refine aany_le ?_ hj
                  exact le_mem ⟨rfl, rfl, rfl, rfl, rfl, rfl, rfl, rfl, rfl, rfl, trivial⟩ (by intro g; first | rfl | exact look_swap (by decide))
           refine aany_step 9 [] (by kernel_rfl) ⟨?_, trivial⟩
           ·
            refine ⟨_, rfl, rfl, ?_⟩
            refine aop_of_aops (ops := #[]) rfl ?_
            refine x_pure rfl (p_assign rfl) ?_
            refine aops_any ?_
            refine aany_step 10 [] (by kernel_rfl) ⟨?_, trivial⟩
            ·
             refine ⟨_, rfl, rfl, ?_⟩
             refine aop_of_aops (ops := #[]) rfl ?_
             refine x_pure rfl (p_assign rfl) ?_
             refine aops_any ?_
             refine aany_end (by kernel_rfl) ?_
             refine hK16 _ ?_
             refine aw_region ?_
             first | refine x_pure rfl (p_add rfl rfl (by omega) (by omega)) ?_ | refine x_pure rfl (p_bin rfl rfl rfl) ?_
             refine x_pure rfl (p_move rfl) ?_
             first | refine aops_end ?_ | refine aops_nil ?_
             exact ⟨((k + 1, 1 + ((k % 4 : Nat) : Int)), (times[k], (ys ++ [((a, times[k]), (e.1.1, s0))], zs ++ [(a, times[k])]))), hC.next (by omega) (by omega), by simp only; omega, le_to ⟨(by first | rfl | (rw [if_pos (by omega)]; rfl) | (rw [if_pos (by omega)]; done) | (rw [if_neg (by omega)]; rfl) | (rw [if_neg (by omega)]; done) | (rw [List.length_append]; rfl) | (rw [List.length_append]; done) | exact slot_int (by omega)), (by first | rfl | (rw [if_pos (by omega)]; rfl) | (rw [if_pos (by omega)]; done) | (rw [if_neg (by omega)]; rfl) | (rw [if_neg (by omega)]; done) | (rw [List.length_append]; rfl) | (rw [List.length_append]; done) | exact slot_int (by omega)), (by first | rfl | (rw [if_pos (by omega)]; rfl) | (rw [if_pos (by omega)]; done) | (rw [if_neg (by omega)]; rfl) | (rw [if_neg (by omega)]; done) | (rw [List.length_append]; rfl) | (rw [List.length_append]; done) | exact slot_int (by omega)), (by first | rfl | (rw [if_pos (by omega)]; rfl) | (rw [if_pos (by omega)]; done) | (rw [if_neg (by omega)]; rfl) | (rw [if_neg (by omega)]; done) | (rw [List.length_append]; rfl) | (rw [List.length_append]; done) | exact slot_int (by omega)), (by first | rfl | (rw [if_pos (by omega)]; rfl) | (rw [if_pos (by omega)]; done) | (rw [if_neg (by omega)]; rfl) | (rw [if_neg (by omega)]; done) | (rw [List.length_append]; rfl) | (rw [List.length_append]; done) | exact slot_int (by omega)), (by first | rfl | (rw [if_pos (by omega)]; rfl) | (rw [if_pos (by omega)]; done) | (rw [if_neg (by omega)]; rfl) | (rw [if_neg (by omega)]; done) | (rw [List.length_append]; rfl) | (rw [List.length_append]; done) | exact slot_int (by omega)), (by first | rfl | (rw [if_pos (by omega)]; rfl) | (rw [if_pos (by omega)]; done) | (rw [if_neg (by omega)]; rfl) | (rw [if_neg (by omega)]; done) | (rw [List.length_append]; rfl) | (rw [List.length_append]; done) | exact slot_int (by omega)), (by first | rfl | (rw [if_pos (by omega)]; rfl) | (rw [if_pos (by omega)]; done) | (rw [if_neg (by omega)]; rfl) | (rw [if_neg (by omega)]; done) | (rw [List.length_append]; rfl) | (rw [List.length_append]; done) | exact slot_int (by omega)), (by first | rfl | (rw [if_pos (by omega)]; rfl) | (rw [if_pos (by omega)]; done) | (rw [if_neg (by omega)]; rfl) | (rw [if_neg (by omega)]; done) | (rw [List.length_append]; rfl) | (rw [List.length_append]; done) | exact slot_int (by omega)), (by first | rfl | (rw [if_pos (by omega)]; rfl) | (rw [if_pos (by omega)]; done) | (rw [if_neg (by omega)]; rfl) | (rw [if_neg (by omega)]; done) | (rw [List.length_append]; rfl) | (rw [List.length_append]; done) | exact slot_int (by omega)), trivial⟩ (by rw [List.map_append, List.map_append]; rfl)⟩
      ·
       try simp only [bs, ints_len] at hc5
       refine aw_exit ?_
       refine hK12 _ ?_
       refine aw_seq_k (fun K43 hK43 => ?_)
       refine aw_region ?_
       have hk : k = times.length := by omega
       rw [if_neg (by omega)]
       refine aops_le (le_freeze (sl' := [(0, _), (4, _), (7, _), (10, .sl 2 (zs.map spC)), (11, _)]) ⟨⟨_, rfl, rfl⟩, ⟨_, rfl, rfl⟩, ⟨_, rfl, rfl⟩, ⟨_, rfl, only_whole (g := 10) rfl (by rw [List.length_map])⟩, ⟨_, rfl, rfl⟩, trivial⟩) ?_
       refine x_pure rfl (p_move rfl) ?_
       first | refine x_pure rfl (p_fld_adr rfl Try.fd24_0 Try.c3 rfl) ?_ | refine x_pure rfl (p_fld_ref rfl Try.fd24_0 Try.c3 rfl) ?_
       first | refine x_pure rfl (p_load1 rfl Try.g3 rfl) ?_ | refine x_pure rfl (p_load1r rfl Try.g3 rfl rfl) ?_ | refine x_pure rfl (p_load1r rfl Try.g3 rfl (strs_ref (by simp only [List.length_cons] at *; omega))) ?_ | refine x_pure rfl (p_load1r rfl Try.g3 rfl (strs_ref (by omega))) ?_
       first | refine x_pure rfl (p_fld_adr rfl Try.fd24_1 Try.c9 rfl) ?_ | refine x_pure rfl (p_fld_ref rfl Try.fd24_1 Try.c9 rfl) ?_
       first | refine x_pure rfl (p_load1 rfl Try.g9 rfl) ?_ | refine x_pure rfl (p_load1r rfl Try.g9 rfl rfl) ?_ | refine x_pure rfl (p_load1r rfl Try.g9 rfl (strs_ref (by simp only [List.length_cons] at *; omega))) ?_ | refine x_pure rfl (p_load1r rfl Try.g9 rfl (strs_ref (by omega))) ?_
       refine x_step hf rfl (r_call rfl rfl Try.ent20 rfl (wholeFind_den l e hnn (by omega))) ?_
       refine x_pure rfl (p_move rfl) ?_
       refine x_pure rfl (p_extract rfl rfl) ?_
       refine x_pure rfl (p_extract rfl rfl) ?_
       refine x_allocst hf rfl Try.z31 rfl Try.c31 rfl rfl rfl rfl (by simp [seC, stC, spC, ints, AV.cells, AV.leaf, Value.oneCell', splice, AV.kill, AV.clean, cleanL, AV.only]) ?_
       refine x_pure rfl (p_assign rfl) ?_
       first | refine aops_end ?_ | refine aops_nil ?_
       refine hK43 _ ?_
       refine aw_seq_k (fun K44 hK44 => ?_)
       refine aw_draw hf Try.mixed (by kernel_rfl) rfl ?_
       refine d_rstep [] rfl rfl trivial rfl (r_call rfl rfl Try.ent10 rfl (alive10_den)) ?_
       refine d_pure [(136, _)] rfl rfl ⟨⟨rfl, rfl⟩, trivial⟩ rfl (p_move rfl) ?_
       refine d_pure [(18, _)] rfl rfl ⟨⟨rfl, rfl⟩, trivial⟩ rfl (p_move rfl) ?_
       refine d_pure [(138, _)] rfl rfl ⟨⟨rfl, rfl⟩, trivial⟩ rfl (p_bin rfl rfl (inteq_t (rfl))) ?_
       refine d_pure [(137, _), (139, _)] rfl rfl ⟨⟨rfl, rfl⟩, ⟨rfl, rfl⟩, trivial⟩ rfl (p_pick_t rfl rfl) ?_
       refine d_pure [(140, _)] rfl rfl ⟨⟨rfl, rfl⟩, trivial⟩ rfl (p_move rfl) ?_
       refine d_pure [(0, _)] rfl rfl ⟨⟨rfl, rfl⟩, trivial⟩ rfl (p_move rfl) ?_
       refine d_rstep [(142, _)] rfl rfl ⟨⟨rfl, rfl⟩, trivial⟩ rfl (r_call rfl rfl Try.ent16 rfl (refRising10_den l (by omega) ht)) ?_
       refine d_pure [(143, _)] rfl rfl ⟨⟨rfl, rfl⟩, trivial⟩ rfl (p_not rfl) ?_
       refine d_pure [(144, _)] rfl rfl ⟨⟨rfl, rfl⟩, trivial⟩ rfl (p_move rfl) ?_
       refine d_split 145 false rfl (fun hg14 => ?_) (fun hg14 => ?_)
       ·
        try simp only [bs, ints_len] at hg14
        refine d_pure [(7, _)] rfl rfl ⟨⟨rfl, rfl⟩, trivial⟩ rfl (p_move rfl) ?_
        refine d_rstep [(146, _)] rfl rfl ⟨⟨rfl, rfl⟩, trivial⟩ rfl (r_call rfl rfl Try.ent15 rfl (olds10_den l (by omega))) ?_
        refine d_pure [(0, _)] rfl rfl ⟨⟨rfl, rfl⟩, trivial⟩ rfl (p_move rfl) ?_
        refine d_rstep [(147, _), (148, _)] rfl rfl ⟨⟨rfl, rfl⟩, ⟨rfl, rfl⟩, trivial⟩ rfl (r_call rfl rfl Try.ent14 rfl (refSame10T_den l l rfl (by omega))) ?_
        refine d_pure [(145, _), (149, _)] rfl rfl ⟨⟨rfl, rfl⟩, ⟨rfl, rfl⟩, trivial⟩ rfl (p_pick_f rfl rfl) ?_
        refine d_pure [(141, _), (150, _)] rfl rfl ⟨⟨rfl, rfl⟩, ⟨rfl, rfl⟩, trivial⟩ rfl (p_pick_t rfl rfl) ?_
        refine d_pure [(151, _)] rfl rfl ⟨⟨rfl, rfl⟩, trivial⟩ rfl (p_move rfl) ?_
        refine d_pure [(10, _)] rfl rfl ⟨⟨rfl, rfl⟩, trivial⟩ rfl (p_move rfl) ?_
        refine d_rstep [(153, _)] rfl rfl ⟨⟨rfl, rfl⟩, trivial⟩ rfl (r_call rfl rfl Try.ent38 rfl (norm_den zs (by omega))) ?_
        first | refine d_pure [(4, _)] rfl rfl ⟨⟨rfl, rfl⟩, trivial⟩ rfl (p_fld_adr rfl Try.fd24_3 Try.c3 rfl) ?_ | refine d_pure [(4, _)] rfl rfl ⟨⟨rfl, rfl⟩, trivial⟩ rfl (p_fld_ref rfl Try.fd24_3 Try.c3 rfl) ?_
        first | refine d_pure [(155, _)] rfl rfl ⟨⟨rfl, rfl⟩, trivial⟩ rfl (p_load1 rfl Try.g3 rfl) ?_ | refine d_pure [(155, _)] rfl rfl ⟨⟨rfl, rfl⟩, trivial⟩ rfl (p_load1r rfl Try.g3 rfl rfl) ?_ | refine d_pure [(155, _)] rfl rfl ⟨⟨rfl, rfl⟩, trivial⟩ rfl (p_load1r rfl Try.g3 rfl (strs_ref (by simp only [List.length_cons] at *; omega))) ?_ | refine d_pure [(155, _)] rfl rfl ⟨⟨rfl, rfl⟩, trivial⟩ rfl (p_load1r rfl Try.g3 rfl (strs_ref (by omega))) ?_
        refine d_pure [(11, _)] rfl rfl ⟨⟨rfl, rfl⟩, trivial⟩ rfl (p_move rfl) ?_
        refine d_pure [(156, _), (157, _)] rfl rfl ⟨⟨rfl, rfl⟩, ⟨rfl, rfl⟩, trivial⟩ rfl (p_build rfl Try.z42 Try.pl42 (by simp [seC, stC, spC, ints, AV.cells, AV.one, Value.oneCell', splice, AV.kill, AV.clean, cleanL, AV.only]) rfl) ?_
        refine d_rstep [(158, _)] rfl rfl ⟨⟨rfl, rfl⟩, trivial⟩ rfl (r_buildSlice Try.ap76 rfl rfl rfl rfl (by simp [seC, stC, spC, ints, AV.cells, AV.leaf, Value.oneCell', splice, AV.kill, AV.clean, cleanL, AV.only])) ?_
        refine d_rstep [(159, _)] rfl rfl ⟨⟨rfl, rfl⟩, trivial⟩ rfl (r_call rfl rfl Try.ent38 rfl (norm_den [(e.2.2, a)] (by simp))) ?_
        refine d_rstep [(154, _), (160, _)] rfl rfl ⟨⟨rfl, rfl⟩, ⟨rfl, rfl⟩, trivial⟩ rfl (r_call rfl rfl Try.ent37 rfl (sameTb_den (normL zs) (normL [(e.2.2, a)]) (cover_norm hC.cov) (by have := norm_len zs; omega))) ?_
        refine d_pure [(152, _), (161, _)] rfl rfl ⟨⟨rfl, rfl⟩, ⟨rfl, rfl⟩, trivial⟩ rfl (p_pick_t rfl rfl) ?_
        refine d_pure [(162, _)] rfl rfl ⟨⟨rfl, rfl⟩, trivial⟩ rfl (p_assign rfl) ?_
        refine lex_end (sl' := [(6, _)]) rfl ⟨rfl, trivial⟩ rfl ?_
        refine hK44 _ ?_
        refine aw_ret ?_
        refine ⟨_, rfl, ?_⟩
        rfl
       ·
        try simp only [bs, ints_len] at hg14
        refine d_skip rfl rfl ?_
        refine d_skip rfl rfl ?_
        refine d_skip rfl rfl ?_
        refine d_skip rfl rfl ?_
        refine d_pure [(145, _), (149, _)] rfl rfl ⟨⟨rfl, rfl⟩, ⟨rfl, rfl⟩, trivial⟩ rfl (p_pick_t rfl rfl) ?_
        refine d_pure [(141, _), (150, _)] rfl rfl ⟨⟨rfl, rfl⟩, ⟨rfl, rfl⟩, trivial⟩ rfl (p_pick_t rfl rfl) ?_
        refine d_pure [(151, _)] rfl rfl ⟨⟨rfl, rfl⟩, trivial⟩ rfl (p_move rfl) ?_
        refine d_pure [(10, _)] rfl rfl ⟨⟨rfl, rfl⟩, trivial⟩ rfl (p_move rfl) ?_
        refine d_rstep [(153, _)] rfl rfl ⟨⟨rfl, rfl⟩, trivial⟩ rfl (r_call rfl rfl Try.ent38 rfl (norm_den zs (by omega))) ?_
        first | refine d_pure [(4, _)] rfl rfl ⟨⟨rfl, rfl⟩, trivial⟩ rfl (p_fld_adr rfl Try.fd24_3 Try.c3 rfl) ?_ | refine d_pure [(4, _)] rfl rfl ⟨⟨rfl, rfl⟩, trivial⟩ rfl (p_fld_ref rfl Try.fd24_3 Try.c3 rfl) ?_
        first | refine d_pure [(155, _)] rfl rfl ⟨⟨rfl, rfl⟩, trivial⟩ rfl (p_load1 rfl Try.g3 rfl) ?_ | refine d_pure [(155, _)] rfl rfl ⟨⟨rfl, rfl⟩, trivial⟩ rfl (p_load1r rfl Try.g3 rfl rfl) ?_ | refine d_pure [(155, _)] rfl rfl ⟨⟨rfl, rfl⟩, trivial⟩ rfl (p_load1r rfl Try.g3 rfl (strs_ref (by simp only [List.length_cons] at *; omega))) ?_ | refine d_pure [(155, _)] rfl rfl ⟨⟨rfl, rfl⟩, trivial⟩ rfl (p_load1r rfl Try.g3 rfl (strs_ref (by omega))) ?_
        refine d_pure [(11, _)] rfl rfl ⟨⟨rfl, rfl⟩, trivial⟩ rfl (p_move rfl) ?_
        refine d_pure [(156, _), (157, _)] rfl rfl ⟨⟨rfl, rfl⟩, ⟨rfl, rfl⟩, trivial⟩ rfl (p_build rfl Try.z42 Try.pl42 (by simp [seC, stC, spC, ints, AV.cells, AV.one, Value.oneCell', splice, AV.kill, AV.clean, cleanL, AV.only]) rfl) ?_
        refine d_rstep [(158, _)] rfl rfl ⟨⟨rfl, rfl⟩, trivial⟩ rfl (r_buildSlice Try.ap76 rfl rfl rfl rfl (by simp [seC, stC, spC, ints, AV.cells, AV.leaf, Value.oneCell', splice, AV.kill, AV.clean, cleanL, AV.only])) ?_
        refine d_rstep [(159, _)] rfl rfl ⟨⟨rfl, rfl⟩, trivial⟩ rfl (r_call rfl rfl Try.ent38 rfl (norm_den [(e.2.2, a)] (by simp))) ?_
        refine d_rstep [(154, _), (160, _)] rfl rfl ⟨⟨rfl, rfl⟩, ⟨rfl, rfl⟩, trivial⟩ rfl (r_call rfl rfl Try.ent37 rfl (sameTb_den (normL zs) (normL [(e.2.2, a)]) (cover_norm hC.cov) (by have := norm_len zs; omega))) ?_
        refine d_pure [(152, _), (161, _)] rfl rfl ⟨⟨rfl, rfl⟩, ⟨rfl, rfl⟩, trivial⟩ rfl (p_pick_t rfl rfl) ?_
        refine d_pure [(162, _)] rfl rfl ⟨⟨rfl, rfl⟩, trivial⟩ rfl (p_assign rfl) ?_
        refine lex_end (sl' := [(6, _)]) rfl ⟨rfl, trivial⟩ rfl ?_
        refine hK44 _ ?_
        refine aw_ret ?_
        refine ⟨_, rfl, ?_⟩
        rfl
  ·
   try simp only [bs, ints_len] at hg2
   refine x_guard_f rfl rfl rfl ?_
   refine x_guard_f rfl rfl rfl ?_
   refine x_pure rfl (p_pick_t rfl rfl) ?_
   first | refine aops_end ?_ | refine aops_nil ?_
   refine hK3 _ ?_
   refine aw_cond_t rfl ?_
   refine aw_seq_k (fun K45 hK45 => ?_)
   refine aw_region ?_
   refine x_step hf rfl (r_call rfl rfl Try.ent10 rfl (alive10_den)) ?_
   refine x_pure rfl (p_assign rfl) ?_
   first | refine aops_end ?_ | refine aops_nil ?_
   refine hK45 _ ?_
   refine aw_ret ?_
   refine ⟨_, rfl, ?_⟩
   rfl
 ·
  try simp only [bs, ints_len] at hg1
  refine x_guard_f rfl rfl rfl ?_
  refine x_guard_f rfl rfl rfl ?_
  refine x_pure rfl (p_pick_t rfl rfl) ?_
  refine x_pure rfl (p_move rfl) ?_
  refine x_guard_f rfl rfl rfl ?_
  refine x_guard_f rfl rfl rfl ?_
  refine x_guard_f rfl rfl rfl ?_
  refine x_pure rfl (p_pick_t rfl rfl) ?_
  first | refine aops_end ?_ | refine aops_nil ?_
  refine hK3 _ ?_
  refine aw_cond_t rfl ?_
  refine aw_seq_k (fun K46 hK46 => ?_)
  refine aw_region ?_
  refine x_step hf rfl (r_call rfl rfl Try.ent10 rfl (alive10_den)) ?_
  refine x_pure rfl (p_assign rfl) ?_
  first | refine aops_end ?_ | refine aops_nil ?_
  refine hK46 _ ?_
  refine aw_ret ?_
  refine ⟨_, rfl, ?_⟩
  rfl
end Go.Proofs.Ytcjchfocohagdaa
