import Derived.Test.YtkjniggdldpnoaaH1
set_option linter.unusedVariables false
set_option linter.unusedSimpArgs false
namespace Go.Abs
theorem meetS_out {s : Stay} {z : Sp} (h : s.1.2 ≤ z.1 ∨ z.2 ≤ s.1.1) : meetS s z = [] := meetS_t (by simp only [meet1]; omega)
theorem meetS_all {s : Stay} : ∀ {r : List Sp}, (∀ z ∈ r, s.1.2 ≤ z.1 ∨ z.2 ≤ s.1.1) → r.flatMap (meetS s) = []
  | [], _ => rfl
  | z :: r, h => by rw [List.flatMap_cons, meetS_out (h z (by simp)), meetS_all (fun z hz => h z (by simp [hz]))]; rfl
theorem meetS_in {s : Stay} {z : Sp} (h : s.1.1 < s.1.2) (h1 : z.1 ≤ s.1.1) (h2 : s.1.2 ≤ z.2) : meetS s z = [s] := by
  have e : meet1 s.1 z = s.1 := by
    unfold meet1
    exact Prod.ext (by simp only; omega) (by simp only; omega)
  rw [meetS_f (by rw [e]; omega), e]
theorem meetS_mem {s s' : Stay} {z : Sp} (h : s' ∈ meetS s z) : s' = (meet1 s.1 z, s.2) ∧ (meet1 s.1 z).1 < (meet1 s.1 z).2 := by
  unfold meetS at h
  split at h
  · simp at h
  · simp only [List.mem_singleton] at h
    exact ⟨h, by omega⟩
/-- A stay within one of the spans is left whole. -/
theorem fit_one {s : Stay} (hs : s.1.1 < s.1.2) : ∀ {nb : List Sp}, NormP nb → ∀ {y : Sp}, y ∈ nb → y.1 ≤ s.1.1 → s.1.2 ≤ y.2 → nb.flatMap (meetS s) = [s]
  | [], _, _, h, _, _ => by simp at h
  | x :: r, hn, y, hy, h1, h2 => by
    obtain ⟨hx, hr⟩ := norm_head hn
    rw [List.flatMap_cons]
    rcases List.mem_cons.1 hy with rfl | hy
    · rw [meetS_in hs h1 h2, meetS_all (fun z hz => .inl (by have := hr z hz; omega))]; rfl
    · rw [meetS_out (.inr (by have := hr y hy; omega)), fit_one hs (norm_tail hn) hy h1 h2]; rfl
theorem cut_mem {l : List Stay} {nb : List Sp} {s' : Stay} (h : s' ∈ cutRaw l nb) : ∃ s ∈ l, ∃ y ∈ nb, s' = (meet1 s.1 y, s.2) ∧ (meet1 s.1 y).1 < (meet1 s.1 y).2 := by
  obtain ⟨s, hs, h⟩ := List.mem_flatMap.1 h
  obtain ⟨y, hy, h⟩ := List.mem_flatMap.1 h
  exact ⟨s, hs, y, hy, meetS_mem h⟩
theorem cutS_mem {l : List Stay} {b : List Sp} {s' : Stay} (h : s' ∈ cutS l b) : s'.1.1 < s'.1.2 ∧ ∃ y ∈ normL b, y.1 ≤ s'.1.1 ∧ s'.1.2 ≤ y.2 := by
  obtain ⟨s, _, y, hy, rfl, ht⟩ := cut_mem ((sortS_perm _).mem_iff.1 h)
  exact ⟨ht, y, hy, by simp only [meet1]; omega, by simp only [meet1]; omega⟩
theorem cut_whole {nb : List Sp} (hn : NormP nb) : ∀ {l : List Stay}, (∀ s ∈ l, s.1.1 < s.1.2 ∧ ∃ y ∈ nb, y.1 ≤ s.1.1 ∧ s.1.2 ≤ y.2) → cutRaw l nb = l
  | [], _ => rfl
  | s :: l, h => by
    obtain ⟨hs, y, hy, h1, h2⟩ := h s (by simp)
    show nb.flatMap (meetS s) ++ cutRaw l nb = _
    rw [fit_one hs hn hy h1 h2, cut_whole hn (fun s hs => h s (by simp [hs]))]; rfl
theorem sortS_congr {a b : List Stay} (h : a.Perm b) : sortS a = sortS b := sortS_of ((sortS_perm a).trans h) (sortS_srt a)
/-- Cut again likewise it is the same. -/
theorem cut_again (l : List Stay) (b : List Sp) : cutS (cutS l b) b = cutS l b := by
  rw [show cutS (cutS l b) b = sortS (cutRaw (cutS l b) (normL b)) from rfl, cut_whole (norm_spec b).1 (fun s hs => cutS_mem hs)]
  exact (sortS_of (.refl _) (sortS_srt _)).symm
theorem cut_less {l : List Stay} {b : List Sp} {s : Stay} (h : s ∈ cutS l b) : lessL [s.1] b = [] :=
  norm_ext _ _ (less_spec _ _).1 ⟨fun _ h => by simp at h, List.Pairwise.nil⟩ fun t => by
    rw [(less_spec _ _).2, hasB_nil]
    obtain ⟨_, y, hy, h1, h2⟩ := cutS_mem h
    by_cases e : hasB [s.1] t = true
    · obtain ⟨x, hx, h3, h4⟩ := hasB_iff.1 e
      simp only [List.mem_singleton] at hx
      subst hx
      have : hasB b t = true := by rw [← (norm_spec b).2 t]; exact hasB_iff.2 ⟨y, hy, by omega, by omega⟩
      rw [this]; simp
    · simp only [Bool.not_eq_true] at e; rw [e]; rfl
def interL (na nb : List Sp) : List Sp := na.flatMap fun x => nb.flatMap fun y => if (meet1 x y).2 ≤ (meet1 x y).1 then [] else [meet1 x y]
theorem inter_mem {na nb : List Sp} {u : Sp} : u ∈ interL na nb ↔ ∃ x ∈ na, ∃ y ∈ nb, u = meet1 x y ∧ u.1 < u.2 := by
  unfold interL
  simp only [List.mem_flatMap]
  constructor
  · rintro ⟨x, hx, y, hy, h⟩
    split at h
    · simp at h
    · simp only [List.mem_singleton] at h
      exact ⟨x, hx, y, hy, h, by subst h; omega⟩
  · rintro ⟨x, hx, y, hy, rfl, ht⟩
    exact ⟨x, hx, y, hy, by rw [if_neg (by omega)]; simp⟩
theorem inter_norm {na nb : List Sp} (ha : NormP na) (hb : NormP nb) : NormP (interL na nb) := by
  refine ⟨fun u hu => ?_, ?_⟩
  · obtain ⟨_, _, _, _, _, h⟩ := inter_mem.1 hu; exact h
  · rw [interL, List.pairwise_flatMap]
    refine ⟨fun x _ => ?_, ?_⟩
    · rw [List.pairwise_flatMap]
      refine ⟨fun y _ => ?_, ?_⟩
      · split
        · exact List.Pairwise.nil
        · exact List.pairwise_singleton _ _
      · refine hb.2.imp fun {y1 y2} h u hu v hv => ?_
        split at hu
        · simp at hu
        · split at hv
          · simp at hv
          · simp only [List.mem_singleton] at hu hv
            subst hu; subst hv
            simp only [meet1] at *; omega
    · refine ha.2.imp fun {x1 x2} h u hu v hv => ?_
      obtain ⟨y1, _, hu⟩ := List.mem_flatMap.1 hu
      obtain ⟨y2, _, hv⟩ := List.mem_flatMap.1 hv
      split at hu
      · simp at hu
      · split at hv
        · simp at hv
        · simp only [List.mem_singleton] at hu hv
          subst hu; subst hv
          simp only [meet1] at *; omega
theorem inter_has (na nb : List Sp) (t : Int) : hasB (interL na nb) t = (hasB na t && hasB nb t) := by
  rw [Bool.eq_iff_iff, Bool.and_eq_true, hasB_iff, hasB_iff, hasB_iff]
  constructor
  · rintro ⟨u, hu, h1, h2⟩
    obtain ⟨x, hx, y, hy, rfl, _⟩ := inter_mem.1 hu
    simp only [meet1] at h1 h2
    exact ⟨⟨x, hx, by omega, by omega⟩, ⟨y, hy, by omega, by omega⟩⟩
  · rintro ⟨⟨x, hx, h1, h2⟩, ⟨y, hy, h3, h4⟩⟩
    exact ⟨meet1 x y, inter_mem.2 ⟨x, hx, y, hy, rfl, by simp only [meet1]; omega⟩, by simp only [meet1]; omega, by simp only [meet1]; omega⟩
theorem inter_meet (a b : List Sp) : interL (normL a) (normL b) = meetL a b :=
  norm_ext _ _ (inter_norm (norm_spec a).1 (norm_spec b).1) (meet_spec a b).1 fun t => by rw [inter_has, (meet_spec a b).2, (norm_spec a).2, (norm_spec b).2]
theorem meet1_assoc (s x y : Sp) : meet1 (meet1 s x) y = meet1 s (meet1 x y) := by
  unfold meet1
  exact Prod.ext (by simp only; omega) (by simp only; omega)
theorem cut_two (na nb : List Sp) (s : Stay) : (na.flatMap (meetS s)).flatMap (fun s' => nb.flatMap (meetS s')) = (interL na nb).flatMap (meetS s) := by
  rw [interL, List.flatMap_assoc, List.flatMap_assoc]
  congr 1
  funext x
  rw [List.flatMap_assoc]
  by_cases h : (meet1 s.1 x).2 ≤ (meet1 s.1 x).1
  · rw [meetS_t h, List.flatMap_nil, eq_comm, List.flatMap_eq_nil_iff]
    intro y _
    split
    · rfl
    · rw [List.flatMap_cons, List.flatMap_nil, List.append_nil]
      exact meetS_t (by rw [← meet1_assoc]; simp only [meet1] at *; omega)
  · rw [meetS_f h, List.flatMap_cons, List.flatMap_nil, List.append_nil]
    congr 1
    funext y
    split
    · rename_i h2
      rw [List.flatMap_nil]
      exact meetS_t (by simp only; rw [meet1_assoc]; simp only [meet1] at *; omega)
    · rw [List.flatMap_cons, List.flatMap_nil, List.append_nil]
      unfold meetS
      simp only [meet1_assoc]
theorem cut_narrow (l : List Stay) (a b : List Sp) : cutS (cutS l a) b = cutS l (meetL a b) := by
  have e : normL (meetL a b) = meetL a b := norm_of (meet_spec a b).1 fun _ => rfl
  rw [show cutS (cutS l a) b = sortS (cutRaw (sortS (cutRaw l (normL a))) (normL b)) from rfl, show cutS l (meetL a b) = sortS (cutRaw l (normL (meetL a b))) from rfl, e]
  refine sortS_congr ?_
  refine ((sortS_perm _).flatMap_right _).trans (List.Perm.of_eq ?_)
  rw [← inter_meet]
  unfold cutRaw
  rw [List.flatMap_assoc]
  congr 1
  funext s
  exact cut_two _ _ s
def cntS (l : List Stay) (t : Int) : Nat := (l.filter fun s => decide (s.1.1 ≤ t) && decide (t < s.1.2)).length
theorem cnt_append (a b : List Stay) (t : Int) : cntS (a ++ b) t = cntS a t + cntS b t := by simp [cntS]
theorem cnt_perm {a b : List Stay} (h : a.Perm b) (t : Int) : cntS a t = cntS b t := (h.filter _).length_eq
theorem cnt_one (s : Stay) (z : Sp) (t : Int) : cntS (meetS s z) t = if (s.1.1 ≤ t ∧ t < s.1.2) ∧ (z.1 ≤ t ∧ t < z.2) then 1 else 0 := by
  unfold meetS
  split
  · rename_i h
    rw [if_neg (by simp only [meet1] at h; omega)]; rfl
  · rename_i h
    have e : (decide ((meet1 s.1 z).1 ≤ t) && decide (t < (meet1 s.1 z).2)) = decide ((s.1.1 ≤ t ∧ t < s.1.2) ∧ (z.1 ≤ t ∧ t < z.2)) := by
      rw [Bool.eq_iff_iff]
      simp only [meet1, Bool.and_eq_true, decide_eq_true_eq, Int.max_le, Int.lt_min]
      constructor
      · rintro ⟨⟨a, b⟩, c, d⟩; exact ⟨⟨a, c⟩, b, d⟩
      · rintro ⟨⟨a, b⟩, c, d⟩; exact ⟨⟨a, c⟩, b, d⟩
    simp only [cntS, List.filter_cons, List.filter_nil, e]
    by_cases h2 : (s.1.1 ≤ t ∧ t < s.1.2) ∧ (z.1 ≤ t ∧ t < z.2)
    · rw [if_pos h2, decide_eq_true h2]; rfl
    · rw [if_neg h2, decide_eq_false h2]; rfl
theorem cnt_stay (s : Stay) (t : Int) : ∀ {nb : List Sp}, NormP nb → cntS (nb.flatMap (meetS s)) t = if (s.1.1 ≤ t ∧ t < s.1.2) ∧ hasB nb t = true then 1 else 0
  | [], _ => by simp [cntS, hasB_nil]
  | x :: r, hn => by
    obtain ⟨hx, hr⟩ := norm_head hn
    rw [List.flatMap_cons, cnt_append, cnt_one, cnt_stay s t (norm_tail hn), hasB_cons]
    have hd : x.1 ≤ t ∧ t < x.2 → hasB r t = false := fun h => by
      rw [Bool.eq_false_iff]; intro h0
      obtain ⟨z, hz, h1, h2⟩ := hasB_iff.1 h0
      have := hr z hz; omega
    by_cases h1 : x.1 ≤ t ∧ t < x.2
    · rw [hd h1]
      simp [h1]
    · have : (decide (x.1 ≤ t) && decide (t < x.2)) = false := by
        rw [Bool.eq_false_iff]; simp only [ne_eq, Bool.and_eq_true, decide_eq_true_eq]; exact h1
      rw [this, if_neg (by intro h; exact h1 h.2), Bool.false_or, Nat.zero_add]
theorem cnt_raw (t : Int) {nb : List Sp} (hn : NormP nb) : ∀ l : List Stay, cntS (cutRaw l nb) t = if hasB nb t = true then cntS l t else 0
  | [] => by simp [cutRaw, cntS]
  | s :: l => by
    show cntS (nb.flatMap (meetS s) ++ cutRaw l nb) t = _
    rw [cnt_append, cnt_stay s t hn, cnt_raw t hn l, show s :: l = [s] ++ l from rfl, cnt_append]
    have : cntS [s] t = if s.1.1 ≤ t ∧ t < s.1.2 then 1 else 0 := by
      simp only [cntS, List.filter_cons, List.filter_nil]
      by_cases h : s.1.1 ≤ t ∧ t < s.1.2
      · rw [if_pos h, if_pos (by simpa using h)]; rfl
      · rw [if_neg h, if_neg (by simpa using h)]; rfl
    rw [this]
    by_cases h : hasB nb t = true <;> simp [h]
theorem cnt_cut (l : List Stay) (b : List Sp) (t : Int) : cntS (cutS l b) t = if hasB b t = true then cntS l t else 0 := by
  rw [cutS, cnt_perm (sortS_perm _), cnt_raw t (norm_spec b).1, (norm_spec b).2]
theorem cnt_le (l : List Stay) (t : Int) : cntS l t ≤ l.length := List.length_filter_le _ _
theorem cnt_next_t {l : List Stay} {t : Int} {k : Nat} (hk : k < l.length) (h : (decide (l[k].1.1 ≤ t) && decide (t < l[k].1.2)) = true) : cntS (l.take (k + 1)) t = cntS (l.take k) t + 1 := by
  rw [← List.take_append_getElem hk, cnt_append]
  simp only [cntS, List.filter_cons, List.filter_nil, if_pos h]; rfl
theorem cnt_next_f {l : List Stay} {t : Int} {k : Nat} (hk : k < l.length) (h : (decide (l[k].1.1 ≤ t) && decide (t < l[k].1.2)) = false) : cntS (l.take (k + 1)) t = cntS (l.take k) t := by
  rw [← List.take_append_getElem hk, cnt_append]
  simp only [cntS, List.filter_cons, List.filter_nil, h]; rfl
theorem join_has (a b : List Sp) (t : Int) : hasB (normL (List.flatten [a, lessL b a])) t = (hasB a t || (hasB b t && !hasB a t)) := by
  rw [(norm_spec _).2]
  have : hasB (List.flatten [a, lessL b a]) t = (hasB a t || hasB (lessL b a) t) := by
    rw [List.flatten_cons, List.flatten_cons, List.flatten_nil, List.append_nil, hasB_append]
  rw [this, (less_spec _ _).2]
theorem parts_sum (l : List Stay) (a b : List Sp) (t : Int) : ((cntS (cutS l a) t : Nat) : Int) + ((cntS (cutS l (lessL b a)) t : Nat) : Int) = ((cntS (cutS l (normL (List.flatten [a, lessL b a]))) t : Nat) : Int) := by
  rw [cnt_cut, cnt_cut, cnt_cut, join_has, (less_spec _ _).2]
  cases hasB a t <;> cases hasB b t <;> simp
theorem parts_has {l : List Stay} {a b : List Sp} {t : Int} (h : ¬ ((cntS (cutS l (normL (List.flatten [a, lessL b a]))) t : Nat) : Int) = 0) : hasB (normL (List.flatten [a, lessL b a])) t = true := by
  rw [cnt_cut] at h
  cases e : hasB (normL (List.flatten [a, lessL b a])) t
  · rw [e] at h; simp at h
  · rfl
end Go.Abs
