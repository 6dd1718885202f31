import Derived.Test.YtcjchfocohagdaaV2
import Derived.Test.YtcjchfocohagdaaU1
set_option linter.unusedVariables false
set_option linter.unusedSimpArgs false
namespace Go.Abs
/-- A stay: its span; its session, and its status. -/
abbrev Stay := Sp × (Int × Int)
def stC (s : Stay) : List AV := [.s (.int .i64 s.1.1), .s (.int .i64 s.1.2), .s (.int .i64 s.2.1), .s (.int .i64 s.2.2)]
theorem stC_leaf (s : Stay) : ∀ c ∈ stC s, c.leaf = true := by simp [stC, AV.leaf, Value.oneCell']
def cmpS (a b : Stay) : Int := orI [cmpI a.1.1 b.1.1, cmpI a.1.2 b.1.2, cmpI a.2.1 b.2.1, cmpI a.2.2 b.2.2]
theorem cmpS_lex : cmpS = lexC (fun a b : Stay => cmpI a.1.1 b.1.1) (lexC (fun a b => cmpI a.1.2 b.1.2) (lexC (fun a b => cmpI a.2.1 b.2.1) (fun a b => cmpI a.2.2 b.2.2))) := by
  funext p q
  simp only [cmpS, orI, lexC]
  (repeat' split) <;> simp_all
theorem cmpS_tri : Tri cmpS := by
  rw [cmpS_lex]
  exact (cmpI_tri.comap fun a : Stay => a.1.1).lex ((cmpI_tri.comap fun a : Stay => a.1.2).lex ((cmpI_tri.comap fun a : Stay => a.2.1).lex (cmpI_tri.comap fun a : Stay => a.2.2)))
theorem cmpI_eq {a b : Int} : cmpI a b = 0 ↔ a = b := by unfold cmpI; (repeat' split) <;> omega
theorem cmpS_eq {a b : Stay} : cmpS a b = 0 ↔ a = b := by
  rw [cmpS_lex, lexC_zero, lexC_zero, lexC_zero, cmpI_eq, cmpI_eq, cmpI_eq, cmpI_eq, Prod.ext_iff, Prod.ext_iff, Prod.ext_iff, and_assoc]
def okS (s : Stay) : Bool := decide (s.1.1 < s.1.2)
def nextS (a b : Stay) : Bool := decide (cmpS a b < 0)
def risS (l : List Stay) : Bool := risP okS nextS none l
theorem risS_iff (l : List Stay) : risS l = true ↔ (∀ x ∈ l, okS x = true) ∧ l.Pairwise fun a b => cmpS a b < 0 := by
  rw [risS, ris_pair (fun a b => cmpS a b < 0) (fun x y => by simp [nextS]) (fun x y z _ h1 h2 => cmpS_tri.lt_tr h1 h2)]
  simp
/-- Sorted rows of the same are the same. -/
theorem srt_unique {α : Type} {c : α → α → Int} (hc : Tri c) (h0 : ∀ x y, c x y = 0 → x = y) : ∀ {a b : List α}, Srt c a → Srt c b → a.Perm b → a = b
  | [], b, _, _, hp => by have := hp.length_eq; exact (List.eq_nil_of_length_eq_zero (by simpa using this.symm)).symm
  | x :: a, [], _, _, hp => by have := hp.length_eq; simp at this
  | x :: a, y :: b, ha, hb, hp => by
    have e : x = y := by
      have h1 : x ∈ y :: b := hp.mem_iff.1 (by simp)
      have h2 : y ∈ x :: a := hp.mem_iff.2 (by simp)
      rcases List.mem_cons.1 h1 with e | h1
      · exact e
      · rcases List.mem_cons.1 h2 with e | h2
        · exact e.symm
        · have e1 := (List.pairwise_cons.1 ha).1 y h2
          have e2 := (List.pairwise_cons.1 hb).1 x h1
          have := hc.swap x y
          exact h0 x y (by omega)
    subst e
    rw [srt_unique hc h0 (List.pairwise_cons.1 ha).2 (List.pairwise_cons.1 hb).2 (List.Perm.cons_inv hp)]
/-- Put behind all that are not above it (from the front). -/
def insA : List Stay → Stay → List Stay
  | [], x => [x]
  | y :: r, x => if cmpS x y < 0 then x :: y :: r else y :: insA r x
theorem insA_at (x : Stay) : ∀ (l : List Stay) (k : Nat), k ≤ l.length → (∀ (j : Nat) (hj : j < l.length), j < k → ¬ cmpS x l[j] < 0) → (∀ (h : k < l.length), cmpS x l[k] < 0) → insA l x = l.take k ++ x :: l.drop k
  | [], k, hk, _, _ => by have : k = 0 := by simpa using hk
                          subst this; rfl
  | y :: l, 0, _, _, h => by have := h (by simp); simp only [List.getElem_cons_zero] at this; simp [insA, this]
  | y :: l, k + 1, hk, h1, h2 => by
    have hx := h1 0 (by simp) (by omega)
    simp only [List.getElem_cons_zero] at hx
    rw [insA, if_neg hx, insA_at x l k (by simpa using hk) (fun j hj hjk => by have := h1 (j + 1) (by simpa using hj) (by omega); simpa using this) (fun h => by have := h2 (by simpa using h); simpa using this)]
    rfl
theorem insA_perm (x : Stay) : ∀ l : List Stay, (insA l x).Perm (x :: l)
  | [] => .refl _
  | y :: l => by
    rw [insA]; split
    · exact .refl _
    · exact ((insA_perm x l).cons y).trans (List.Perm.swap x y l)
theorem insA_srt {x : Stay} : ∀ {l : List Stay}, Srt cmpS l → Srt cmpS (insA l x)
  | [], _ => List.pairwise_singleton _ _
  | y :: l, h => by
    obtain ⟨h1, h2⟩ := List.pairwise_cons.1 h
    rw [insA]; split
    · rename_i h0
      refine List.pairwise_cons.2 ⟨fun z hz => ?_, h⟩
      rcases List.mem_cons.1 hz with rfl | hz
      · omega
      · exact cmpS_tri.tr x y z (by omega) (h1 z hz)
    · rename_i h0
      refine List.pairwise_cons.2 ⟨fun z hz => ?_, insA_srt h2⟩
      rcases List.mem_cons.1 ((insA_perm x l).mem_iff.1 hz) with rfl | hz
      · have := cmpS_tri.swap z y; omega
      · exact h1 z hz
def sortS (l : List Stay) : List Stay := l.foldl insA []
theorem sort_aux : ∀ (l out : List Stay), Srt cmpS out → Srt cmpS (l.foldl insA out) ∧ (l.foldl insA out).Perm (out ++ l)
  | [], out, h => ⟨h, by simp⟩
  | x :: l, out, h => by
    obtain ⟨h1, h2⟩ := sort_aux l (insA out x) (insA_srt h)
    exact ⟨h1, h2.trans (((insA_perm x out).append_right l).trans List.perm_middle.symm)⟩
theorem sortS_srt (l : List Stay) : Srt cmpS (sortS l) := (sort_aux l [] List.Pairwise.nil).1
theorem sortS_perm (l : List Stay) : (sortS l).Perm l := (sort_aux l [] List.Pairwise.nil).2
theorem sortS_of {l t : List Stay} (hp : t.Perm l) (hs : Srt cmpS t) : t = sortS l :=
  srt_unique cmpS_tri (fun _ _ h => cmpS_eq.1 h) hs (sortS_srt l) (hp.trans (sortS_perm l).symm)
theorem sortS_len (l : List Stay) : (sortS l).length = l.length := (sortS_perm l).length_eq
/-- Put behind the last one that is not above it. -/
def insL : List Stay → Stay → List Stay
  | [], s => [s]
  | x :: l, s => if (x :: l).all (fun y => decide (0 < cmpS y s)) = true then s :: x :: l else x :: insL l s
theorem insL_at (s : Stay) : ∀ (l : List Stay) (k : Nat), k ≤ l.length → (∀ (j : Nat) (hj : j < l.length), k ≤ j → 0 < cmpS l[j] s) → (∀ (h0 : 0 < k) (h : k - 1 < l.length), cmpS l[k - 1] s ≤ 0) → insL l s = l.take k ++ s :: l.drop k
  | [], k, hk, _, _ => by have : k = 0 := by simpa using hk
                          subst this; rfl
  | x :: l, 0, _, h, _ => by
    rw [insL, if_pos]
    · rfl
    · rw [List.all_eq_true]
      intro y hy
      obtain ⟨j, hj, rfl⟩ := List.mem_iff_getElem.1 hy
      simpa using h j hj (Nat.zero_le _)
  | x :: l, k + 1, hk, h1, h2 => by
    have hn := h2 (by omega) (by simp at hk ⊢; omega)
    rw [insL, if_neg]
    · rw [insL_at s l k (by simpa using hk) (fun j hj hkj => by have := h1 (j + 1) (by simpa using hj) (by omega); simpa using this) (fun h0 h => by
        have e : (x :: l)[k + 1 - 1]'(by simp at hk ⊢; omega) = l[k - 1]'h := by
          simp only [Nat.add_sub_cancel]
          obtain ⟨k', rfl⟩ : ∃ k', k = k' + 1 := ⟨k - 1, by omega⟩
          simp
        rw [e] at hn; exact hn)]
      rfl
    · rw [List.all_eq_true]
      intro hall
      have := hall _ (List.getElem_mem (show k + 1 - 1 < (x :: l).length by simp at hk ⊢; omega))
      simp only [decide_eq_true_eq] at this
      omega
theorem insL_perm (s : Stay) : ∀ l : List Stay, (insL l s).Perm (s :: l)
  | [] => .refl _
  | x :: l => by
    rw [insL]; split
    · exact .refl _
    · exact ((insL_perm s l).cons x).trans (List.Perm.swap s x l)
theorem insL_len (l : List Stay) (s : Stay) : (insL l s).length = l.length + 1 := by simpa using (insL_perm s l).length_eq
theorem insL_srt {s : Stay} : ∀ {l : List Stay}, Srt cmpS l → Srt cmpS (insL l s)
  | [], _ => List.pairwise_singleton _ _
  | x :: l, h => by
    obtain ⟨h1, h2⟩ := List.pairwise_cons.1 h
    rw [insL]; split
    · rename_i h0
      rw [List.all_eq_true] at h0
      refine List.pairwise_cons.2 ⟨fun z hz => ?_, h⟩
      have := h0 z hz
      simp only [decide_eq_true_eq] at this
      have := cmpS_tri.swap z s; omega
    · rename_i h0
      refine List.pairwise_cons.2 ⟨fun z hz => ?_, insL_srt h2⟩
      rcases List.mem_cons.1 ((insL_perm s l).mem_iff.1 hz) with rfl | hz
      · -- some one of the row is not above it: so the first one is not
        have h3 : ∃ y ∈ x :: l, ¬ 0 < cmpS y z := by
          apply Classical.byContradiction
          intro hn
          exact h0 (List.all_eq_true.2 fun y hy => by
            simp only [decide_eq_true_eq]
            apply Classical.byContradiction
            intro hh
            exact hn ⟨y, hy, hh⟩)
        obtain ⟨y, hy, hyz⟩ := h3
        rcases List.mem_cons.1 hy with rfl | hy
        · omega
        · exact cmpS_tri.tr x y z (h1 y hy) (by omega)
      · exact h1 z hz
def addS (l : List Stay) (s : Stay) : List Stay := if s.1.2 ≤ s.1.1 then l else insL l s
theorem addS_len (l : List Stay) (s : Stay) : (addS l s).length ≤ l.length + 1 := by
  unfold addS; split
  · omega
  · rw [insL_len]; omega
def meetS (s : Stay) (b : Sp) : List Stay := if (meet1 s.1 b).2 ≤ (meet1 s.1 b).1 then [] else [(meet1 s.1 b, s.2)]
def cutRaw (l : List Stay) (by' : List Sp) : List Stay := l.flatMap fun s => by'.flatMap (meetS s)
def cutS (l : List Stay) (b : List Sp) : List Stay := sortS (cutRaw l (normL b))
def lastStep (acc : Int × Bool) (s : Stay) : Int × Bool := if s.1.1 < s.1.2 ∧ (acc.2 = false ∨ acc.1 < s.1.2) then (s.1.2, true) else acc
def lastS (l : List Stay) : Int × Bool := l.foldl lastStep (0, false)
theorem srt_of_lt {l : List Stay} (h : l.Pairwise fun a b => cmpS a b < 0) : Srt cmpS l := h.imp fun h => by omega
/-- A rising row with one more. -/
theorem ris_add {l : List Stay} {s : Stay} (h : risS l = true) : risS (addS l s) = !(l.any fun y => decide (y = s)) := by
  obtain ⟨h1, h2⟩ := (risS_iff l).1 h
  unfold addS
  split
  · rename_i h0
    have : l.any (fun y => decide (y = s)) = false := by
      rw [Bool.eq_false_iff]; intro ha
      obtain ⟨y, hy, e⟩ := List.any_eq_true.1 ha
      simp only [decide_eq_true_eq] at e
      subst e
      have := h1 y hy
      simp only [okS, decide_eq_true_eq] at this; omega
    rw [this, h]; rfl
  · rename_i h0
    have hs := insL_srt (s := s) (srt_of_lt h2)
    cases ha : l.any (fun y => decide (y = s))
    · rw [Bool.not_false, risS_iff]
      refine ⟨fun x hx => ?_, ?_⟩
      · rcases List.mem_cons.1 ((insL_perm s l).mem_iff.1 hx) with rfl | hx
        · simp only [okS, decide_eq_true_eq]; omega
        · exact h1 x hx
      · have hnd : (insL l s).Nodup := by
          rw [(insL_perm s l).nodup_iff]
          refine List.nodup_cons.2 ⟨fun hm => ?_, ?_⟩
          · rw [Bool.eq_false_iff] at ha
            exact ha (List.any_eq_true.2 ⟨s, hm, by simp⟩)
          · exact h2.imp fun {a b} h e => by subst e; have := cmpS_tri.self a; omega
        refine (List.Pairwise.and hs hnd).imp fun {a b} ⟨h3, h4⟩ => ?_
        rcases Int.lt_or_eq_of_le h3 with e | e
        · exact e
        · exact absurd (cmpS_eq.1 e) h4
    · rw [Bool.not_true, Bool.eq_false_iff]
      intro hr
      obtain ⟨y, hy, e⟩ := List.any_eq_true.1 ha
      simp only [decide_eq_true_eq] at e
      subst e
      have hnd : (insL l y).Nodup := ((risS_iff _).1 hr).2.imp fun {a b} h e => by subst e; have := cmpS_tri.self a; omega
      rw [(insL_perm y l).nodup_iff] at hnd
      exact (List.nodup_cons.1 hnd).1 hy
theorem add_comm {l : List Stay} {a b : Stay} (h : risS l = true) : addS (addS l a) b = addS (addS l b) a := by
  have hs := srt_of_lt ((risS_iff l).1 h).2
  unfold addS
  split <;> split <;> try rfl
  exact srt_unique cmpS_tri (fun _ _ h => cmpS_eq.1 h) (insL_srt (insL_srt hs)) (insL_srt (insL_srt hs)) (((insL_perm _ _).trans ((insL_perm _ _).cons _)).trans ((List.Perm.swap _ _ _).trans (((insL_perm _ _).trans ((insL_perm _ _).cons _)).symm)))
theorem stC_eq (x y : Stay) : (((x.1.1 == y.1.1 && (x.1.2 == y.1.2 && true))) && (x.2.1 == y.2.1 && (x.2.2 == y.2.2 && true))) = decide (x = y) := by
  rw [Bool.eq_iff_iff]
  simp only [Bool.and_eq_true, beq_iff_eq, and_true, decide_eq_true_eq, Prod.ext_iff]
theorem stC_eqF (x y : Stay) : (x.1.1 == y.1.1 && (x.1.2 == y.1.2 && (x.2.1 == y.2.1 && (x.2.2 == y.2.2 && true)))) = decide (x = y) := by
  rw [Bool.eq_iff_iff]
  simp only [Bool.and_eq_true, beq_iff_eq, and_true, decide_eq_true_eq, Prod.ext_iff, and_assoc]
theorem cmpI_lt {a b : Int} : cmpI a b < 0 ↔ a < b := by unfold cmpI; (repeat' split) <;> omega
theorem cmpI_self (a : Int) : cmpI a a = 0 := cmpI_eq.2 rfl
theorem ah1 {a b : Stay} (h : ¬ a.1.1 = b.1.1) : decide (a.1.1 < b.1.1) = decide (cmpS a b < 0) := by
  have : cmpS a b = cmpI a.1.1 b.1.1 := by rw [cmpS, orI, if_pos (fun e => h (cmpI_eq.1 e))]
  rw [this, Bool.eq_iff_iff, decide_eq_true_eq, decide_eq_true_eq, cmpI_lt]
theorem ah2 {a b : Stay} (h1 : a.1.1 = b.1.1) (h : ¬ a.1.2 = b.1.2) : decide (a.1.2 < b.1.2) = decide (cmpS a b < 0) := by
  have : cmpS a b = cmpI a.1.2 b.1.2 := by rw [cmpS, h1, cmpI_self, orI, if_neg (by simp), orI, if_pos (fun e => h (cmpI_eq.1 e))]
  rw [this, Bool.eq_iff_iff, decide_eq_true_eq, decide_eq_true_eq, cmpI_lt]
theorem ah3 {a b : Stay} (h1 : a.1.1 = b.1.1) (h2 : a.1.2 = b.1.2) (h : ¬ a.2.1 = b.2.1) : decide (a.2.1 < b.2.1) = decide (cmpS a b < 0) := by
  have : cmpS a b = cmpI a.2.1 b.2.1 := by rw [cmpS, h1, h2, cmpI_self, cmpI_self, orI, if_neg (by simp), orI, if_neg (by simp), orI, if_pos (fun e => h (cmpI_eq.1 e))]
  rw [this, Bool.eq_iff_iff, decide_eq_true_eq, decide_eq_true_eq, cmpI_lt]
theorem ah4 {a b : Stay} (h1 : a.1.1 = b.1.1) (h2 : a.1.2 = b.1.2) (h3 : a.2.1 = b.2.1) : decide (a.2.2 < b.2.2) = decide (cmpS a b < 0) := by
  have : cmpS a b < 0 ↔ cmpI a.2.2 b.2.2 < 0 := by
    rw [cmpS, h1, h2, h3, cmpI_self, cmpI_self, cmpI_self, orI, if_neg (by simp), orI, if_neg (by simp), orI, if_neg (by simp), orI, orI]
    split
    · exact Iff.rfl
    · rename_i h; omega
  rw [Bool.eq_iff_iff, decide_eq_true_eq, decide_eq_true_eq, this, cmpI_lt]
theorem take_flatM {α β : Type} (l : List α) (f : α → List β) (k : Nat) (h : k < l.length) : (l.take (k + 1)).flatMap f = (l.take k).flatMap f ++ f l[k] := by
  rw [← List.take_append_getElem h, List.flatMap_append]; simp
theorem cut_next {l : List Stay} {b : List Sp} {k : Nat} (h : k < l.length) : cutRaw (l.take (k + 1)) b = cutRaw (l.take k) b ++ b.flatMap (meetS l[k]) := take_flatM l _ k h
theorem meetS_t {s : Stay} {b : Sp} (h : (meet1 s.1 b).2 ≤ (meet1 s.1 b).1) : meetS s b = [] := if_pos h
theorem meetS_f {s : Stay} {b : Sp} (h : ¬ (meet1 s.1 b).2 ≤ (meet1 s.1 b).1) : meetS s b = [(meet1 s.1 b, s.2)] := if_neg h
theorem any_next {l : List Stay} {p : Stay → Bool} {k : Nat} (h : k < l.length) : (l.take (k + 1)).any p = ((l.take k).any p || p l[k]) := by
  rw [← List.take_append_getElem h, List.any_append]; simp
theorem cut_len (l : List Stay) (b : List Sp) : (cutS l b).length ≤ l.length * (normL b).length := by
  rw [cutS, sortS_len]
  have : ∀ (l : List Stay) (c : List Sp), (cutRaw l c).length ≤ l.length * c.length := by
    intro l c
    induction l with
    | nil => simp [cutRaw]
    | cons s l ih =>
      have h1 : (c.flatMap (meetS s)).length ≤ c.length := by
        clear ih
        induction c with
        | nil => simp
        | cons x c ih =>
          rw [List.flatMap_cons, List.length_append, List.length_cons]
          have : (meetS s x).length ≤ 1 := by unfold meetS; split <;> simp
          omega
      simp only [cutRaw, List.flatMap_cons, List.length_append, List.length_cons, Nat.add_mul, Nat.one_mul] at *
      omega
  exact this l _
end Go.Abs
