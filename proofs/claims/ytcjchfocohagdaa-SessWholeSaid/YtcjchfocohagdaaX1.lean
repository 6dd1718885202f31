import Derived.Test.YtcjchfocohagdaaH1
import Derived.Test.YtcjchfocohagdaaU3
set_option linter.unusedVariables false
set_option linter.unusedSimpArgs false
namespace Go.Abs
/-- An open session: its number, its user; its status, since when. -/
abbrev Se := (Int × ByteArray) × (Int × Int)
def seC (e : Se) : List AV := [.s (.int .i64 e.1.1), .s (.string e.1.2), .s (.int .i64 e.2.1), .s (.int .i64 e.2.2)]
theorem seC_leaf (e : Se) : ∀ c ∈ seC e, c.leaf = true := by simp [seC, AV.leaf, Value.oneCell']
abbrev se0 : Se := ((0, ⟨#[]⟩), (0, 0))
abbrev st0 : Stay := ((0, 0), (0, 0))
theorem seC_eq (x y : Se) : (x.1.1 == y.1.1 && (x.1.2.toList == y.1.2.toList && (x.2.1 == y.2.1 && (x.2.2 == y.2.2 && true)))) = decide (x = y) := by
  rw [Bool.eq_iff_iff]
  simp only [Bool.and_eq_true, beq_iff_eq, toList_inj, and_true, decide_eq_true_eq, Prod.ext_iff, and_assoc]
theorem aeq_se {x y : Se} : aeqL [.int .i64, .str, .int .i64, .int .i64] (seC x) (seC y) = some (decide (x = y), [], []) := by
  rw [← seC_eq]; rfl
/-- Put ahead of the first one that it is told to. -/
def insG {α : Type} (q : α → Bool) (e : α) : List α → List α
  | [] => [e]
  | x :: l => if q x = true then e :: x :: l else x :: insG q e l
theorem insG_at {α : Type} (q : α → Bool) (e : α) : ∀ (l : List α) (k : Nat), k ≤ l.length → (∀ (j : Nat) (hj : j < l.length), j < k → q l[j] = false) → (∀ (h : k < l.length), q l[k] = true) → insG q e l = l.take k ++ e :: l.drop k
  | [], k, hk, _, _ => by have : k = 0 := by simpa using hk
                          subst this; rfl
  | x :: l, 0, _, _, h => by have := h (by simp); simp only [List.getElem_cons_zero] at this; simp [insG, this]
  | x :: l, k + 1, hk, h1, h2 => by
    have hx := h1 0 (by simp) (by omega)
    simp only [List.getElem_cons_zero] at hx
    rw [insG, if_neg (by simp [hx]), insG_at q e l k (by simpa using hk) (fun j hj hjk => by have := h1 (j + 1) (by simpa using hj) (by omega); simpa using this) (fun h => by have := h2 (by simpa using h); simpa using this)]
    rfl
theorem insG_len {α : Type} (q : α → Bool) (e : α) : ∀ l : List α, (insG q e l).length = l.length + 1
  | [] => rfl
  | x :: l => by rw [insG]; split <;> simp [insG_len q e l]
theorem insG_mem {α : Type} {q : α → Bool} {e x : α} : ∀ {l : List α}, x ∈ insG q e l ↔ x = e ∨ x ∈ l
  | [] => by simp [insG]
  | y :: l => by
    rw [insG]; split
    · simp
    · simp only [List.mem_cons, insG_mem (l := l)]
      constructor
      · rintro (h | h | h) <;> simp [h]
      · rintro (h | h | h) <;> simp [h]
def isN (n : Int) (e : Se) : Bool := decide (e.1.1 = n)
def hasN (l : List Se) (n : Int) : Bool := l.any (isN n)
def fndL : List Se → Int → Se
  | [], _ => se0
  | e :: l, n => if isN n e = true then e else fndL l n
/-- Why a session may not be: 101: it is not; 102: it is another one's. -/
def codeS : List Se → Int → ByteArray → Int
  | [], _, _ => 101
  | e :: l, n, u => if isN n e = true then (if e.1.2 = u then 0 else 102) else codeS l n u
def chgL : List Se → Int → Int → Int → List Se
  | [], _, _, _ => []
  | e :: l, n, st, t => if isN n e = true then (e.1, (st, t)) :: l else e :: chgL l n st t
def clsL : List Se → Int → List Se
  | [], _ => []
  | e :: l, n => if isN n e = true then l else e :: clsL l n
def atK (l : List Se) (n : Int) : Nat := l.findIdx (isN n)
theorem at_here (n : Int) (u : ByteArray) (st t : Int) : ∀ (l : List Se) (k : Nat) (hk : k < l.length), (∀ (j : Nat) (hj : j < l.length), j < k → isN n l[j] = false) → isN n l[k] = true →
    atK l n = k ∧ fndL l n = l[k] ∧ codeS l n u = (if l[k].1.2 = u then 0 else 102) ∧ chgL l n st t = l.set k (l[k].1, (st, t)) ∧ clsL l n = l.take k ++ l.drop (k + 1)
  | [], k, hk, _, _ => by simp at hk
  | x :: l, 0, _, _, h => by
    simp only [List.getElem_cons_zero] at h
    simp [atK, fndL, codeS, chgL, clsL, h, List.findIdx_cons]
  | x :: l, k + 1, hk, h1, h2 => by
    have hx := h1 0 (by simp) (by omega)
    simp only [List.getElem_cons_zero] at hx
    obtain ⟨e1, e2, e3, e4, e5⟩ := at_here n u st t l k (by simpa using hk) (fun j hj hjk => by have := h1 (j + 1) (by simpa using hj) (by omega); simpa using this) (by simpa using h2)
    have hx' : ¬ isN n x = true := by simp [hx]
    refine ⟨?_, ?_, ?_, ?_, ?_⟩
    · rw [atK] at *; rw [List.findIdx_cons, hx, e1]; rfl
    · rw [fndL, if_neg hx', e2]; rfl
    · rw [codeS, if_neg hx', e3]; rfl
    · rw [chgL, if_neg hx', e4]; rfl
    · rw [clsL, if_neg hx', e5]; rfl
theorem at_none (n : Int) (u : ByteArray) : ∀ (l : List Se), (∀ (j : Nat) (hj : j < l.length), isN n l[j] = false) → atK l n = l.length ∧ codeS l n u = 101 ∧ hasN l n = false
  | [], _ => ⟨rfl, rfl, rfl⟩
  | x :: l, h => by
    have hx := h 0 (by simp)
    simp only [List.getElem_cons_zero] at hx
    obtain ⟨e1, e2, e3⟩ := at_none n u l (fun j hj => by have := h (j + 1) (by simpa using hj); simpa using this)
    refine ⟨?_, ?_, ?_⟩
    · rw [atK] at *; rw [List.findIdx_cons, hx, e1]; rfl
    · rw [codeS, if_neg (by simp [hx]), e2]
    · rw [hasN] at *; rw [List.any_cons, hx, e3]; rfl
theorem code_cases (l : List Se) (n : Int) (u : ByteArray) : (codeS l n u = 101 ∧ hasN l n = false ∧ atK l n = l.length) ∨ (hasN l n = true ∧ codeS l n u ≠ 101 ∧ ∃ k, ∃ hk : k < l.length, isN n l[k] = true ∧ (∀ (j : Nat) (hj : j < l.length), j < k → isN n l[j] = false) ∧ atK l n = k ∧ codeS l n u = (if l[k].1.2 = u then 0 else 102)) := by
  rcases idxB_cases (isN n) l with ⟨_, h⟩ | ⟨k, hk, _, h1, h2⟩
  · obtain ⟨e1, e2, e3⟩ := at_none n u l (fun j hj => h _ (List.getElem_mem hj))
    exact .inl ⟨e2, e3, e1⟩
  · obtain ⟨e1, _, e3, _⟩ := at_here n u 0 0 l k hk h2 h1
    exact .inr ⟨List.any_eq_true.2 ⟨_, List.getElem_mem hk, h1⟩, by rw [e3]; split <;> decide, k, hk, h1, h2, e1, e3⟩
theorem code_ok {l : List Se} {n : Int} {u : ByteArray} (h : codeS l n u = 0) : ∃ k, ∃ hk : k < l.length, atK l n = k ∧ isN n l[k] = true ∧ l[k].1.2 = u ∧ ∀ (j : Nat) (hj : j < l.length), j < k → isN n l[j] = false := by
  rcases code_cases l n u with ⟨e, _⟩ | ⟨_, _, k, hk, h1, h2, h3, h4⟩
  · omega
  · refine ⟨k, hk, h3, h1, ?_, h2⟩
    rw [h4] at h
    split at h
    · assumption
    · omega
theorem code_not {l : List Se} {n : Int} {u : ByteArray} : codeS l n u = 101 ↔ hasN l n = false := by
  rcases code_cases l n u with ⟨e, h, _⟩ | ⟨e, h, _⟩
  · simp [e, h]
  · simp [e, h]
def opnS (l : List Se) (e : Se) : Int := if hasN l e.1.1 = true then 100 else if 16 ≤ l.length then 103 else 0
def aboveN (n : Int) (x : Se) : Bool := decide (n < x.1.1)
def opnL (l : List Se) (e : Se) : List Se := insG (aboveN e.1.1) e l
def stayOf (e : Se) (t : Int) : Stay := ((e.2.2, t), (e.1.1, e.2.1))
def okE10 (e : Se) : Bool := rightB e.1.2 && (decide (1 ≤ e.1.1) && decide (e.1.1 ≤ 999) && (decide (1 ≤ e.2.1) && decide (e.2.1 ≤ 4)) && (decide (0 ≤ e.2.2) && decide (e.2.2 ≤ 1099511627775)))
def nextN (a b : Se) : Bool := decide (a.1.1 < b.1.1)
def risX (l : List Se) : Bool := risP okE10 nextN none l && decide (l.length ≤ 16)
theorem risX_iff (l : List Se) : risX l = true ↔ ((∀ x ∈ l, okE10 x = true) ∧ l.Pairwise fun a b => a.1.1 < b.1.1) ∧ l.length ≤ 16 := by
  rw [risX, Bool.and_eq_true, decide_eq_true_eq, ris_pair (fun a b : Se => a.1.1 < b.1.1) (fun x y => by simp [nextN]) (fun x y z _ h1 h2 => Int.lt_trans h1 h2)]
  simp
theorem opn_ris {l : List Se} {e : Se} (h : risX l = true) (he : risX [e] = true) (ho : opnS l e = 0) : risX (opnL l e) = true := by
  obtain ⟨⟨h1, h2⟩, h3⟩ := (risX_iff l).1 h
  have h4 := ((risX_iff [e]).1 he).1.1 e (by simp)
  unfold opnS at ho
  split at ho
  · omega
  · rename_i hn
    split at ho
    · omega
    · rename_i h16
      refine (risX_iff _).2 ⟨⟨fun x hx => ?_, ?_⟩, by rw [opnL, insG_len]; omega⟩
      · rcases insG_mem.1 hx with rfl | hx
        · exact h4
        · exact h1 x hx
      · have hne : ∀ x ∈ l, x.1.1 ≠ e.1.1 := fun x hx hh => hn (List.any_eq_true.2 ⟨x, hx, by simp [isN, hh]⟩)
        clear h1 h h3 h16 ho hn
        revert h2 hne
        induction l with
        | nil => intro _ _; exact List.pairwise_singleton _ _
        | cons x l ih =>
          intro h2 hne
          obtain ⟨q1, q2⟩ := List.pairwise_cons.1 h2
          have hx := hne x (by simp)
          rw [opnL, insG]
          split
          · rename_i hq
            simp only [aboveN, decide_eq_true_eq] at hq
            refine List.pairwise_cons.2 ⟨fun y hy => ?_, h2⟩
            rcases List.mem_cons.1 hy with rfl | hy
            · exact hq
            · have := q1 y hy; omega
          · rename_i hq
            simp only [aboveN, decide_eq_true_eq] at hq
            refine List.pairwise_cons.2 ⟨fun y hy => ?_, ih q2 (fun y hy => hne y (by simp [hy]))⟩
            rcases insG_mem.1 hy with rfl | hy
            · omega
            · exact q1 y hy
/-- Opened, and closed. -/
theorem opn_cls {e : Se} : ∀ {l : List Se}, hasN l e.1.1 = false → clsL (opnL l e) e.1.1 = l ∧ codeS (opnL l e) e.1.1 e.1.2 = 0 ∧ fndL (opnL l e) e.1.1 = e
  | [], _ => by simp [opnL, insG, clsL, codeS, fndL, isN]
  | x :: l, h => by
    simp only [hasN, List.any_cons, Bool.or_eq_false_iff] at h
    obtain ⟨e1, e2, e3⟩ := opn_cls (e := e) (l := l) h.2
    have hx : ¬ isN e.1.1 x = true := by simp [h.1]
    rw [opnL, insG]
    split
    · simp [clsL, codeS, fndL, isN]
    · rw [opnL] at e1 e2 e3
      rw [clsL, if_neg hx, codeS, if_neg hx, fndL, if_neg hx]
      exact ⟨by rw [e1], e2, e3⟩
theorem isN_ne {n m : Int} {e : Se} (h : isN n e = true) (hne : n ≠ m) : isN m e = false := by
  simp only [isN, decide_eq_true_eq] at h
  simp [isN, h, hne]
theorem oth_opn {n : Int} {u : ByteArray} {e : Se} (h : n ≠ e.1.1) : ∀ (l : List Se), codeS (opnL l e) n u = codeS l n u ∧ fndL (opnL l e) n = fndL l n
  | [] => by
    have : ¬ isN n e = true := by simp only [isN, decide_eq_true_eq]; exact fun hh => h hh.symm
    rw [opnL, insG]; unfold codeS fndL; rw [if_neg this, if_neg this]; exact ⟨rfl, rfl⟩
  | x :: l => by
    have hn : ¬ isN n e = true := by simp only [isN, decide_eq_true_eq]; exact fun hh => h hh.symm
    obtain ⟨e1, e2⟩ := oth_opn (u := u) h l
    rw [opnL] at e1 e2
    rw [opnL, insG]
    split
    · rw [codeS, if_neg hn, fndL, if_neg hn]; exact ⟨rfl, rfl⟩
    · rw [codeS, codeS, e1, fndL, fndL, e2]; exact ⟨rfl, rfl⟩
theorem oth_chg {n m st t : Int} {u : ByteArray} (h : n ≠ m) : ∀ (l : List Se), codeS (chgL l m st t) n u = codeS l n u ∧ fndL (chgL l m st t) n = fndL l n
  | [] => ⟨rfl, rfl⟩
  | x :: l => by
    obtain ⟨e1, e2⟩ := oth_chg (st := st) (t := t) (u := u) h l
    rw [chgL]
    split
    · rename_i hx
      have hn : ¬ isN n x = true := by rw [isN_ne hx (Ne.symm h)]; simp
      have hn2 : ¬ isN n (x.1, (st, t)) = true := hn
      rw [codeS, if_neg hn2, codeS, if_neg hn, fndL, if_neg hn2, fndL, if_neg hn]; exact ⟨rfl, rfl⟩
    · rw [codeS, codeS, e1, fndL, fndL, e2]; exact ⟨rfl, rfl⟩
theorem oth_cls {n m : Int} {u : ByteArray} (h : n ≠ m) : ∀ (l : List Se), codeS (clsL l m) n u = codeS l n u ∧ fndL (clsL l m) n = fndL l n
  | [] => ⟨rfl, rfl⟩
  | x :: l => by
    obtain ⟨e1, e2⟩ := oth_cls (u := u) h l
    rw [clsL]
    split
    · rename_i hx
      have hn : ¬ isN n x = true := by rw [isN_ne hx (Ne.symm h)]; simp
      rw [codeS, if_neg hn, fndL, if_neg hn]; exact ⟨rfl, rfl⟩
    · rw [codeS, codeS, e1, fndL, fndL, e2]; exact ⟨rfl, rfl⟩
/-- A user's stays. -/
def hisB (u : ByteArray) (e : Se) : Bool := decide (e.1.2 = u)
def staysRaw (l : List Se) (u : ByteArray) (t : Int) : List Stay := l.flatMap fun e => if hisB u e = true ∧ ¬ t ≤ e.2.2 then [stayOf e t] else []
def staysL (l : List Se) (u : ByteArray) (t : Int) : List Stay := sortS (staysRaw l u t)
def staysStep (u : ByteArray) (t : Int) (out : List Stay) (e : Se) : List Stay := if hisB u e = true then addS out (stayOf e t) else out
theorem stays_aux (u : ByteArray) (t : Int) : ∀ (l : List Se) (out : List Stay), Srt cmpS out → Srt cmpS (l.foldl (staysStep u t) out) ∧ (l.foldl (staysStep u t) out).Perm (out ++ staysRaw l u t)
  | [], out, h => ⟨h, by simp [staysRaw]⟩
  | e :: l, out, h => by
    rw [List.foldl_cons]
    have hstep : Srt cmpS (staysStep u t out e) ∧ (staysStep u t out e).Perm (out ++ (if hisB u e = true ∧ ¬ t ≤ e.2.2 then [stayOf e t] else [])) := by
      unfold staysStep
      by_cases hu : hisB u e = true
      · rw [if_pos hu]
        by_cases ht : t ≤ e.2.2
        · rw [addS, if_pos (show (stayOf e t).1.2 ≤ (stayOf e t).1.1 from ht), if_neg (by simp [ht])]
          exact ⟨h, by simp⟩
        · rw [addS, if_neg (show ¬ (stayOf e t).1.2 ≤ (stayOf e t).1.1 from ht), if_pos ⟨hu, ht⟩]
          exact ⟨insL_srt h, (insL_perm _ _).trans (List.perm_append_comm (l₁ := [stayOf e t]))⟩
      · rw [if_neg hu, if_neg (by simp [hu])]
        exact ⟨h, by simp⟩
    obtain ⟨h1, h2⟩ := stays_aux u t l _ hstep.1
    refine ⟨h1, h2.trans ((hstep.2.append_right _).trans (List.Perm.of_eq ?_))⟩
    simp [staysRaw, List.append_assoc]
theorem stays_fold (l : List Se) (u : ByteArray) (t : Int) : l.foldl (staysStep u t) [] = staysL l u t := by
  obtain ⟨h1, h2⟩ := stays_aux u t l [] List.Pairwise.nil
  exact sortS_of (by simpa using h2) h1
theorem stays_len (l : List Se) (u : ByteArray) (t : Int) : (staysL l u t).length ≤ l.length := by
  rw [staysL, sortS_len]
  induction l with
  | nil => simp [staysRaw]
  | cons e l ih =>
    have : (if hisB u e = true ∧ ¬ t ≤ e.2.2 then [stayOf e t] else []).length ≤ 1 := by split <;> simp
    simp only [staysRaw, List.flatMap_cons, List.length_append, List.length_cons] at *
    omega
end Go.Abs
