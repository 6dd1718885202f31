import Derived.Test.YtcjchfocohagdaaQ7
import Derived.Test.YtcjchfocohagdaaQ4
import Derived.Test.YtcjchfocohagdaaT1
set_option linter.unusedVariables false
set_option linter.unusedSimpArgs false
namespace Go.Abs
open Go
/-- A row of texts. -/
def strs (l : List ByteArray) : List (List AV) := l.map fun s => [.s (.string s)]
theorem strs_at {l : List ByteArray} {k : Nat} (h : k < l.length) : (strs l)[((k : Nat) : Int).toNat]? = some [.s (.string l[k])] := by
  rw [Int.toNat_natCast]; simp [strs, h]
theorem strs_len (l : List ByteArray) : (strs l).length = l.length := by simp [strs]
/-- No text is longer than this. -/
abbrev TS (s : ByteArray) : Prop := s.size ≤ 9223372036854775807
abbrev TL (l : List ByteArray) : Prop := l.length ≤ 9223372036854775807 ∧ ∀ s ∈ l, TS s
def cmpFrom (a b : List UInt8) : Int := match a, b with
  | [], [] => 0
  | [], _ :: _ => -1
  | _ :: _, [] => 1
  | x :: a, y :: b => if x < y then -1 else if x > y then 1 else cmpFrom a b

theorem cmpFrom_drop (a b : ByteArray) (k : Nat) (ha : k < a.size) (hb : k < b.size) :
    cmpFrom (a.data.toList.drop k) (b.data.toList.drop k) = if a[k] < b[k] then -1 else if a[k] > b[k] then 1 else cmpFrom (a.data.toList.drop (k+1)) (b.data.toList.drop (k+1)) := by
  rw [List.drop_eq_getElem_cons (l := a.data.toList) (by simpa using ha), List.drop_eq_getElem_cons (l := b.data.toList) (by simpa using hb)]
  rfl
theorem cmpFrom_end (a b : ByteArray) (k : Nat) (h1 : k ≤ a.size) (h2 : k ≤ b.size) (h : a.size ≤ k ∨ b.size ≤ k) :
    cmpFrom (a.data.toList.drop k) (b.data.toList.drop k) = if a.size < b.size then -1 else if b.size < a.size then 1 else 0 := by
  have la : (a.data.toList.drop k).length = a.size - k := by simp
  have lb : (b.data.toList.drop k).length = b.size - k := by simp
  generalize a.data.toList.drop k = x at *
  generalize b.data.toList.drop k = y at *
  cases x <;> cases y <;> simp_all [cmpFrom] <;> (repeat' split) <;> first | rfl | omega
/-- How two texts compare. -/
def cmpB (a b : ByteArray) : Int := cmpFrom a.data.toList b.data.toList

def letterB (c : UInt8) : Bool := (decide (97 ≤ c.toNat) && decide (c.toNat ≤ 122)) || (decide (48 ≤ c.toNat) && decide (c.toNat ≤ 57))
def rightB (s : ByteArray) : Bool := decide (1 ≤ s.size) && decide (s.size ≤ 12) && s.data.toList.all letterB
theorem all_drop (p : UInt8 → Bool) (s : ByteArray) (k : Nat) (h : k < s.size) : (s.data.toList.drop k).all p = (p s[k] && (s.data.toList.drop (k + 1)).all p) := by
  rw [List.drop_eq_getElem_cons (l := s.data.toList) (by simpa using h)]; rfl
theorem all_end (p : UInt8 → Bool) (s : ByteArray) (k : Nat) (h : s.size ≤ k) : (s.data.toList.drop k).all p = true := by
  rw [List.drop_eq_nil_of_le (by simpa using h)]; rfl
theorem letterB_iff (c : UInt8) : letterB c = true ↔ (97 ≤ c.toNat ∧ c.toNat ≤ 122) ∨ (48 ≤ c.toNat ∧ c.toNat ≤ 57) := by
  simp [letterB]
theorem toList_data (a : ByteArray) : a.toList = a.data.toList := ByteArray.toList_eq a
theorem less_cmp : ∀ x y : List UInt8, Op.bytesLess x y = decide (cmpFrom x y < 0)
  | [], [] => rfl
  | [], _ :: _ => rfl
  | _ :: _, [] => rfl
  | a :: x, b :: y => by
    have ih := less_cmp x y
    simp only [Op.bytesLess, cmpFrom]
    by_cases h1 : a < b
    · simp [h1]
    · by_cases h2 : a = b
      · subst h2
        have : ¬ a < a := by rw [UInt8.lt_iff_toNat_lt]; omega
        simp [this, ih]
      · have h3 : b < a := by
          rw [UInt8.lt_iff_toNat_lt] at h1 ⊢
          have : a.toNat ≠ b.toNat := fun h => h2 (UInt8.toNat_inj.1 h)
          omega
        simp [h1, h2, h3]
theorem cmpFrom_self : ∀ x : List UInt8, cmpFrom x x = 0
  | [] => rfl
  | a :: x => by
    have : ¬ a < a := by rw [UInt8.lt_iff_toNat_lt]; omega
    simp [cmpFrom, this, cmpFrom_self x]
theorem cmpFrom_eq : ∀ x y : List UInt8, cmpFrom x y = 0 ↔ x = y
  | [], [] => by simp [cmpFrom]
  | [], _ :: _ => by simp [cmpFrom]
  | _ :: _, [] => by simp [cmpFrom]
  | a :: x, b :: y => by
    have ih := cmpFrom_eq x y
    simp only [cmpFrom]
    by_cases h1 : a < b
    · have : a ≠ b := fun h => by subst h; rw [UInt8.lt_iff_toNat_lt] at h1; omega
      simp [h1, this]
    · by_cases h2 : b < a
      · have : a ≠ b := fun h => by subst h; exact h1 h2
        simp [h1, h2, this]
      · have : a = b := UInt8.toNat_inj.1 (by rw [UInt8.lt_iff_toNat_lt] at h1 h2; omega)
        simp [h1, h2, this, ih]
theorem cmpFrom_swap : ∀ x y : List UInt8, cmpFrom y x = - cmpFrom x y
  | [], [] => rfl
  | [], _ :: _ => rfl
  | _ :: _, [] => rfl
  | a :: x, b :: y => by
    have ih := cmpFrom_swap x y
    simp only [cmpFrom]
    by_cases h1 : a < b
    · have : ¬ b < a := by rw [UInt8.lt_iff_toNat_lt] at h1 ⊢; omega
      simp [h1, this]
    · by_cases h2 : b < a <;> simp [h1, h2, ih]
theorem cmpFrom_range : ∀ x y : List UInt8, cmpFrom x y = -1 ∨ cmpFrom x y = 0 ∨ cmpFrom x y = 1
  | [], [] => by simp [cmpFrom]
  | [], _ :: _ => by simp [cmpFrom]
  | _ :: _, [] => by simp [cmpFrom]
  | a :: x, b :: y => by
    have ih := cmpFrom_range x y
    simp only [cmpFrom]
    split
    · simp
    · split
      · simp
      · exact ih
theorem cmpFrom_trans : ∀ x y z : List UInt8, cmpFrom x y ≤ 0 → cmpFrom y z ≤ 0 → cmpFrom x z ≤ 0 ∧ (cmpFrom x z = 0 → cmpFrom x y = 0 ∧ cmpFrom y z = 0)
  | [], [], z => by intro _ h; exact ⟨h, fun h' => ⟨rfl, h'⟩⟩
  | [], b :: y, [] => by intro _ h; simp [cmpFrom] at h
  | [], b :: y, c :: z => by intro _ _; simp [cmpFrom]
  | a :: x, [], z => by intro h; simp [cmpFrom] at h
  | a :: x, b :: y, [] => by intro _ h; simp [cmpFrom] at h
  | a :: x, b :: y, c :: z => by
    have ih := cmpFrom_trans x y z
    simp only [cmpFrom]
    by_cases h1 : a < b <;> by_cases h2 : b < c <;> by_cases h3 : a < c <;> by_cases h4 : b < a <;> by_cases h5 : c < b <;> by_cases h6 : c < a <;>
      simp only [UInt8.lt_iff_toNat_lt, gt_iff_lt] at h1 h2 h3 h4 h5 h6 ⊢ <;> (try omega) <;> simp [h1, h2, h3, h4, h5, h6] <;> exact ih
theorem cmpB_eq (a b : ByteArray) : cmpB a b = 0 ↔ a = b := by
  unfold cmpB; rw [cmpFrom_eq]
  constructor
  · intro h; cases a; cases b; simp only [ByteArray.mk.injEq] at *; exact Array.toList_inj.1 h
  · rintro rfl; rfl
theorem cmpB_swap (a b : ByteArray) : cmpB b a = - cmpB a b := cmpFrom_swap _ _
theorem cmpB_range (a b : ByteArray) : cmpB a b = -1 ∨ cmpB a b = 0 ∨ cmpB a b = 1 := cmpFrom_range _ _
theorem cmpB_le_trans {a b c : ByteArray} (h1 : cmpB a b ≤ 0) (h2 : cmpB b c ≤ 0) : cmpB a c ≤ 0 := (cmpFrom_trans _ _ _ h1 h2).1
theorem cmpB_lt_trans {a b c : ByteArray} (h1 : cmpB a b < 0) (h2 : cmpB b c < 0) : cmpB a c < 0 := by
  have h := cmpFrom_trans a.data.toList b.data.toList c.data.toList (Int.le_of_lt h1) (Int.le_of_lt h2)
  have h3 := cmpB_range a c
  unfold cmpB at *
  omega
theorem cmpB_lt_of_lt_of_le {a b c : ByteArray} (h1 : cmpB a b < 0) (h2 : cmpB b c ≤ 0) : cmpB a c < 0 := by
  have h := cmpFrom_trans a.data.toList b.data.toList c.data.toList (Int.le_of_lt h1) h2
  unfold cmpB at *
  omega
theorem cmpB_lt_of_le_of_lt {a b c : ByteArray} (h1 : cmpB a b ≤ 0) (h2 : cmpB b c < 0) : cmpB a c < 0 := by
  have h := cmpFrom_trans a.data.toList b.data.toList c.data.toList h1 (Int.le_of_lt h2)
  unfold cmpB at *
  omega
theorem bytesLess_iff (a b : ByteArray) : Op.bytesLess a.toList b.toList = true ↔ cmpB a b < 0 := by
  rw [toList_data, toList_data, less_cmp]; simp [cmpB]
theorem toList_eq_iff (a b : ByteArray) : a.toList = b.toList ↔ cmpB a b = 0 := by
  rw [toList_data, toList_data, ← cmpFrom_eq]; rfl
/-- The least of some texts. -/
def minStep (m x : ByteArray) : ByteArray := if cmpB x m < 0 then x else m
theorem take_fold (xs : List ByteArray) (m : ByteArray) (k : Nat) (h : k < xs.length) : (xs.take (k + 1)).foldl minStep m = minStep ((xs.take k).foldl minStep m) xs[k] := by
  rw [List.take_add_one, List.getElem?_eq_getElem h, List.foldl_append]; rfl
def ints (l : List Int) : List (List AV) := l.map fun a => [.s (.int .i64 a)]
theorem ints_at {l : List Int} {k : Nat} (h : k < l.length) : (ints l)[((k : Nat) : Int).toNat]? = some [.s (.int .i64 l[k])] := by
  rw [Int.toNat_natCast]; simp [ints, h]
theorem ints_len (l : List Int) : (ints l).length = l.length := by simp [ints]
def orI : List Int → Int
  | [] => 0
  | a :: l => if a ≠ 0 then a else orI l
theorem orI_drop (l : List Int) (k : Nat) (h : k < l.length) : orI (l.drop k) = if l[k] ≠ 0 then l[k] else orI (l.drop (k + 1)) := by
  rw [List.drop_eq_getElem_cons h]; rfl
theorem orI_end (l : List Int) (k : Nat) (h : l.length ≤ k) : orI (l.drop k) = 0 := by rw [List.drop_eq_nil_of_le h]; rfl
theorem lall_drop (p : ByteArray → Bool) (l : List ByteArray) (k : Nat) (h : k < l.length) : (l.drop k).all p = (p l[k] && (l.drop (k + 1)).all p) := by
  rw [List.drop_eq_getElem_cons h]; rfl
theorem lall_end (p : ByteArray → Bool) (l : List ByteArray) (k : Nat) (h : l.length ≤ k) : (l.drop k).all p = true := by
  rw [List.drop_eq_nil_of_le h]; rfl
/-- One more, in a rising row. -/
def putRest (s : ByteArray) : List ByteArray → Bool → List ByteArray
  | [], d => if d then [] else [s]
  | x :: r, d => let c := cmpB s x; let d1 := d || decide (c = 0); if c < 0 ∧ d1 = false then s :: x :: putRest s r true else x :: putRest s r d1
def putL (l : List ByteArray) (s : ByteArray) : List ByteArray := putRest s l false
theorem putRest_drop (s : ByteArray) (l : List ByteArray) (k : Nat) (d : Bool) (h : k < l.length) : putRest s (l.drop k) d =
    if cmpB s l[k] < 0 ∧ (d || decide (cmpB s l[k] = 0)) = false then s :: l[k] :: putRest s (l.drop (k + 1)) true else l[k] :: putRest s (l.drop (k + 1)) (d || decide (cmpB s l[k] = 0)) := by
  rw [List.drop_eq_getElem_cons h]; rfl
theorem putRest_end (s : ByteArray) (l : List ByteArray) (k : Nat) (d : Bool) (h : l.length ≤ k) : putRest s (l.drop k) d = if d then [] else [s] := by rw [List.drop_eq_nil_of_le h]; rfl
theorem putRest_len (s : ByteArray) : ∀ (l : List ByteArray) (d : Bool), (putRest s l d).length ≤ l.length + 1 ∧ (d = true → (putRest s l d).length ≤ l.length)
  | [], d => by cases d <;> simp [putRest]
  | x :: r, d => by
    simp only [putRest]
    split
    · rename_i h
      have := (putRest_len s r true).2 rfl
      refine ⟨by simp; omega, fun hd => ?_⟩
      subst hd; simp at h
    · have h1 := putRest_len s r (d || decide (cmpB s x = 0))
      refine ⟨by simp; omega, fun hd => ?_⟩
      subst hd
      have := h1.2 (by simp)
      simp only [Bool.true_or] at this
      simp; omega
theorem putL_len (l : List ByteArray) (s : ByteArray) : (putL l s).length ≤ l.length + 1 := (putRest_len s l false).1
theorem putRest_mem (s : ByteArray) : ∀ (l : List ByteArray) (d : Bool) (x : ByteArray), x ∈ putRest s l d → x = s ∨ x ∈ l
  | [], d, x, h => by cases d <;> simp_all [putRest]
  | y :: r, d, x, h => by
    simp only [putRest] at h
    split at h
    · rcases List.mem_cons.1 h with h | h
      · exact .inl h
      · rcases List.mem_cons.1 h with h | h
        · exact .inr (by simp [h])
        · rcases putRest_mem s r _ x h with h | h
          · exact .inl h
          · exact .inr (by simp [h])
    · rcases List.mem_cons.1 h with h | h
      · exact .inr (by simp [h])
      · rcases putRest_mem s r _ x h with h | h
        · exact .inl h
        · exact .inr (by simp [h])
theorem strs_append (a b : List ByteArray) : strs (a ++ b) = strs a ++ strs b := by simp [strs]
def sortedL (l : List ByteArray) : List ByteArray := l.foldl putL []
theorem take_sorted (l : List ByteArray) (k : Nat) (h : k < l.length) : sortedL (l.take (k + 1)) = putL (sortedL (l.take k)) l[k] := by
  unfold sortedL
  rw [List.take_add_one, List.getElem?_eq_getElem h, List.foldl_append]; rfl
theorem sortedL_fits (l : List ByteArray) : ∀ (acc : List ByteArray) (n : Nat), acc.length ≤ n → (∀ x ∈ acc, TS x) → (∀ x ∈ l, TS x) → (l.foldl putL acc).length ≤ n + l.length ∧ ∀ x ∈ l.foldl putL acc, TS x := by
  induction l with
  | nil => intro acc n h1 h2 _; exact ⟨by simpa using h1, h2⟩
  | cons s l ih =>
    intro acc n h1 h2 h3
    have := ih (putL acc s) (n + 1) (by have := putL_len acc s; omega) (fun x hx => by
      rcases putRest_mem s acc false x hx with h | h
      · rw [h]; exact h3 s (by simp)
      · exact h2 x h) (fun x hx => h3 x (by simp [hx]))
    refine ⟨?_, this.2⟩
    have h := this.1
    simp only [List.foldl_cons, List.length_cons]; omega
/-- Strictly rising. -/
def Rising (l : List ByteArray) : Prop := l.Pairwise fun x y => cmpB x y < 0
theorem rising_unique : ∀ (a b : List ByteArray), Rising a → Rising b → (∀ x, x ∈ a ↔ x ∈ b) → a = b
  | [], [], _, _, _ => rfl
  | [], y :: b, _, _, h => by have := (h y).2 (by simp); simp at this
  | x :: a, [], _, _, h => by have := (h x).1 (by simp); simp at this
  | x :: a, y :: b, ha, hb, h => by
    have ha' := List.pairwise_cons.1 ha
    have hb' := List.pairwise_cons.1 hb
    have hself : ∀ z, ¬ cmpB z z < 0 := fun z hz => by have := (cmpB_eq z z).2 rfl; omega
    have hxy : x = y := by
      have h1 := (h x).1 (by simp)
      have h2 := (h y).2 (by simp)
      rcases List.mem_cons.1 h1 with h1 | h1
      · exact h1
      · rcases List.mem_cons.1 h2 with h2 | h2
        · exact h2.symm
        · exact absurd (cmpB_lt_trans (ha'.1 y h2) (hb'.1 x h1)) (hself x)
    subst hxy
    congr 1
    refine rising_unique a b ha'.2 hb'.2 fun z => ⟨fun hz => ?_, fun hz => ?_⟩
    · rcases List.mem_cons.1 ((h z).1 (by simp [hz])) with e | e
      · subst e; exact absurd (ha'.1 z hz) (hself z)
      · exact e
    · rcases List.mem_cons.1 ((h z).2 (by simp [hz])) with e | e
      · subst e; exact absurd (hb'.1 z hz) (hself z)
      · exact e
theorem putRest_true (s : ByteArray) : ∀ l : List ByteArray, putRest s l true = l
  | [] => rfl
  | x :: r => by simp only [putRest, Bool.true_or, Bool.true_eq_false, and_false, if_false, putRest_true s r]
/-- One more in a rising row. -/
theorem putL_rising (s : ByteArray) : ∀ l : List ByteArray, Rising l → Rising (putL l s) ∧ ∀ x, x ∈ putL l s ↔ x = s ∨ x ∈ l
  | [], _ => by
    constructor
    · exact List.pairwise_singleton _ _
    · intro x; simp [putL, putRest]
  | y :: r, h => by
    have h' := List.pairwise_cons.1 h
    have ih := putL_rising s r h'.2
    have hsw := cmpB_swap s y
    unfold putL at ih ⊢
    simp only [putRest, Bool.false_or]
    by_cases h1 : cmpB s y < 0
    · have h0 : decide (cmpB s y = 0) = false := by simp; omega
      rw [if_pos ⟨h1, h0⟩, putRest_true]
      refine ⟨List.pairwise_cons.2 ⟨fun z hz => ?_, h⟩, fun x => by simp⟩
      rcases List.mem_cons.1 hz with e | e
      · subst e; exact h1
      · exact cmpB_lt_trans h1 (h'.1 z e)
    · rw [if_neg (fun h => h1 h.1)]
      by_cases h0 : cmpB s y = 0
      · have e := (cmpB_eq s y).1 h0
        subst e
        have hd : decide (cmpB s s = 0) = true := by simpa using h0
        rw [hd, putRest_true]
        refine ⟨h, fun x => by simp⟩
      · have hd : decide (cmpB s y = 0) = false := by simpa using h0
        rw [hd]
        refine ⟨List.pairwise_cons.2 ⟨fun z hz => ?_, ih.1⟩, fun x => by simp [ih.2 x]; constructor <;> (intro h; rcases h with h | h | h <;> simp [h])⟩
        rcases (ih.2 z).1 hz with e | e
        · subst e; omega
        · exact h'.1 z e
theorem sortedL_rising (l : List ByteArray) : ∀ acc, Rising acc → Rising (l.foldl putL acc) ∧ ∀ x, x ∈ l.foldl putL acc ↔ x ∈ acc ∨ x ∈ l := by
  induction l with
  | nil => intro acc h; exact ⟨h, fun x => by simp⟩
  | cons s l ih =>
    intro acc h
    have h1 := putL_rising s acc h
    have h2 := ih (putL acc s) h1.1
    refine ⟨h2.1, fun x => ?_⟩
    rw [List.foldl_cons, h2.2 x, h1.2 x, List.mem_cons]
    constructor
    · rintro ((h | h) | h)
      · exact .inr (.inl h)
      · exact .inl h
      · exact .inr (.inr h)
    · rintro (h | h | h)
      · exact .inl (.inr h)
      · exact .inl (.inl h)
      · exact .inr h
theorem sorted_is (l : List ByteArray) : Rising (sortedL l) ∧ ∀ x, x ∈ sortedL l ↔ x ∈ l := by
  have h := sortedL_rising l [] List.Pairwise.nil
  exact ⟨h.1, fun x => by have := h.2 x; simpa [sortedL] using this⟩
instance : DecidableEq ByteArray := inferInstance
/-- What the sort and the cut leave. -/
theorem sorted_of {l ms : List ByteArray} (hp : ms.Perm l) (hs : ms.Pairwise fun x y => ¬ cmpB y x < 0) : Go.Lib.compact ms = sortedL l := by
  have h := Go.Abs.compact_sorted (fun x y => ¬ cmpB y x < 0) (fun x y => cmpB x y < 0) (fun a b h1 h2 => by
      have e := cmpB_swap a b
      have : cmpB a b ≠ 0 := fun h => h2 ((cmpB_eq a b).1 h)
      omega) (fun a b c h1 h2 => by
      have e := cmpB_swap b c
      exact cmpB_lt_of_lt_of_le h1 (by omega)) ms hs
  have h2 := sorted_is l
  exact rising_unique _ _ h.1 h2.1 fun x => by rw [h.2 x, h2.2 x, hp.mem_iff]
theorem cmp_swo : Go.Sort.SWO (fun x y : ByteArray => decide (cmpB x y < 0)) :=
  ⟨fun x => by have := (cmpB_eq x x).2 rfl; simp [this], fun x y z h1 h2 => by simp only [decide_eq_true_eq] at *; exact cmpB_lt_trans h1 h2, fun x y z h1 h2 => by
    simp only [decide_eq_false_iff_not] at *
    have e1 := cmpB_swap x y
    have e2 := cmpB_swap y z
    have e3 := cmpB_swap x z
    have := cmpB_le_trans (a := z) (b := y) (c := x) (by omega) (by omega)
    omega⟩
def encS (s : ByteArray) : AV := .s (.string s)
/-- .. the row's head, as it is read. -/
theorem take_strs (a b : List ByteArray) : (strs (a ++ b)).take a.length = strs a := by
  rw [strs_append, List.take_left' (by rw [strs_len])]
theorem toList_inj {a b : ByteArray} : a.toList = b.toList ↔ a = b := by rw [toList_eq_iff, cmpB_eq]
def aheadB (a b c d : ByteArray) : Bool := decide (cmpB a c < 0) || (decide (cmpB a c = 0) && decide (cmpB b d < 0))
def pairCmp (a b c d : ByteArray) : Int := orI [cmpB a c, cmpB b d]
def pairHasB (a b s : ByteArray) : Bool := decide (a = s) || decide (b = s)
theorem conv_head {mem : Mem} {g k n : Nat} {xs ys : List (List AV)} (hl : look mem g = some (.buf k xs)) (hn : n ≤ xs.length) (h : xs.take n = ys) : (AV.own g k 0 n).conv mem = .sl k ys := by
  subst h
  simp [AV.conv, hl, hn]
/-- Where the walk of Put stands. -/
structure PutInv (l : List ByteArray) (s : ByteArray) (k n : Nat) (outv : List (List AV)) (d : Bool) : Prop where
  hn : n = outv.length
  hk : k ≤ l.length
  out : ∃ out, outv = strs out ∧ putL l s = out ++ putRest s (l.drop k) d ∧ out.length ≤ 2 * k
theorem PutInv.start (l : List ByteArray) (s : ByteArray) : PutInv l s 0 0 [] false := ⟨rfl, Nat.zero_le _, [], rfl, rfl, by simp⟩
theorem PutInv.ins {l : List ByteArray} {s : ByteArray} {k n : Nat} {outv : List (List AV)} {d : Bool} (h : PutInv l s k n outv d) (hk : k < l.length) (h1 : cmpB s l[k] < 0) (h2 : d = false) :
    PutInv l s (k + 1) (n + 1 + 1) (outv ++ [[.s (.string s)]] ++ [[.s (.string l[k])]]) true := by
  obtain ⟨e1, e2, out, e3, e4, e5⟩ := h
  subst h2
  have h0 : decide (cmpB s l[k] = 0) = false := by simp; omega
  refine ⟨by simp [e1], hk, out ++ [s, l[k]], by simp [e3, strs], ?_, by simp; omega⟩
  rw [e4, putRest_drop s l k false hk, if_pos ⟨h1, by simp [h0]⟩]; simp
theorem PutInv.eq {l : List ByteArray} {s : ByteArray} {k n : Nat} {outv : List (List AV)} {d : Bool} (h : PutInv l s k n outv d) (hk : k < l.length) (h0 : cmpB s l[k] = 0) :
    PutInv l s (k + 1) (n + 1) (outv ++ [[.s (.string l[k])]]) true := by
  obtain ⟨e1, e2, out, e3, e4, e5⟩ := h
  refine ⟨by simp [e1], hk, out ++ [l[k]], by simp [e3, strs], ?_, by simp; omega⟩
  rw [e4, putRest_drop s l k d hk, if_neg (by omega)]; simp [h0]
theorem PutInv.pass {l : List ByteArray} {s : ByteArray} {k n : Nat} {outv : List (List AV)} {d : Bool} (h : PutInv l s k n outv d) (hk : k < l.length) (h0 : cmpB s l[k] ≠ 0) (h1 : 0 ≤ cmpB s l[k] ∨ d = true) :
    PutInv l s (k + 1) (n + 1) (outv ++ [[.s (.string l[k])]]) d := by
  obtain ⟨e1, e2, out, e3, e4, e5⟩ := h
  refine ⟨by simp [e1], hk, out ++ [l[k]], by simp [e3, strs], ?_, by simp; omega⟩
  have hd : decide (cmpB s l[k] = 0) = false := by simp [h0]
  rw [e4, putRest_drop s l k d hk, if_neg (by
    rintro ⟨h2, h3⟩
    rcases h1 with h1 | h1
    · omega
    · simp [h1] at h3), hd]; simp
theorem PutInv.fin_t {l : List ByteArray} {s : ByteArray} {k n : Nat} {outv : List (List AV)} {d : Bool} (h : PutInv l s k n outv d) (hk : l.length ≤ k) (hd : d = true) : outv = strs (putL l s) := by
  obtain ⟨e1, e2, out, e3, e4, e5⟩ := h
  subst hd
  rw [e4, putRest_end s l k true hk, e3]; simp
theorem PutInv.fin_f {l : List ByteArray} {s : ByteArray} {k n : Nat} {outv : List (List AV)} {d : Bool} (h : PutInv l s k n outv d) (hk : l.length ≤ k) (hd : d = false) : outv ++ [[.s (.string s)]] = strs (putL l s) := by
  obtain ⟨e1, e2, out, e3, e4, e5⟩ := h
  subst hd
  rw [e4, putRest_end s l k false hk, e3]; simp [strs]
theorem PutInv.le {l : List ByteArray} {s : ByteArray} {k n : Nat} {outv : List (List AV)} {d : Bool} (h : PutInv l s k n outv d) : n ≤ 2 * k := by
  obtain ⟨e1, e2, out, e3, e4, e5⟩ := h
  rw [e1, e3, strs_len]; exact e5
theorem take_all (p : ByteArray → Bool) (l : List ByteArray) (k : Nat) (h : k < l.length) : (l.take (k + 1)).all p = ((l.take k).all p && p l[k]) := by
  rw [List.take_add_one, List.getElem?_eq_getElem h, List.all_append]; simp
theorem neg_cmp (a b : ByteArray) : IntKind.i64.wrap (0 - cmpB a b) = cmpB b a := by
  have h1 := cmpB_range a b
  have h2 := cmpB_swap a b
  rw [wrap_i64 (by omega) (by omega)]
  omega
end Go.Abs
