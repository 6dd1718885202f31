import Derived.Test.YtcjchfocohagdaaT1
import Derived.Test.YtcjchfocohagdaaS1
import Derived.Test.YtcjchfocohagdaaQ6
set_option linter.unusedVariables false
namespace Go.Abs
open Go
/-- A span's cells. -/
def spC (s : Sp) : List AV := [.s (.int .i64 s.1), .s (.int .i64 s.2)]
theorem spC_len (s : Sp) : (spC s).length = 2 := rfl
theorem spC_leaf (s : Sp) : ∀ c ∈ spC s, c.leaf = true := by simp [spC, AV.leaf, Value.oneCell']
theorem spC_eq (x y : Sp) : (x.1 == y.1 && (x.2 == y.2 && true)) = decide (x = y) := by
  rw [Bool.eq_iff_iff]; simp [Prod.ext_iff]
def cmpI (a b : Int) : Int := if a < b then -1 else if b < a then 1 else 0
theorem mergeStep_nil (s : Sp) : mergeStep [] s = [s] := rfl
theorem getLast_at {l : List Sp} (h : 0 < l.length) : l.getLast? = some (l[l.length - 1]'(by omega)) := by
  rw [List.getLast?_eq_getElem?, List.getElem?_eq_getElem (by omega)]
theorem dropLast_set {l : List Sp} (h : 0 < l.length) (x : Sp) : l.dropLast ++ [x] = l.set (l.length - 1) x := by
  rcases List.eq_nil_or_concat l with rfl | ⟨i, y, rfl⟩
  · simp at h
  · rw [List.concat_eq_append, List.dropLast_concat]
    simp
theorem mergeStep_set {out : List Sp} {s : Sp} (h : 0 < out.length) (h1 : s.1 ≤ (out[out.length - 1]'(by omega)).2) : mergeStep out s = out.set (out.length - 1) ((out[out.length - 1]'(by omega)).1, max (out[out.length - 1]'(by omega)).2 s.2) := by
  simp only [mergeStep, getLast_at h]
  rw [if_pos h1, dropLast_set h]
theorem mergeStep_app {out : List Sp} {s : Sp} (h : 0 < out.length) (h1 : ¬ s.1 ≤ (out[out.length - 1]'(by omega)).2) : mergeStep out s = out ++ [s] := by
  simp only [mergeStep, getLast_at h]
  rw [if_neg h1]
theorem mergeStep_len (out : List Sp) (s : Sp) : (mergeStep out s).length ≤ out.length + 1 := by
  by_cases h : 0 < out.length
  · by_cases h1 : s.1 ≤ (out[out.length - 1]'(by omega)).2
    · rw [mergeStep_set h h1]; simp
    · rw [mergeStep_app h h1]; simp
  · have : out = [] := List.eq_nil_of_length_eq_zero (by omega)
    subst this; simp [mergeStep]
theorem cmpI_swo : Go.Sort.SWO (fun x y : Sp => decide (cmpI x.1 y.1 < 0)) := by
  have h : ∀ x y : Sp, decide (cmpI x.1 y.1 < 0) = decide (x.1 < y.1) := by
    intro x y
    unfold cmpI
    rw [Bool.eq_iff_iff]; simp only [decide_eq_true_eq]
    (repeat' split) <;> omega
  exact ⟨fun x => by rw [h]; simp, fun x y z => by rw [h, h, h]; simp; omega, fun x y z => by rw [h, h, h]; simp; omega⟩
theorem cmpI_le {x y : Int} (h : ¬ cmpI y x < 0) : x ≤ y := by
  unfold cmpI at h
  split at h
  · omega
  · omega
def noTime (s : Sp) : Bool := decide (s.2 ≤ s.1)
theorem noTime_filter (l : List Sp) : (l.filter fun x => !noTime x) = l.filter hasTime := by
  congr 1; funext x; unfold noTime hasTime; rw [Bool.eq_iff_iff]; simp
theorem merge_all {l ms : List Sp} (hp : ms.Perm (l.filter fun x => !noTime x)) (hs : ms.Pairwise (fun x y => ¬ cmpI y.1 x.1 < 0)) : ms.foldl mergeStep [] = normL l := by
  rw [noTime_filter] at hp
  exact merge_norm hp (hs.imp fun h => cmpI_le h)
theorem meets_next (a b : List Sp) (k : Nat) (h : k < a.length) : meetsL (a.take k) b ++ b.map (meet1 a[k]) = meetsL (a.take (k + 1)) b := by
  simp only [meetsL]
  rw [List.take_add_one, List.getElem?_eq_getElem h, List.flatMap_append]
  simp
theorem take_flatMap {α β : Type} (l : List α) (f : α → List β) (k : Nat) (h : k < l.length) : (l.take k).flatMap f ++ f l[k] = (l.take (k + 1)).flatMap f := by
  rw [List.take_add_one, List.getElem?_eq_getElem h, List.flatMap_append]
  simp
/-- An integer's cell. -/
def intC (n : Int) : List AV := [.s (.int .i64 n)]
/-! put, in its course -/
def PutI (l : List Int) (n : Int) (k : Nat) (out : List Int) (done : Bool) : Prop := putN l n = out ++ (if done = true then l.drop k else putN (l.drop k) n) ∧ out.length ≤ k + (if done = true then 1 else 0)
theorem put_start (l : List Int) (n : Int) : PutI l n 0 [] false := ⟨by simp, by simp⟩
theorem put_le {l : List Int} {n : Int} {k : Nat} {out : List Int} {done : Bool} (h : PutI l n k out done) : out.length ≤ k + 1 := by
  have := h.2; split at this <;> omega
theorem put_eq {l : List Int} {n : Int} {k : Nat} {out : List Int} {done : Bool} (h : PutI l n k out done) (hk : k < l.length) (e : l[k] = n) : PutI l n (k + 1) (out ++ [l[k]]) true := by
  obtain ⟨h1, h2⟩ := h
  refine ⟨?_, ?_⟩
  · rw [h1, List.drop_eq_getElem_cons hk]
    have : putN (l[k] :: l.drop (k + 1)) n = l[k] :: l.drop (k + 1) := by simp only [putN]; rw [if_neg (by omega), if_pos e]
    rw [this, ite_self]; simp only [List.append_assoc, List.singleton_append, if_true]
  · simp only [List.length_append, List.length_cons, List.length_nil, if_true]
    split at h2 <;> omega
theorem put_pass {l : List Int} {n : Int} {k : Nat} {out : List Int} {done : Bool} (hd : done = true) (h : PutI l n k out done) (hk : k < l.length) : PutI l n (k + 1) (out ++ [l[k]]) done := by
  subst hd
  obtain ⟨h1, h2⟩ := h
  simp only [if_true] at h1 h2
  refine ⟨?_, by simp; omega⟩
  rw [h1, List.drop_eq_getElem_cons hk]; simp
theorem put_ins {l : List Int} {n : Int} {k : Nat} {out : List Int} {done : Bool} (hd : done = false) (h : PutI l n k out done) (hk : k < l.length) (e : n < l[k]) : PutI l n (k + 1) (out ++ [n] ++ [l[k]]) true := by
  subst hd
  obtain ⟨h1, h2⟩ := h
  simp only [Bool.false_eq_true, if_false] at h1 h2
  refine ⟨?_, by simp; omega⟩
  rw [h1, List.drop_eq_getElem_cons hk]
  simp only [putN]; rw [if_pos e]; simp
theorem put_go {l : List Int} {n : Int} {k : Nat} {out : List Int} {done : Bool} (hd : done = false) (h : PutI l n k out done) (hk : k < l.length) (e : ¬ n < l[k]) (e2 : ¬ l[k] = n) : PutI l n (k + 1) (out ++ [l[k]]) done := by
  subst hd
  obtain ⟨h1, h2⟩ := h
  simp only [Bool.false_eq_true, if_false] at h1 h2
  refine ⟨?_, by simp; omega⟩
  rw [h1, List.drop_eq_getElem_cons hk]
  simp only [putN]; rw [if_neg e, if_neg e2]; simp
theorem put_fin {l : List Int} {n : Int} {k : Nat} {out : List Int} {done : Bool} (h : PutI l n k out done) (hk : l.length ≤ k) : putN l n = out ++ (if done = true then [] else [n]) := by
  rw [h.1, List.drop_eq_nil_of_le hk]; simp [putN]
def endStep (out : List Int) (s : Sp) : List Int := putN (putN out s.1) s.2
/-- glue's two ways. -/
theorem glue_t {out : List Sp} {s : Sp} (h : 0 < out.length) (e : (out[out.length - 1]'(by omega)).2 = s.1) : glueL out s = out.take (out.length - 1) ++ [((out[out.length - 1]'(by omega)).1, s.2)] := by
  simp only [glueL, getLast_at h]
  rw [if_pos e, List.dropLast_eq_take]
theorem glue_f {out : List Sp} {s : Sp} (h : 0 < out.length) (e : ¬ (out[out.length - 1]'(by omega)).2 = s.1) : glueL out s = out ++ [s] := by
  simp only [glueL, getLast_at h]
  rw [if_neg e]
theorem piecesL_drop (p : Int → Bool) (out : List Sp) (e : List Int) (k : Nat) (h : k + 1 < e.length) : piecesL p out (e.drop k) = piecesL p (if p e[k] = true then glueL out (e[k], e[k + 1]) else out) (e.drop (k + 1)) := by
  rw [List.drop_eq_getElem_cons (show k < e.length by omega), List.drop_eq_getElem_cons h]
  rfl
theorem piecesL_end (p : Int → Bool) (out : List Sp) (e : List Int) (k : Nat) (h : e.length ≤ k + 1) : piecesL p out (e.drop k) = out := by
  have : (e.drop k).length ≤ 1 := by simp; omega
  generalize e.drop k = q at this
  match q, this with
  | [], _ => rfl
  | [a], _ => rfl

section
variable {P : Program}
theorem booleq_t {t : TypeId} (ht : P.underlying t = some .bool) {a b : Bool} (h : a = b) : abin P .eql t (.bool a) (.bool b) = some (.bool true) := by
  subst h; simp [abin, ht]
theorem inteq_t {t : TypeId} {k : IntKind} {a b : Int} (h : a = b) : abin P .eql t (.int k a) (.int k b) = some (.bool true) := by
  subst h; simp [abin, aint]
theorem aeq_sp (x y : Sp) : aeqL [.int .i64, .int .i64] (spC x) (spC y) = some (decide (x = y), [], []) := by
  rw [← spC_eq]; rfl
theorem aeq_sp_t {x y : Sp} (h : x = y) : aeqL [.int .i64, .int .i64] (spC x) (spC y) = some (true, [], []) := by
  rw [aeq_sp, decide_eq_true h]
end
end Go.Abs
