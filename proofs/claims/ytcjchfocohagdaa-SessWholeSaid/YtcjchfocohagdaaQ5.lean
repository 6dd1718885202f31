import Derived.Test.YtcjchfocohagdaaQ4
import Derived.Lib.AppendZeros
import Derived.Laws.StructEq
import Derived.ChangeKeysEq
import Derived.OpenShut
import Derived.Scope
set_option linter.unusedVariables false
set_option linter.unusedSimpArgs false
namespace Go.Abs
open Go Go.RowKit
variable {P : Program} {w0 : World} {p0 : Hp}

/-- All names but some are given up. -/
def kept (ok : Nat → Bool) (m : Mem) (l : List (Nat × AV)) : List (Nat × AV) → Prop
  | [] => True
  | (t, a') :: r => (∃ a, lk l t = some a ∧ a.only ok m = a') ∧ kept ok m l r
theorem kept_look {ok : Nat → Bool} {m : Mem} {l : List (Nat × AV)} : ∀ {l' : List (Nat × AV)}, kept ok m l l' → ∀ t a', look l' t = some a' → ∃ a, look l t = some a ∧ a.only ok m = a'
  | [], _, _, _, h => by simp [look] at h
  | (t0, a0) :: r, h, t, a', hl => by
    simp only [look] at hl
    split at hl
    · rename_i e; subst e; cases hl
      obtain ⟨a, h1, h2⟩ := h.1
      exact ⟨a, by rw [← lk_eq]; exact h1, h2⟩
    · exact kept_look h.2 t a' hl
theorem le_keep {n : Nat} {sl sl' : List (Nat × AV)} {m m' : Mem} (ok : Nat → Bool) (h : kept ok m sl sl') (hm : Mem.only ok m m = m') : Le ⟨n, sl, m⟩ ⟨n, sl', m'⟩ := by
  subst hm
  refine (Le.only ok ⟨n, sl, m⟩).trans ?_
  intro w0 p0 a w ⟨h1, h2, p, hE, hs, hm⟩
  refine ⟨h1, h2, p, hE, fun t a' ht => ?_, hm⟩
  obtain ⟨b, hb1, hb2⟩ := kept_look h t a' ht
  refine hs t a' ?_
  show look (sl.map fun x => (x.1, x.2.only ok m)) t = some a'
  rw [look_map_only m (fun x => x.only ok m), hb1, ← hb2]; rfl
def nee (g x : Nat) : Bool := match Nat.beq x g with | true => false | false => true

/-! Equality of structs and arrays -/

/-- A type's shape. -/
inductive TD where
  | bool
  | int (k : IntKind)
  | str
  | sl (b : Nat) (d : TD)
  | agg (ds : List TD)
  deriving Inhabited

mutual
def TD.n : TD → Nat
  | .agg ds => TD.nL ds
  | .bool => 1
  | .int _ => 1
  | .str => 1
  | .sl _ _ => 1
def TD.nL : List TD → Nat
  | [] => 0
  | d :: r => d.n + TD.nL r
end

def tdSegs (P : Program) (f : TypeId → Option TD) : Nat → List (Nat × TypeId) → Option (List TD)
  | _, [] => some []
  | o, (off, t) :: r => match f t with
    | some d => if off = o ∧ d.n = P.cellsOf t then (tdSegs P f (o + d.n) r).map (d :: ·) else none
    | none => none

def tdOf? (P : Program) : Nat → TypeId → Option TD
  | 0, _ => none
  | n + 1, t => match P.underlying t with
    | some .bool => some .bool
    | some (.int k) => some (.int k)
    | some .string => some .str
    | some (.slice e) => match tdOf? P n e with
      | some d => if d.n = P.cellsOf e ∧ 0 < d.n then some (.sl (P.bytesOf e) d) else none
      | none => none
    | some (.struct fs) => match tdSegs P (tdOf? P n) 0 (fs.toList.map fun f => (f.offset, f.type)) with
      | some ds => if TD.nL ds = P.cellsOf t then some (.agg ds) else none
      | none => none
    | some (.array m e) => match tdSegs P (tdOf? P n) 0 ((List.range m).map fun i => (i * P.cellsOf e, e)) with
      | some ds => if TD.nL ds = P.cellsOf t then some (.agg ds) else none
      | none => none
    | _ => none

mutual
def EqTy : TD → List Value → List Value → Bool → Prop
  | .bool, xs, ys, r => ∃ a b, xs = [.bool a] ∧ ys = [.bool b] ∧ r = (a == b)
  | .int k, xs, ys, r => ∃ a b, xs = [.int k a] ∧ ys = [.int k b] ∧ r = (a == b)
  | .str, xs, ys, r => ∃ a b : ByteArray, xs = [.string a] ∧ ys = [.string b] ∧ r = (a.toList == b.toList)
  | .sl _ _, _, _, _ => False
  | .agg ds, xs, ys, r => EqTyL ds xs ys r
def EqTyL : List TD → List Value → List Value → Bool → Prop
  | [], xs, ys, r => xs = [] ∧ ys = [] ∧ r = true
  | d :: ds, xs, ys, r => ∃ a b c e q s, xs = a ++ b ∧ ys = c ++ e ∧ EqTy d a c q ∧ EqTyL ds b e s ∧ r = (q && s)
end

theorem eqty_len_aux : ∀ (k : Nat) (d : TD), SizeOf.sizeOf d < k → ∀ xs ys r, EqTy d xs ys r → xs.length = d.n ∧ ys.length = d.n
  | 0, d, h, _, _, _, _ => by omega
  | k + 1, .bool, _, xs, ys, r, ⟨a, b, h1, h2, _⟩ => by subst h1; subst h2; simp [TD.n]
  | k + 1, .int _, _, xs, ys, r, ⟨a, b, h1, h2, _⟩ => by subst h1; subst h2; simp [TD.n]
  | k + 1, .str, _, xs, ys, r, ⟨a, b, h1, h2, _⟩ => by subst h1; subst h2; simp [TD.n]
  | k + 1, .sl _ _, _, xs, ys, r, h => h.elim
  | k + 1, .agg ds, hk, xs, ys, r, h => by
    simp only [TD.n]
    simp only [EqTy] at h
    have : ∀ (ds : List TD), SizeOf.sizeOf ds < k → ∀ xs ys r, EqTyL ds xs ys r → xs.length = TD.nL ds ∧ ys.length = TD.nL ds := by
      intro ds
      induction ds with
      | nil => intro _ xs ys r h; simp only [EqTyL] at h; obtain ⟨rfl, rfl, _⟩ := h; simp [TD.nL]
      | cons d rest ih =>
        intro hs xs ys r h
        simp only [EqTyL] at h
        obtain ⟨a, b, c, e, q, s, rfl, rfl, h1, h2, _⟩ := h
        have i1 := eqty_len_aux k d (by simp at hs; omega) a c q h1
        have i2 := ih (by simp at hs; omega) b e s h2
        simp [TD.nL, i1, i2]
    exact this ds (by simp at hk; omega) xs ys r h
theorem eqty_len {d : TD} {xs ys : List Value} {r : Bool} (h : EqTy d xs ys r) : xs.length = d.n ∧ ys.length = d.n := eqty_len_aux _ d (Nat.lt_succ_self _) xs ys r h

def eqSegs (d : Nat) (xs ys : Array Value) : List (Nat × TypeId) → Sem Bool
  | [] => pure true
  | (o, t) :: r => do
    let a ← part t xs o
    let b ← part t ys o
    let q ← Op.equalIn d t a b
    if (!q) = true then pure false else eqSegs d xs ys r
theorem eqFields_segs (d : Nat) (xs ys : Array Value) : ∀ fs : List Field, (∀ f ∈ fs, f.name ≠ "_") → Op.eqFields d xs ys fs = eqSegs d xs ys (fs.map fun f => (f.offset, f.type))
  | [], _ => rfl
  | f :: fs, h => by
    simp only [Op.eqFields, List.map_cons, eqSegs]
    rw [if_pos (h f (by simp)), eqFields_segs d xs ys fs (fun g hg => h g (by simp [hg]))]
theorem eqItems_segs (d : Nat) (e : TypeId) (c : Nat) (xs ys : Array Value) : ∀ is : List Nat, Op.eqItems d e c xs ys is = eqSegs d xs ys (is.map fun i => (i * c, e))
  | [] => rfl
  | i :: is => by
    simp only [Op.eqItems, List.map_cons, eqSegs]
    rw [eqItems_segs d e c xs ys is]

/-- The value that cells make. -/
def TD.val : TD → List Value → Value
  | .agg _, cs => .agg cs.toArray
  | _, cs => cs.headD undef

theorem run_part_td {n : Nat} {t : TypeId} {d : TD} (ht : tdOf? P n t = some d) (hn : d.n = P.cellsOf t) (a : List Value) (ha : a.length = d.n) (w : World) (i : TypeInfo) (hi : P.info? t = some i) (pre post : List Value) :
    (part t (pre ++ a ++ post).toArray pre.length).run P w = .ok (d.val a) w := by
  cases n with
  | zero => simp [tdOf?] at ht
  | succ n =>
    have hag : (∃ ds, d = .agg ds ∧ agg? P t = some true) ∨ ((∀ cs, d.val cs = cs.headD undef) ∧ d.n = 1 ∧ agg? P t = some false) := by
      unfold tdOf? at ht
      unfold agg?
      split at ht
      all_goals first
        | (rename_i hu; rw [hu]; cases ht; exact .inr ⟨fun _ => rfl, rfl, rfl⟩)
        | (rename_i hu; rw [hu]; split at ht; (split at ht; (first | (cases ht; exact .inr ⟨fun _ => rfl, rfl, rfl⟩) | (cases ht; exact .inl ⟨_, rfl, rfl⟩) | cases ht); cases ht); cases ht)
        | cases ht
    rcases hag with ⟨ds, rfl, hag⟩ | ⟨hv, h1, hag⟩
    · have hc : cells? P t = some (TD.agg ds).n := by
        unfold cells?
        rw [hi, hn]
        simp [Program.cellsOf, hi]
      rw [run_parts hag hc]
      simp only [TD.val]
      congr 2
      rw [← ha]
      apply Array.ext_getElem?
      intro j
      rw [Array.getElem?_extract]
      simp only [List.getElem?_toArray, List.size_toArray, List.length_append]
      by_cases hj : j < a.length
      · rw [if_pos (by omega), List.append_assoc, List.getElem?_append_right (by omega), Nat.add_sub_cancel_left, List.getElem?_append_left hj]
      · rw [if_neg (by omega), List.getElem?_eq_none (by omega)]
    · rw [hv]
      match a, ha.trans h1 with
      | [v], _ =>
        rw [run_part1 hag (v := v)]
        · rfl
        · simp

theorem run_eqSegs (f : TypeId → Option TD) (dd : Nat) (w : World) (hf : ∀ t d, f t = some d → ∃ n, tdOf? P n t = some d) (ok : TypeId → Prop)
    (IH : ∀ t d, f t = some d → ok t → ∀ xs ys r, EqTy d xs ys r → (Op.equalIn dd t (d.val xs) (d.val ys)).run P w = .ok r w) :
    ∀ (segs : List (Nat × TypeId)) (o : Nat) (ds : List TD), tdSegs P f o segs = some ds → (∀ s ∈ segs, ok s.2 ∧ (P.info? s.2).isSome = true) →
      ∀ (pre pre' xs ys : List Value) (r : Bool), pre.length = o → pre'.length = o → EqTyL ds xs ys r → (eqSegs dd (pre ++ xs).toArray (pre' ++ ys).toArray segs).run P w = .ok r w := by
  intro segs
  induction segs with
  | nil =>
    intro o ds h _ pre pre' xs ys r _ _ he
    simp only [tdSegs, Option.some.injEq] at h
    subst h
    simp only [EqTyL] at he
    obtain ⟨_, _, rfl⟩ := he
    rfl
  | cons s rest ih =>
    intro o ds h hok pre pre' xs ys r h1 h2 he
    obtain ⟨off, t⟩ := s
    simp only [tdSegs] at h
    split at h
    · rename_i d hd
      split at h
      · rename_i hc
        obtain ⟨rfl, hn⟩ := hc
        cases hr : tdSegs P f (off + d.n) rest with
        | none => simp [hr] at h
        | some es =>
          simp only [hr, Option.map_some, Option.some.injEq] at h
          subst h
          simp only [EqTyL] at he
          obtain ⟨a, b, c, e, q, s, rfl, rfl, he1, he2, rfl⟩ := he
          obtain ⟨hokt, hin⟩ := hok (off, t) (by simp)
          obtain ⟨i, hi⟩ := Option.isSome_iff_exists.1 hin
          obtain ⟨m, hm⟩ := hf t d hd
          obtain ⟨l1, l2⟩ := eqty_len he1
          have p1 := run_part_td hm hn a l1 w i hi pre b
          have p2 := run_part_td hm hn c l2 w i hi pre' e
          rw [h1] at p1
          rw [h2] at p2
          have p3 := IH t d hd hokt a c q he1
          have p4 := ih (off + d.n) es hr (fun s hs => hok s (by simp [hs])) (pre ++ a) (pre' ++ c) b e s (by simp [h1, l1]) (by simp [h2, l2]) he2
          simp only [List.append_assoc] at p1 p2 p4
          simp only [eqSegs, Sem.run_bind, p1, p2, p3, Result.andThen_ok]
          cases q
          · simp
          · simpa using p4
      · cases h
    · cases h

theorem run_equalIn_td (D : Nat) : ∀ (n : Nat) (t : TypeId) (d : TD), tdOf? P n t = some d → P.keyTypeAt n t = true → ∀ (w : World) (xs ys : List Value) (r : Bool), EqTy d xs ys r →
    (Op.equalIn (D + n) t (d.val xs) (d.val ys)).run P w = .ok r w := by
  intro n
  induction n with
  | zero => intro t d h; simp [tdOf?] at h
  | succ n ih =>
    intro t d h hk w xs ys r he
    unfold tdOf? at h
    unfold Program.keyTypeAt at hk
    have info_of : ∀ (fs : List (Nat × TypeId)) (o : Nat) (ds : List TD), tdSegs P (tdOf? P n) o fs = some ds → ∀ s ∈ fs, (P.info? s.2).isSome = true := by
      intro fs
      induction fs with
      | nil => intro o ds _ s hs; simp at hs
      | cons a r iha =>
        intro o ds h s hs
        obtain ⟨off, t⟩ := a
        simp only [tdSegs] at h
        split at h
        · rename_i d hd
          split at h
          · cases hr : tdSegs P (tdOf? P n) (o + d.n) r with
            | none => simp [hr] at h
            | some es =>
              rcases List.mem_cons.1 hs with rfl | hs
              · cases n with
                | zero => simp [tdOf?] at hd
                | succ m =>
                  unfold tdOf? at hd
                  cases hu : P.underlying t with
                  | none => rw [hu] at hd; cases hd
                  | some u =>
                    simp only [Program.underlying] at hu
                    cases hi : P.info? t with
                    | none => simp [hi] at hu
                    | some i => rfl
              · exact iha _ es hr s hs
          · cases h
        · cases h
    split at h
    · rename_i ht; cases h
      simp only [EqTy] at he
      obtain ⟨a, b, rfl, rfl, rfl⟩ := he
      exact run_equalIn_bool _ ht a b w
    · rename_i k ht; cases h
      simp only [EqTy] at he
      obtain ⟨a, b, rfl, rfl, rfl⟩ := he
      exact run_equalIn_int w _ t k k a b ht
    · rename_i ht; cases h
      simp only [EqTy] at he
      obtain ⟨a, b, rfl, rfl, rfl⟩ := he
      exact run_equalIn_string w _ t a b ht
    · rename_i e ht; rw [ht] at hk; cases hk
    · rename_i fs ht
      rw [ht] at hk
      split at h
      · rename_i ds hds
        split at h
        · rename_i hn
          cases h
          simp only [EqTy] at he
          simp only [Bool.and_eq_true, Bool.not_eq_true', Array.all_eq_true'] at hk
          obtain ⟨⟨hall, _⟩, hst⟩ := hk
          have hfo : P.fieldsOf t = fs := by simp [Program.fieldsOf, ht]
          simp only [TD.val]
          rw [show D + (n + 1) = (D + n) + 1 from rfl, run_equalIn_struct w (D + n) t xs.toArray ys.toArray (by rw [hfo]; exact ht) (by simpa using hst), hfo, eqFields_segs]
          · have := run_eqSegs (tdOf? P n) (D + n) w (fun t d h => ⟨n, h⟩) (fun t => P.keyTypeAt n t = true) (fun t d h hk xs ys r he => ih t d h hk w xs ys r he) _ 0 ds hds (fun s hs => by
              refine ⟨?_, info_of _ 0 ds hds s hs⟩
              obtain ⟨f, hf, rfl⟩ := List.mem_map.1 hs
              have := hall f (by simpa using hf)
              exact this.2) [] [] xs ys r rfl rfl he
            simpa using this
          · intro f hf
            have := hall f (by simpa using hf)
            simpa using this.1
        · cases h
      · cases h
    · rename_i m e ht
      rw [ht] at hk
      split at h
      · rename_i ds hds
        split at h
        · rename_i hn
          cases h
          simp only [EqTy] at he
          simp only [TD.val]
          cases m with
          | zero =>
            simp only [List.range_zero, List.map_nil, tdSegs, Option.some.injEq] at hds
            subst hds
            simp only [EqTyL] at he
            obtain ⟨rfl, rfl, rfl⟩ := he
            have hsz : ∃ i, P.info? e = some i := by
              cases n with
              | zero => simp [Program.keyTypeAt] at hk
              | succ q =>
                cases hu : P.underlying e with
                | none => exfalso; unfold Program.keyTypeAt at hk; simp [hu] at hk
                | some u =>
                  simp only [Program.underlying] at hu
                  cases hi : P.info? e with
                  | none => simp [hi] at hu
                  | some i => exact ⟨i, rfl⟩
            obtain ⟨i, hi⟩ := hsz
            rw [show D + (n + 1) = (D + n) + 1 from rfl, run_equalIn_array w (D + n) _ _ ht hi]
            rfl
          | succ m =>
            have hin := info_of _ 0 ds hds (0 * P.cellsOf e, e) (List.mem_map.2 ⟨0, by simp, rfl⟩)
            obtain ⟨i, hi⟩ := Option.isSome_iff_exists.1 hin
            rw [show D + (n + 1) = (D + n) + 1 from rfl, run_equalIn_array w (D + n) _ _ ht hi, eqItems_segs]
            have := run_eqSegs (tdOf? P n) (D + n) w (fun t d h => ⟨n, h⟩) (fun t => P.keyTypeAt n t = true) (fun t d h hk xs ys r he => ih t d h hk w xs ys r he) _ 0 ds hds (fun s hs => by
              refine ⟨?_, info_of _ 0 ds hds s hs⟩
              obtain ⟨f, hf, rfl⟩ := List.mem_map.1 hs
              exact hk) [] [] xs ys r rfl rfl he
            simpa using this
        · cases h
      · cases h
    · cases h

/-- A type whose values are compared cell by cell. -/
def eqT? (P : Program) (t : TypeId) : Option TD := if P.keyTypeAt 16 t && !P.eqGuardType P.depth t then tdOf? P 16 t else none

def aeq1 (d : TD) (x y : AV) : Option Bool := match d with
  | .int k => match x, y with
    | .s (.int k1 a), .s (.int k2 b) => if k1 = k ∧ k2 = k then some (a == b) else none
    | _, _ => none
  | .str => match x, y with
    | .s (.string a), .s (.string b) => some (a.toList == b.toList)
    | _, _ => none
  | .bool => match x, y with
    | .s (.bool a), .s (.bool b) => some (a == b)
    | _, _ => none
  | _ => none
def aeqS (d : TD) (xs ys : List AV) : Option (Bool × List AV × List AV) := match xs, ys with
  | x :: xs, y :: ys => match aeq1 d x y with | some r => some (r, xs, ys) | none => none
  | _, _ => none
theorem aeqS_inv {d : TD} {xs ys xs' ys' : List AV} {r : Bool} (h : aeqS d xs ys = some (r, xs', ys')) : ∃ as bs : List Value, xs = as.map .s ++ xs' ∧ ys = bs.map .s ++ ys' ∧ EqTy d as bs r := by
  unfold aeqS at h
  split at h
  · split at h
    · rename_i q hq
      cases h
      unfold aeq1 at hq
      split at hq
      · split at hq
        · split at hq
          · rename_i hk
            obtain ⟨rfl, rfl⟩ := hk
            cases hq
            exact ⟨[_], [_], rfl, rfl, by simp only [EqTy]; exact ⟨_, _, rfl, rfl, rfl⟩⟩
          · cases hq
        · cases hq
      · split at hq
        · cases hq
          exact ⟨[_], [_], rfl, rfl, by simp only [EqTy]; exact ⟨_, _, rfl, rfl, rfl⟩⟩
        · cases hq
      · split at hq
        · cases hq
          exact ⟨[_], [_], rfl, rfl, by simp only [EqTy]; exact ⟨_, _, rfl, rfl, rfl⟩⟩
        · cases hq
      · cases hq
    · cases h
  · cases h
mutual
def aeq : TD → List AV → List AV → Option (Bool × List AV × List AV)
  | .agg ds, xs, ys => aeqL ds xs ys
  | .int k, xs, ys => aeqS (.int k) xs ys
  | .str, xs, ys => aeqS .str xs ys
  | .bool, xs, ys => aeqS .bool xs ys
  | .sl _ _, _, _ => none
def aeqL : List TD → List AV → List AV → Option (Bool × List AV × List AV)
  | [], xs, ys => some (true, xs, ys)
  | d :: r, xs, ys => match aeq d xs ys with
    | some (q, xs', ys') => match aeqL r xs' ys' with | some (s, x2, y2) => some (q && s, x2, y2) | none => none
    | none => none
end

theorem aeq_aux : ∀ (k : Nat) (d : TD), SizeOf.sizeOf d < k → ∀ xs ys r xs' ys', aeq d xs ys = some (r, xs', ys') → ∃ as bs : List Value, xs = as.map .s ++ xs' ∧ ys = bs.map .s ++ ys' ∧ EqTy d as bs r
  | 0, d, h, _, _, _, _, _, _ => by omega
  | k + 1, .bool, _, xs, ys, r, xs', ys', h => aeqS_inv (by simpa [aeq] using h)
  | k + 1, .int kd, _, xs, ys, r, xs', ys', h => aeqS_inv (by simpa [aeq] using h)
  | k + 1, .str, _, xs, ys, r, xs', ys', h => aeqS_inv (by simpa [aeq] using h)
  | k + 1, .sl _ _, _, xs, ys, r, xs', ys', h => by simp [aeq] at h
  | k + 1, .agg ds, hk, xs, ys, r, xs', ys', h => by
    have h : aeqL ds xs ys = some (r, xs', ys') := by simpa [aeq] using h
    simp only [EqTy]
    have : ∀ (ds : List TD), SizeOf.sizeOf ds < k → ∀ xs ys r xs' ys', aeqL ds xs ys = some (r, xs', ys') → ∃ as bs : List Value, xs = as.map .s ++ xs' ∧ ys = bs.map .s ++ ys' ∧ EqTyL ds as bs r := by
      intro ds
      induction ds with
      | nil =>
        intro _ xs ys r xs' ys' h
        simp only [aeqL, Option.some.injEq, Prod.mk.injEq] at h
        obtain ⟨rfl, rfl, rfl⟩ := h
        exact ⟨[], [], rfl, rfl, by simp [EqTyL]⟩
      | cons d rest ih =>
        intro hs xs ys r xs' ys' h
        simp only [aeqL] at h
        split at h
        · rename_i q x1 y1 h1
          split at h
          · rename_i s x2 y2 h2
            cases h
            obtain ⟨as, bs, e1, e2, e3⟩ := aeq_aux k d (by simp at hs; omega) _ _ _ _ _ h1
            obtain ⟨as', bs', f1, f2, f3⟩ := ih (by simp at hs; omega) _ _ _ _ _ h2
            exact ⟨as ++ as', bs ++ bs', by rw [e1, f1]; simp, by rw [e2, f2]; simp, by simp only [EqTyL]; exact ⟨as, as', bs, bs', q, s, rfl, rfl, e3, f3, rfl⟩⟩
          · cases h
        · cases h
    exact this ds (by simp at hk; omega) xs ys r xs' ys' h

theorem pure_eqagg {o : Oper} {σ : St} {op : BinOp} {t yt : TypeId} {x y : Operand} {cs cs' : List AV} {ds : List TD} {r b : Bool} (ho : o.op = .binOp op t x y yt) (hx : σ.ev x = .agg cs) (hy : σ.ev y = .agg cs')
    (ht : eqT? P t = some (.agg ds)) (h : aeqL ds cs cs' = some (r, [], [])) (hop : op = .eql ∧ b = r ∨ op = .neq ∧ b = !r) : PureOp P o σ (.s (.bool b)) := by
  intro act w p hs _
  have h1 := ev_rel hs x
  have h2 := ev_rel hs y
  rw [hx] at h1
  rw [hy] at h2
  obtain ⟨as, bs, e1, e2, e3⟩ := aeq_aux _ (.agg ds) (Nat.lt_succ_self _) cs cs' r [] [] (by simpa [aeq] using h)
  simp only [List.append_nil] at e1 e2
  have vals : ∀ (as : List Value) v, RelV w p (.agg (as.map .s)) v → v = .agg as.toArray := by
    intro as v hv
    cases hv with
    | agg _ us hl hc =>
      congr 1
      apply Array.ext_getElem?
      intro i
      cases hi : as[i]? with
      | none =>
        have : as.length ≤ i := by simpa using hi
        simp at hl
        have e : us.size ≤ i := by omega
        simp [e, hi, this]
      | some a =>
        have hlt := (List.getElem?_eq_some_iff.1 hi).1
        simp at hl
        have hu : us[i]? = some us[i] := by simp
        have := (hc i (.s a) us[i] (by simp [hi]) hu).s_inv
        have e : i < us.size := by omega
        simp [hi, this, e]
  subst e1; subst e2
  have v1 := vals as _ h1
  have v2 := vals bs _ h2
  refine ⟨.bool b, ?_, .s _⟩
  unfold eqT? at ht
  split at ht
  · rename_i hc
    simp only [Bool.and_eq_true, Bool.not_eq_true'] at hc
    have hrun := run_equalIn_td 9984 16 t _ ht hc.1 w as bs r e3
    have hrun' : (Op.equal t (.agg as.toArray) (.agg bs.toArray)).run P w = .ok r w := hrun
    have hg := run_eqGuard_agg (P := P) w op t x y as.toArray bs.toArray hc.2
    rcases hop with ⟨rfl, rfl⟩ | ⟨rfl, rfl⟩
    · simp [execOp, ho, v1, v2, Sem.run_bind, hg, binOp, hrun']
    · simp [execOp, ho, v1, v2, Sem.run_bind, hg, binOp, hrun']
  · cases ht

section
variable {ops : Array Oper} {rest : List Oper} {n d ty : Nat} {ps : String} {af : Array Edge} {gd : Option (Nat × Bool)} {sl : List (Nat × AV)} {m : Mem} {Q : Exit → St → Prop}
theorem p_eqagg {t yt : TypeId} {x y : Operand} {cs cs' : List AV} {ds : List TD} {r : Bool} (hx : ev sl x = some (.agg cs)) (hy : ev sl y = some (.agg cs')) (ht : eqT? P t = some (.agg ds)) (h : aeqL ds cs cs' = some (r, [], [])) :
    PureOp P ⟨some d, .binOp .eql t x y yt, ty, ps, af, gd⟩ ⟨n, sl, m⟩ (.s (.bool r)) := pure_eqagg rfl (ev_eq hx) (ev_eq hy) ht h (.inl ⟨rfl, rfl⟩)
theorem p_neagg {t yt : TypeId} {x y : Operand} {cs cs' : List AV} {ds : List TD} {r : Bool} (hx : ev sl x = some (.agg cs)) (hy : ev sl y = some (.agg cs')) (ht : eqT? P t = some (.agg ds)) (h : aeqL ds cs cs' = some (r, [], [])) :
    PureOp P ⟨some d, .binOp .neq t x y yt, ty, ps, af, gd⟩ ⟨n, sl, m⟩ (.s (.bool !r)) := pure_eqagg rfl (ev_eq hx) (ev_eq hy) ht h (.inr ⟨rfl, rfl⟩)
end
end Go.Abs
set_option linter.unusedVariables false
set_option linter.unusedSimpArgs false
namespace Go.Abs
open Go Go.RowKit
variable {P : Program} {w0 : World} {p0 : Hp}

theorem mem_zeroCells {z : Array Value} {n : Nat} {v : Value} (hz : 0 < z.size) (h : v ∈ (Builtin.zeroCells z n).toList) : v ∈ z.toList := by
  simp only [Builtin.zeroCells, Array.toList_map, List.mem_map, Array.toList_range] at h
  obtain ⟨i, _, rfl⟩ := h
  have hlt : i % z.size < z.size := Nat.mod_lt _ hz
  rw [getElem!_pos z _ hlt]
  exact Array.getElem_mem_toList hlt

/-- clear, on a view of a slice of this call's own: what stands from there on is forgotten. -/
theorem aop_clear {o : Oper} {σ : St} {K : St → Prop} (hf : Fit w0 p0) {x : Operand} {t e g k by_ off c : Nat} {xs : List (List AV)} {zs : List Value} (ho : o.op = .call { callee := .builtin .clear, args := #[x], argTypes := #[t] }) (hdst : o.dst = none)
    (ht : appT? P t = some (e, k, by_)) (hz : zeros? P e = some zs) (hz1 : ∀ u ∈ zs, u.oneCell' = true) (hx : σ.ev x = .own g k off c) (hl : look σ.mem g = some (.buf k xs))
    (hK : K { σ with mem := setMem g (.buf k (xs.take off)) σ.mem }) : AOp P w0 p0 o σ K := by
  intro a w next Q ⟨h1, h2, p, hE, hs, hm⟩ hnx
  obtain ⟨he, hck, hk0, i, z, hi, hzz, hik, hby, hzc⟩ := appT?_inv ht
  have hr := ev_rel hs x
  rw [hx] at hr
  generalize hv : a.eval x = v at *
  -- a world that keeps all but the cells behind
  have fin : ∀ w' : World, Keeps w p w' p → w'.os = w.os → w'.tape = w.tape → w'.drawn = w.drawn → w'.output = w.output → w'.heap.size = w.heap.size → (∀ b, p.A b → w'.heap[b]? = w.heap[b]?) →
      (∀ g' b, g' ≠ g → p.o g' = some (some b) → w'.heap[b]? = w.heap[b]?) →
      (∀ b cur T, p.o g = some (some b) → w.heap[b]? = some (.cells cur T (0, 0)) → ∃ cur', w'.heap[b]? = some (.cells cur' T (0, 0)) ∧ cur'.size = cur.size ∧ ∀ q, q < off * k → cur'[q]? = cur[q]?) →
      Rel w0 p0 { σ with mem := setMem g (.buf k (xs.take off)) σ.mem } (a.put none undef) w' := by
    intro w' hk e1 e2 e2' e3 e4 e5 e6 e7
    refine ⟨h1, h2, p, hE.step hk e1 ⟨e2, by rw [e2']; exact Nat.le_refl _⟩ e3 (by rw [e4]; exact Nat.le_refl _) rfl (fun b _ hA => e5 b hA) (fun g' h1 h2 => absurd h1 h2), hs.keep hk, ⟨fun g' hg' => ?_, fun g' mm hg' => ?_, hm.inj, hm.avoid⟩⟩
    · rw [look_setMem g _ σ.mem (by rw [hl]; rfl) g'] at hg'
      split at hg'
      · cases hg'
      · exact hm.dom g' hg'
    · rw [look_setMem g _ σ.mem (by rw [hl]; rfl) g'] at hg'
      split at hg'
      · rename_i heq
        subst heq
        cases hg'
        rcases hm.holds g' _ hl with ⟨d0, d1⟩ | ⟨b, cur, T, d1, d2, d3, d4, d5⟩
        · exact .inl ⟨by rw [d0]; simp, d1⟩
        · obtain ⟨cur', f1, f2, f3⟩ := e7 b cur T d1 d2
          refine .inr ⟨b, cur', T, d1, f1, ?_, fun y hy => d4 y (List.mem_of_mem_take hy), fun j y i' c' hj hi' => ?_⟩
          · rw [f2]
            refine Nat.le_trans (Nat.mul_le_mul_right _ ?_) d3
            simp; omega
          · rw [List.getElem?_take] at hj
            split at hj
            · rename_i hjo
              obtain ⟨u, hu, hru⟩ := d5 j y i' c' hj hi'
              have hil := (List.getElem?_eq_some_iff.1 hi').1
              rw [(d4 y (List.mem_of_getElem? hj)).1] at hil
              have hjk : (j + 1) * k ≤ off * k := Nat.mul_le_mul_right _ hjo
              rw [Nat.add_mul] at hjk
              exact ⟨u, by rw [f3 _ (by omega)]; exact hu, hru.keep hk⟩
            · cases hj
      · rename_i hne
        exact (hm.holds g' mm hg').keep hk fun b hb => e6 g' b hne hb
  have noop : o.upon P a next Q (.ok (.value (.tuple #[])) w) := by
    simp only [Oper.upon]
    refine hnx _ _ _ hK ?_
    rw [hdst]
    exact fin w (Keeps.refl w p) rfl rfl rfl rfl rfl (fun _ _ => rfl) (fun _ _ _ _ => rfl) (fun b cur T _ hh => ⟨cur, hh, rfl, fun _ _ => rfl⟩)
  unfold Oper.wp
  cases hr with
  | ownn _ _ hg =>
    have hrun : (execOp a.eval o).run P w = .ok (.value (.tuple #[])) w := by
      simp [execOp, ho, resolve, invoke, builtin, Builtin.clear_, hv, run_underlying (elem?_inv he)]
    rw [hrun]; exact noop
  | own0 _ _ _ b ad hg =>
    have hrun : (execOp a.eval o).run P w = .ok (.value (.tuple #[])) w := by
      simp [execOp, ho, resolve, invoke, builtin, Builtin.clear_, hv, run_underlying (elem?_inv he)]
    rw [hrun]; exact noop
  | own _ _ _ _ b cap cur T hg hnc hcap hh hsz =>
    by_cases hc0 : c = 0
    · subst hc0
      have hrun : (execOp a.eval o).run P w = .ok (.value (.tuple #[])) w := by
        simp [execOp, ho, resolve, invoke, builtin, Builtin.clear_, hv, run_underlying (elem?_inv he)]
      rw [hrun]; exact noop
    · have hzs : zs = z.cells.toList := by
        unfold zeros? at hz; simp [hi, hzz] at hz; exact hz.symm
      have hrz : (zeroValue e).run P w = .ok z w := by simp [zeroValue, typeInfo, hi, hzz]
      have hlen : (Builtin.zeroCells z.cells c).toList.length = c * k := by
        rw [Array.length_toList, size_zeroCells, hzc]
      have hfit : off * k + 0 + (Builtin.zeroCells z.cells c).toList.length ≤ cur.size := by
        rw [hlen]
        have : c * k ≤ cap * k := Nat.mul_le_mul_right _ hnc
        omega
      have hst := run_storeCells_at P b (off * k) T (Builtin.zeroCells z.cells c).toList 0 cur w hh hfit (fun u hu => hz1 u (by rw [hzs]; exact mem_zeroCells (by rw [hzc]; exact hk0) hu))
      simp only [Nat.add_zero] at hst hfit
      generalize hcs : (cur.toList.take (off * k) ++ (Builtin.zeroCells z.cells c).toList ++ cur.toList.drop (off * k + (Builtin.zeroCells z.cells c).toList.length)).toArray = cs at hst
      have hrun : (execOp a.eval o).run P w = .ok (.value (.tuple #[])) (w.setRow b cs) := by
        simp [execOp, ho, resolve, invoke, builtin, Builtin.clear_, hv, run_underlying (elem?_inv he), hc0, hrz, hst]
      have hcsz : cs.size = cur.size := by
        rw [← hcs]; simp only [List.size_toArray, List.length_append, List.length_take, List.length_drop]
        simp only [Array.length_toList] at hlen hfit ⊢
        omega
      have hbk : (w.setRow b cs).heap[b]? = some (.cells cs T (0, 0)) := setRow_heap w b cur cs T _ hh
      have hoth : ∀ b', b' ≠ b → (w.setRow b cs).heap[b']? = w.heap[b']? := fun b' hne => setRow_other w b b' cs hne
      have hwsz : (w.setRow b cs).heap.size = w.heap.size := by simp [World.setRow]
      have hkeep : Keeps w p (w.setRow b cs) p := by
        refine ⟨fun b' hb' => ?_, fun _ _ h => h, fun g' b' hg' cur2 T2 hh2 => ?_⟩
        · have hne : b' ≠ b := fun e => hb'.2.1 g (e ▸ hg)
          exact ⟨⟨by rw [hwsz]; exact hb'.1, hb'.2⟩, hoth b' hne⟩
        · by_cases hne : b' = b
          · subst hne; rw [hh] at hh2; cases hh2; exact ⟨cs, hbk, hcsz⟩
          · exact ⟨cur2, by rw [hoth b' hne]; exact hh2, rfl⟩
      rw [hrun]
      simp only [Oper.upon]
      refine hnx _ _ _ hK ?_
      rw [hdst]
      refine fin _ hkeep rfl rfl rfl rfl hwsz (fun b' hA => hoth b' (fun e => hm.avoid g b hg (e ▸ hA))) (fun g' b' hne hb' => hoth b' (fun e => hne (hm.inj g' g b (e ▸ hb') hg))) (fun b' cur' T' hb' hh' => ?_)
      rw [hg] at hb'; cases hb'
      rw [hh] at hh'; cases hh'
      refine ⟨cs, hbk, hcsz, fun q hq => ?_⟩
      rw [← hcs]
      have : q < (cur.toList.take (off * k)).length := by
        simp
        have : off * k + cap * k ≤ cur.size := hsz
        omega
      rw [List.append_assoc, List.getElem?_toArray, List.getElem?_append_left this, List.getElem?_take, if_pos hq]
      simp

/-- append(nil, make(.., n)..): a new row of zeros. -/
theorem aop_appmake {o : Oper} {σ : St} {K : St → Prop} (hf : Fit w0 p0) {s x : Operand} {t tn e k by_ d : Nat} {kn kx : IntKind} {n : Nat} (ho : o.op = .call { callee := .builtin .append, args := #[s, x], argTypes := #[t, tn] }) (hdst : o.dst = some d) (hd : d < σ.n) (hfr : σ.fresh d)
    (ht : appT? P t = some (e, k, by_)) (htn : P.underlying tn = some (.int kn)) (hs : σ.ev s = .s (.slice none 0 0)) (hx : σ.ev x = .s (.int kx n)) (hn0 : 0 < n) (hby : n * by_ ≤ 140737488355328) (hmax : n ≤ maxLen)
    (hK : K ({ σ with mem := (d, .buf k []) :: σ.mem }.put d (.own d k 0 n))) : AOp P w0 p0 o σ K := by
  intro a w next Q hr hnx
  obtain ⟨he, hck, hk0, i, z, hi, hz, rfl, rfl, hzc⟩ := appT?_inv ht
  have hslots : ∀ p, SlotsRel w p σ.slots a.tmps → a.eval s = .slice none 0 0 ∧ a.eval x = .int kx n := fun p hsl => ⟨ev_s hsl hs, ev_s hsl hx⟩
  have hr0 := hr
  obtain ⟨h1, h2, p, hE, hsl, hm⟩ := hr0
  obtain ⟨es, ex⟩ := hslots p hsl
  have hmx : maxLen = 9223372036854775807 := rfl
  have happ := Go.Lib.run_append_nil_zeros (P := P) w t tn o.type e i z kx kn (elem?_inv he) htn hi hz n hn0 hk0 (by omega) (by omega)
  have hexec : (execOp a.eval o).run P w = .ok (.value (.slice (some ⟨w.heap.size, 0, none⟩) n (grownCap w n 0 e))) (w.drew.alloc (.cells (Builtin.zeroCells z.cells n ++ Builtin.zeroCells z.cells (grownCap w n 0 e - n)) e)) := by
    simp only [execOp, ho, resolve, invoke, builtin, Sem.run_bind, Sem.run_pure, Result.andThen_ok, List.map_toArray, List.map_cons, List.map_nil, es, ex, happ]
  unfold Oper.wp
  rw [hexec]
  simp only [Oper.upon]
  refine hnx _ _ _ hK ?_
  have hr' : Rel w0 p0 σ a w.drew := Rel.drew hr
  have hcapn := grownCap_ge w n 0 e
  have hcapm := grownCap_le_maxLen w n 0 e hmax
  have := rel_alloc hf hr' hfr o.dst (fun y hy => by rw [hdst] at hy; cases hy; exact hd) (Builtin.zeroCells z.cells n ++ Builtin.zeroCells z.cells (grownCap w n 0 e - n)) e (.buf i.size []) (.own d i.size 0 n) (.slice (some ⟨w.heap.size, 0, none⟩) n (grownCap w n 0 e)) ?_ ?_
  · rw [hdst] at this ⊢; exact this
  · intro p hs hm hkp
    exact .inr ⟨w.heap.size, _, e, by simp [Hp.upd], heap_alloc_new w.drew _, by simp, by simp, by simp⟩
  · intro p hm
    have := RelV.own (w := w.drew.alloc (.cells (Builtin.zeroCells z.cells n ++ Builtin.zeroCells z.cells (grownCap w n 0 e - n)) e)) (p := p.upd d (some (some w.heap.size))) d i.size 0 n w.heap.size (grownCap w n 0 e) _ e (by simp [Hp.upd]) hcapn hcapm (heap_alloc_new w.drew _)
      (by
        have e1 : n * i.size + (grownCap w n 0 e - n) * i.size = grownCap w n 0 e * i.size := by rw [← Nat.add_mul]; congr 1; omega
        simp only [Array.size_append, size_zeroCells, hzc, e1]; omega)
    simpa using this

section
variable {ops : Array Oper} {rest : List Oper} {n d ty : Nat} {ps : String} {af : Array Edge} {gd : Option (Nat × Bool)} {sl : List (Nat × AV)} {m : Mem} {Q : Exit → St → Prop}
theorem x_clear (hf : Fit w0 p0) {x : Operand} {t e g k by_ off c : Nat} {xs : List (List AV)} {zs : List Value} (ht : appT? P t = some (e, k, by_)) (hz : zeros? P e = some zs) (hz1 : ∀ u ∈ zs, u.oneCell' = true) (hx : ev sl x = some (.own g k off c)) (hl : lk m g = some (.buf k xs))
    (hk : AOps P w0 p0 ops rest ⟨n, sl, setMem g (.buf k (xs.take off)) m⟩ Q) : AOps P w0 p0 ops (⟨none, .call { callee := .builtin .clear, args := #[x], argTypes := #[t] }, ty, ps, af, none⟩ :: rest) ⟨n, sl, m⟩ Q :=
  aops_cons rfl (aop_clear hf rfl rfl ht hz hz1 (ev_eq hx) (by rw [← lk_eq]; exact hl) hk)
theorem x_appmake (hf : Fit w0 p0) {s x : Operand} {t tn e k by_ c : Nat} {kn kx : IntKind} (hd : lt d n = true) (hE : lt d E0 = true) (hl : lk m d = none) (ht : appT? P t = some (e, k, by_)) (htn : P.underlying tn = some (.int kn))
    (hs : ev sl s = some (.s (.slice none 0 0))) (hx : ev sl x = some (.s (.int kx (c : Nat)))) (hn0 : 0 < c) (hby : c * by_ ≤ 140737488355328) (hmax : c ≤ maxLen)
    (hk : AOps P w0 p0 ops rest ⟨n, (d, .own d k 0 c) :: sl, (d, .buf k []) :: m⟩ Q) : AOps P w0 p0 ops (⟨some d, .call { callee := .builtin .append, args := #[s, x], argTypes := #[t, tn] }, ty, ps, af, none⟩ :: rest) ⟨n, sl, m⟩ Q :=
  aops_cons rfl (aop_appmake hf rfl rfl (lt_of hd) (fresh_of hE hl) ht htn (ev_eq hs) (ev_eq hx) hn0 hby hmax hk)
theorem p_len_nil {t e : Nat} {x : Operand} (hx : ev sl x = some (.s (.slice none 0 0))) (ht : elem? P t = some e) : PureOp P ⟨some d, .call { callee := .builtin .len, args := #[x], argTypes := #[t] }, ty, ps, af, gd⟩ ⟨n, sl, m⟩ (.s (.int .i64 0)) := by
  intro act w p hs _
  exact ⟨_, by simp [execOp, resolve, invoke, builtin, Builtin.len_, ev_s hs (ev_eq hx), run_underlying (elem?_inv ht), goInt], .s _⟩
theorem p_cap_nil {t e : Nat} {x : Operand} (hx : ev sl x = some (.s (.slice none 0 0))) (ht : elem? P t = some e) : PureOp P ⟨some d, .call { callee := .builtin .cap, args := #[x], argTypes := #[t] }, ty, ps, af, gd⟩ ⟨n, sl, m⟩ (.s (.int .i64 0)) := by
  intro act w p hs _
  exact ⟨_, by simp [execOp, resolve, invoke, builtin, Builtin.cap_, ev_s hs (ev_eq hx), run_underlying (elem?_inv ht), goInt], .s _⟩
theorem p_slice_nil {t e k : Nat} {x y : Operand} {kd : IntKind} (hx : ev sl x = some (.s (.slice none 0 0))) (ht : elem? P t = some e) (hc : cells? P e = some k) (hy : ev sl y = some (.s (.int kd 0))) : PureOp P ⟨some d, .slice t x none (some y) none, ty, ps, af, gd⟩ ⟨n, sl, m⟩ (.s (.slice none 0 0)) := by
  intro act w p hs _
  have hb := run_bounds (P := P) (lo := none) (hi := some y) (len := 0) (cap := 0) (l := 0) (h := 0) hs rfl (by simp [bnd, ev_eq hy]) (Nat.le_refl _) (Nat.le_refl _)
  simp only [Option.map_none, Option.map_some] at hb
  refine ⟨_, ?_, .s _⟩
  simp [execOp, ev_s hs (ev_eq hx), Instr.sliceAt, Instr.slice, run_underlying (elem?_inv ht), hb, run_size hc]
/-- A nil slice takes a name. -/
theorem x_nil' (hf : Fit w0 p0) (k : Nat) {x : Operand} (hd : lt d n = true) (hE : lt d E0 = true) (hl : lk m d = none) (hx : ev sl x = some (.s (.slice none 0 0))) (hk : AOps P w0 p0 ops rest ⟨n, (d, .own d k 0 0) :: sl, (d, .buf k []) :: m⟩ Q) :
    AOps P w0 p0 ops (⟨some d, .assign x, ty, ps, af, none⟩ :: rest) ⟨n, sl, m⟩ Q := by
  refine aops_cons rfl ?_
  intro a w next Q' hr hn
  have h0 := aop_nil (P := P) (o := ⟨some d, .assign (.const (.slice none 0 0)), ty, ps, af, none⟩) (σ := ⟨n, sl, m⟩) (K := fun σ' => AOps P w0 p0 ops rest σ' Q) hf k rfl rfl (lt_of hd) (fresh_of hE hl) hk a w next Q' hr hn
  obtain ⟨h1, h2, p, hE', hs, hm⟩ := hr
  have e := ev_s hs (ev_eq (n := n) (m := m) hx)
  have hr1 : (execOp a.eval ⟨some d, .assign x, ty, ps, af, none⟩).run P w = .ok (.value (.slice none 0 0)) w := by simp [execOp, e]
  have hr2 : (execOp a.eval ⟨some d, .assign (.const (.slice none 0 0)), ty, ps, af, none⟩).run P w = .ok (.value (.slice none 0 0)) w := by simp [execOp, Act.eval]
  unfold Oper.wp at h0 ⊢
  rw [hr2] at h0
  rw [hr1]
  exact h0
end
end Go.Abs
set_option linter.unusedVariables false
set_option linter.unusedSimpArgs false
namespace Go.Abs
open Go Go.RowKit
variable {P : Program} {w0 : World} {p0 : Hp} {ops : Array Oper} {md : Region.Mode} {n : Nat} {mem : Mem}

/-! A region whose order is open: reading operations, and some at its end that come behind all of them. -/
def depsOf (md : Region.Mode) (o : Oper) : List Nat := (o.after.toList.filter (Region.binds md)).map (·.on)
def markAll (m : Array Bool) (l : List Nat) : Array Bool := l.foldl (fun m d => m.setIfInBounds d true) m
def closeDown (md : Region.Mode) (ops : Array Oper) : Nat → Array Bool → Array Bool
  | 0, m => m
  | i + 1, m => closeDown md ops i (if m.getD i false then markAll m (match ops[i]? with | some o => depsOf md o | none => []) else m)
def tailAfter (md : Region.Mode) (ops : Array Oper) (stop : Nat) : Bool :=
  (List.range ops.size).all fun j => decide (j < stop) || (match ops[j]? with
    | some o => (List.range stop).all fun i => (closeDown md ops ops.size (markAll (Array.replicate ops.size false) (depsOf md o))).getD i false
    | none => true)
def Closed (md : Region.Mode) (ops : Array Oper) (listed : Array Bool) : Prop := ∀ i, listed.getD i false = true → ∀ o, ops[i]? = some o → ∀ d ∈ depsOf md o, listed.getD d false = true
def Sub (m listed : Array Bool) : Prop := ∀ i, m.getD i false = true → listed.getD i false = true

theorem getD_set {m : Array Bool} {d i : Nat} (h : (m.setIfInBounds d true).getD i false = true) : i = d ∨ m.getD i false = true := by
  by_cases hd : d = i
  · exact .inl hd.symm
  · rw [getD_set_ne false hd] at h; exact .inr h
theorem markAll_sub {listed : Array Bool} : ∀ (l : List Nat) (m : Array Bool), Sub m listed → (∀ d ∈ l, listed.getD d false = true) → Sub (markAll m l) listed
  | [], m, h, _ => h
  | d :: l, m, h, hl => by
    refine markAll_sub l _ (fun i hi => ?_) (fun d hd => hl d (by simp [hd]))
    rcases getD_set hi with rfl | hi
    · exact hl _ (by simp)
    · exact h i hi
theorem closeDown_sub {listed : Array Bool} (hc : Closed md ops listed) : ∀ (i : Nat) (m : Array Bool), Sub m listed → Sub (closeDown md ops i m) listed
  | 0, m, h => h
  | i + 1, m, h => by
    simp only [closeDown]
    refine closeDown_sub hc i _ ?_
    split
    · rename_i hm
      refine markAll_sub _ m h ?_
      cases ho : ops[i]? with
      | none => simp
      | some o => exact fun d hd => hc i (h i hm) o ho d hd
    · exact h
theorem dep_listed {listed : Array Bool} {j : Nat} {o : Oper} (ho : ops[j]? = some o) (hj : j ∈ Region.ready md ops listed) : ∀ d ∈ depsOf md o, listed.getD d false = true := by
  obtain ⟨_, o', ho', hall⟩ := mem_ready.1 hj
  rw [ho] at ho'; cases ho'
  intro d hd
  simp only [depsOf, List.mem_map, List.mem_filter] at hd
  obtain ⟨e, ⟨he, hb⟩, rfl⟩ := hd
  exact hall e (by simpa using he) hb
theorem tail_ready {listed : Array Bool} {stop j : Nat} (ht : tailAfter md ops stop = true) (hc : Closed md ops listed) (hj : j ∈ Region.ready md ops listed) (hs : stop ≤ j) : ∀ i, i < stop → listed.getD i false = true := by
  obtain ⟨_, o, ho, _⟩ := mem_ready.1 hj
  have hlt := (Array.getElem?_eq_some_iff.1 ho).1
  simp only [tailAfter, List.all_eq_true, List.mem_range] at ht
  have h1 := ht j hlt
  have hns : ¬ j < stop := by omega
  simp only [hns, decide_false, Bool.false_or, ho, List.all_eq_true, List.mem_range] at h1
  intro i hi
  refine closeDown_sub hc ops.size _ (markAll_sub _ _ (fun q hq => ?_) (dep_listed ho hj)) i (h1 i hi)
  exfalso
  rw [Array.getD_eq_getD_getElem?] at hq
  rw [Array.getElem?_replicate] at hq
  split at hq <;> simp at hq
theorem Closed.set {listed : Array Bool} {j : Nat} (hc : Closed md ops listed) (hj : j ∈ Region.ready md ops listed) : Closed md ops (listed.setIfInBounds j true) := by
  intro i hi o ho d hd
  rcases getD_set hi with rfl | hi
  · exact getD_set_true (dep_listed ho hj d hd)
  · exact getD_set_true (hc i hi o ho d hd)
theorem closed_none : Closed md ops (Array.replicate ops.size false) := by
  intro i hi
  exfalso
  rw [Array.getD_eq_getD_getElem?, Array.getElem?_replicate] at hi
  split at hi <;> simp at hi

def wpAnyE (P : Program) (md : Region.Mode) (ops : Array Oper) (n : Nat) (mem : Mem) (stop : Nat) (E : Array Bool → FS → Prop) : Nat → Array Bool → FS → Prop
  | 0, listed, s => (∀ i, i < stop → listed.getD i true = true) ∧ E listed s
  | fuel + 1, listed, s => (Region.ready md ops listed ≠ []) ∧ ∀ i ∈ Region.ready md ops listed, gOp P ops n mem i (wpAnyE P md ops n mem stop E fuel (listed.setIfInBounds i true)) s

theorem wpAny_of_E (hf : Fit w0 p0) {stop r : Nat} {E : Array Bool → FS → Prop} {Q' : Exit → Act → World → Prop} (hE : ∀ listed s a w, FRel w0 p0 n mem s a w → E listed s → wpAny P md ops Q' r listed a w) : ∀ (fuel : Nat) (listed : Array Bool) (s : FS) (a : Act) (w : World), FRel w0 p0 n mem s a w →
    wpAnyE P md ops n mem stop E fuel listed s → wpAny P md ops Q' (fuel + r) listed a w
  | 0, listed, s, a, w, hr, h => by rw [Nat.zero_add]; exact hE _ _ _ _ hr h.2
  | fuel + 1, listed, s, a, w, hr, h => by
    rw [show fuel + 1 + r = (fuel + r) + 1 by omega]
    exact ⟨fun h0 => absurd h0 h.1, fun i hi => wpOp_of_gOp hf hr (fun s' a' w' hr' => wpAny_of_E hf hE fuel _ s' a' w' hr') (h.2 i hi)⟩

theorem wpAnyE_first {stop : Nat} {E : Array Bool → FS → Prop} (ht : tailAfter md ops stop = true) {i : Nat} {oi : Oper} {av : AV} (his : i < stop) (hi : ops[i]? = some oi) :
    ∀ (fuel : Nat) (listed : Array Bool) (s : FS), Closed md ops listed →
      (∀ j oj, ops[j]? = some oj → j ≠ i → listed.getD j true = false → (∀ e ∈ oj.after, Region.binds md e = true → e.on ≠ i) → oi.apart ops oj = true) →
      i ∈ Region.ready md ops listed → YieldsS P ops n mem oi av s →
      wpAnyE P md ops n mem stop E fuel (listed.setIfInBounds i true) (fput s oi.dst av) → wpAnyE P md ops n mem stop E (fuel + 1) listed s := by
  have early : ∀ (listed : Array Bool), Closed md ops listed → i ∈ Region.ready md ops listed → ∀ j ∈ Region.ready md ops listed, j < stop := by
    intro listed hc hr j hj
    rcases Nat.lt_or_ge j stop with h | h
    · exact h
    · exfalso
      have h1 := tail_ready ht hc hj h i his
      have h0 := (mem_ready.1 hr).1
      rcases Nat.lt_or_ge i listed.size with h' | h'
      · simp [h'] at h0 h1; rw [h0] at h1; cases h1
      · simp [Array.getElem?_eq_none h'] at h1
  intro fuel
  induction fuel with
  | zero =>
    intro listed s hc _ hr hy H
    refine ⟨fun h => (by rw [h] at hr; cases hr), fun j hj => ?_⟩
    by_cases hji : j = i
    · subst hji; exact hy.gOp hi H
    · exfalso
      have h1 := H.1 j (early listed hc hr j hj)
      rw [getD_set_ne true (Ne.symm hji)] at h1
      have h0 := (mem_ready.1 hj).1
      rw [h0] at h1; cases h1
  | succ fuel ih =>
    intro listed s hc hfree hr hy H
    refine ⟨fun h => (by rw [h] at hr; cases hr), fun j hj => ?_⟩
    by_cases hji : j = i
    · subst hji; exact hy.gOp hi H
    · have h1 := H.2 j (ready_mono hj hji)
      obtain ⟨hjun, oj, hoj, hall⟩ := mem_ready.1 hj
      have hnot : ∀ e ∈ oj.after, Region.binds md e = true → e.on ≠ i := fun e he hb heq => by
        have h1 := hall e he hb
        have h0 := (mem_ready.1 hr).1
        rw [heq] at h1
        rcases Nat.lt_or_ge i listed.size with h' | h'
        · simp [h'] at h0 h1; rw [h0] at h1; cases h1
        · simp [Array.getElem?_eq_none h'] at h1
      have h2 := gOp_put hoj (hfree j oj hoj hji hjun hnot) hy h1
      have hfree' : ∀ k ok, ops[k]? = some ok → k ≠ i → (listed.setIfInBounds j true).getD k true = false →
          (∀ e ∈ ok.after, Region.binds md e = true → e.on ≠ i) → oi.apart ops ok = true := fun k ok hk hki hun hno => by
        refine hfree k ok hk hki ?_ hno
        by_cases hjk : j = k
        · subst hjk; exact hjun
        · rw [getD_set_ne true hjk] at hun; exact hun
      refine gOp_mono (fun s' h3 => ih (listed.setIfInBounds j true) s' (hc.set hj) hfree' (ready_mono hr (Ne.symm hji)) h3.1 ?_) h2
      rw [Array.setIfInBounds_comm _ _ hji]
      exact h3.2

def lexPre (md : Region.Mode) (ops : Array Oper) : Nat → Nat → Array Bool → Bool
  | 0, _, _ => true
  | fuel + 1, k, listed => (Region.ready md ops listed).contains k && Region.free md ops listed k && lexPre md ops fuel (k + 1) (listed.setIfInBounds k true)
def setUpTo : Nat → Nat → Array Bool → Array Bool
  | 0, _, listed => listed
  | fuel + 1, k, listed => setUpTo fuel (k + 1) (listed.setIfInBounds k true)

theorem wpAnyE_lex {stop : Nat} {E : Array Bool → FS → Prop} (ht : tailAfter md ops stop = true) : ∀ (l : List Oper) (k : Nat) (listed : Array Bool) (s : FS), (∀ j o, l[j]? = some o → ops[k + j]? = some o) → k + l.length = stop → Closed md ops listed → (∀ i, i < k → listed.getD i true = true) →
    lexPre md ops l.length k listed = true → lexG P ops n mem (fun s => E (setUpTo l.length k listed) s) l s → wpAnyE P md ops n mem stop E l.length listed s
  | [], k, listed, s, _, hk, _, hlt, _, h => ⟨fun i hi => hlt i (by simpa [← hk] using hi), h⟩
  | o :: l, k, listed, s, hl, hk, hc, hlt, hB, h => by
    have h0 : ops[k]? = some o := by simpa using hl 0 o rfl
    simp only [List.length_cons, lexPre, Bool.and_eq_true] at hB
    obtain ⟨⟨hr, hf⟩, hB'⟩ := hB
    obtain ⟨av, hy, hK⟩ := h
    have hr' : k ∈ Region.ready md ops listed := by simpa using hr
    refine wpAnyE_first ht (by simp at hk; omega) h0 l.length listed s hc (Region.free_spec h0 hf) hr' hy ?_
    refine wpAnyE_lex ht l (k + 1) _ _ (fun j o' hj => by have := hl (j + 1) o' (by simpa using hj); simpa [Nat.add_assoc, Nat.add_comm 1 j] using this) (by simp at hk; omega) (hc.set hr') (fun i hi => ?_) hB' hK
    by_cases hik : k = i
    · subst hik
      have hsz : k < listed.size ∨ listed.size ≤ k := Nat.lt_or_ge _ _
      rcases hsz with h | h
      · simp [h]
      · simp [h]
    · rw [getD_set_ne true hik]; exact hlt i (by omega)

def drawTail (ops : Array Oper) (stop : Nat) : Bool := tailAfter .any ops stop && lexPre .any ops stop 0 (Array.replicate ops.size false)

variable {sl : List (Nat × AV)} {m : Mem} {Q : Exit → St → Prop}
theorem aw_draw_tail (hf : Fit w0 p0) {id : Nat} {l : List Oper} {K : FS → Prop} {L : Array Bool} (stop r : Nat) (hm : P.follows .mixedOrders = true) (hB : drawTail l.toArray stop = true) (hsz : l.length = stop + r) (hL : setUpTo stop 0 (Array.replicate l.toArray.size false) = L)
    (hK : K = fun s => ∃ σ' : St, σ'.n = n ∧ σ'.mem = m ∧ covers (fun t => some (s t)) σ'.slots ∧ noBad σ'.slots = true ∧ AAny P w0 p0 l.toArray Q r L σ') (h : lexG P l.toArray n m K (l.take stop) (fsl sl)) : AW P w0 p0 (.region id l.toArray true) ⟨n, sl, m⟩ Q := by
  subst hK
  intro a w ⟨h1, h2, p, hE, hs, hmem⟩
  refine wp_region_any hm ?_
  simp only [drawTail, Bool.and_eq_true] at hB
  have hr : FRel w0 p0 n m (fsl sl) a { w with drawn := w.drawn + 1 } := by
    have hg : Grow w { w with drawn := w.drawn + 1 } := ⟨rfl, ⟨rfl, Nat.le_succ _⟩, rfl, Nat.le_refl _, fun _ _ => rfl⟩
    have hk := hg.keeps hmem
    refine ⟨h1, h2, p, hE.step hk hg.os hg.tape hg.output hg.size rfl (fun b hb _ => hg.heap b hb) (fun g h1 h2 => absurd h1 h2), fun t => ?_, ⟨hmem.dom, fun g m hl => (hmem.holds g m hl).keep hk fun _ _ => rfl, hmem.inj, hmem.avoid⟩⟩
    unfold fsl
    rw [lk_eq]
    cases hl : look sl t with
    | none => exact .inl rfl
    | some b => obtain ⟨v, hv, hrv⟩ := hs t b hl; exact .inr ⟨v, hv, hrv.keep hk⟩
  have hlen : (l.take stop).length = stop := by simp; omega
  have key := wpAnyE_lex (P := P) (n := n) (mem := m) (E := fun listed (s : FS) => listed = L ∧ ∃ σ' : St, σ'.n = n ∧ σ'.mem = m ∧ covers (fun t => some (s t)) σ'.slots ∧ noBad σ'.slots = true ∧ AAny P w0 p0 l.toArray Q r L σ') hB.1 (l.take stop) 0 (Array.replicate l.toArray.size false) (fsl sl)
    (fun j o hj => by
      rw [List.getElem?_take] at hj
      split at hj
      · simpa using hj
      · cases hj) (by omega) closed_none (by simp) (by rw [hlen]; exact hB.2) (by
      rw [hlen]
      have : (fun (s : FS) => setUpTo stop 0 (Array.replicate l.toArray.size false) = L ∧ ∃ σ' : St, σ'.n = n ∧ σ'.mem = m ∧ covers (fun t => some (s t)) σ'.slots ∧ noBad σ'.slots = true ∧ AAny P w0 p0 l.toArray Q r L σ') = (fun (s : FS) => ∃ σ' : St, σ'.n = n ∧ σ'.mem = m ∧ covers (fun t => some (s t)) σ'.slots ∧ noBad σ'.slots = true ∧ AAny P w0 p0 l.toArray Q r L σ') := by
        funext s; exact propext ⟨fun h => h.2, fun h => ⟨hL, h⟩⟩
      exact this ▸ h)
  rw [hlen] at key
  have := wpAny_of_E hf (r := r) (Q' := fun e a' w' => ∃ σ', Q e σ' ∧ Rel w0 p0 σ' a' w') (fun listed s a w hr hQ => ?_) stop _ _ a _ hr key
  · have e : l.toArray.size = stop + r := by simpa using hsz
    rw [e] at this ⊢
    exact this
  · obtain ⟨rfl, σ', e1, e2, hc, hnb, hQ'⟩ := hQ
    obtain ⟨g1, g2, q, hE', hs', hm'⟩ := hr
    refine hQ' a w ⟨g1, by rw [e1]; exact g2, q, hE', fun t b hb => ?_, by rw [e2]; exact hm'⟩
    have hst : s t = b := by simpa using covers_look hc t b hb
    rcases hs' t with h | ⟨v, hv, hrv⟩
    · rw [hst] at h
      subst h
      exact absurd hb (noBad_look hnb t)
    · exact ⟨v, hv, hst ▸ hrv⟩

theorem lex_tail {K : FS → Prop} {sl' : List (Nat × AV)} {r : Nat} {L : Array Bool} (hK : K = fun s => ∃ σ' : St, σ'.n = n ∧ σ'.mem = m ∧ covers (fun t => some (s t)) σ'.slots ∧ noBad σ'.slots = true ∧ AAny P w0 p0 ops Q r L σ') (hc : coversL sl sl') (hnb : noBad sl' = true) (h : AAny P w0 p0 ops Q r L ⟨n, sl', m⟩) : lexG P ops n m K [] (fsl sl) := by
  subst hK
  refine ⟨⟨n, sl', m⟩, rfl, rfl, ?_, hnb, h⟩
  have : ∀ l, coversL sl l → covers (fun t => some (fsl sl t)) l := by
    intro l
    induction l with
    | nil => intro _; trivial
    | cons x r ih =>
      intro h
      obtain ⟨t, a⟩ := x
      exact ⟨by simp [fsl, h.1], ih h.2⟩
  exact this sl' hc

/-- One operation of an open region, told as in a region in order. -/
def onlyN (K : St → Prop) : Exit → St → Prop := fun e σ => e = .normal ∧ K σ
theorem aop_of_aops {o : Oper} {σ : St} {K : St → Prop} (hg : o.guard = none) (h : AOps P w0 p0 ops [o] σ (onlyN K)) : AOp P w0 p0 o σ K := by
  intro a w next Q hr hn
  have h1 := h a w hr
  simp only [wpList] at h1
  rw [if_pos (by simp [Region.wanted, hg])] at h1
  have hno : ¬ LetsOut (fun e a' w' => ∃ σ', onlyN K e σ' ∧ Rel w0 p0 σ' a' w') := fun ⟨_, _, _, h, _⟩ => by cases h.1
  rcases h1 with h1 | h1
  · unfold Oper.wp at h1 ⊢
    generalize (execOp a.eval o).run P w = r at h1 ⊢
    cases r with
    | ok nx w' =>
      cases nx <;> simp only [Oper.upon, wpList] at h1 ⊢
      case value v => obtain ⟨σ', h2, h3⟩ := h1; exact hn _ _ _ h2.2 h3
      case skip => obtain ⟨σ', h2, h3⟩ := h1; exact hn _ _ _ h2.2 h3
      case defer => obtain ⟨σ', h2, h3⟩ := h1; exact hn _ _ _ h2.2 h3
      case enter =>
        refine Calls.mono h1 (fun e w'' he => ?_)
        cases e with
        | returned v => obtain ⟨σ', h2, h3⟩ := he; exact hn _ _ _ h2.2 h3
        | panicked c => obtain ⟨σ', h2, h3⟩ := he; cases h2.1
        | outgrown => exact absurd he hno
      case row => exact Rows.mono h1 (fun v w'' ⟨σ', h2, h3⟩ => hn _ _ _ h2.2 h3)
    | halt x w' =>
      cases x <;> simp only [Oper.upon] at h1 ⊢
      obtain ⟨σ', h2, h3⟩ := h1; cases h2.1
  · exact absurd h1.2 hno
theorem aops_any {σ : St} {K : St → Prop} (h : K σ) : AOps P w0 p0 ops [] σ (onlyN K) := aops_nil ⟨rfl, h⟩
end Go.Abs
set_option linter.unusedVariables false
set_option linter.unusedSimpArgs false
namespace Go.Abs
open Go Go.RowKit
variable {P : Program} {w0 : World} {p0 : Hp}
variable {ops : Array Oper} {rest : List Oper} {n d ty : Nat} {ps : String} {af : Array Edge} {sl : List (Nat × AV)} {m : Mem} {Q : Exit → St → Prop}

def opne (d : Nat) : Operand → Bool
  | .tmp t => match Nat.beq d t with | true => false | false => true
  | _ => true
theorem eval_put {a : Act} {y : Operand} {d : Nat} {v : Value} (h : opne d y = true) : (a.put (some d) v).eval y = a.eval y := by
  cases y with
  | tmp t =>
    simp only [opne] at h
    split at h
    · cases h
    · rename_i hb
      have hne : d ≠ t := fun e => by subst e; simp at hb
      simp only [Act.eval, Act.put, Array.getD_eq_getD_getElem?]
      rw [Array.getElem?_setIfInBounds_ne hne]
  | const v => rfl
  | func f => rfl
  | global g => rfl

/-- A variable that is laid, written once, and from then on only read. -/
theorem x_allocst (hf : Fit w0 p0) {t t2 ty2 : Nat} {ps2 : String} {af2 : Array Edge} {y : Operand} {zs : List Value} {c : Nat} {av : AV} {cs : List AV} (hd : lt d n = true) (hz : zeros? P t = some zs) (hzl : zs.length = c) (hn : cells? P t2 = some c) (hy : ev sl y = some av) (hne : opne d y = true) (hcs : av.cells = cs) (hlen : cs.length = c) (h1 : ∀ c ∈ cs, c.leaf = true)
    (hk : AOps P w0 p0 ops rest ⟨n, (d, .adr cs) :: sl, m⟩ Q) : AOps P w0 p0 ops (⟨some d, .alloc t, ty, ps, af, none⟩ :: ⟨none, .store t2 (.tmp d) y, ty2, ps2, af2, none⟩ :: rest) ⟨n, sl, m⟩ Q := by
  subst hcs
  intro a w ⟨h2, h3, p, hE, hs, hm⟩
  obtain ⟨z, hz1, hz2⟩ := zeros?_inv hz w
  have hrun1 : (execOp a.eval ⟨some d, .alloc t, ty, ps, af, none⟩).run P w = .ok (.value (.pointer (some ⟨w.heap.size, 0, none⟩))) (w.alloc (.cells z.cells t)) := by
    simp [execOp, Instr.alloc, hz1, newVar, newRow]
  refine wpList_plain rfl fun K1 hK1 => ?_
  unfold Oper.wp
  rw [hrun1]
  simp only [Oper.upon]
  refine hK1 _ _ ?_
  refine wpList_plain rfl fun K2 hK2 => ?_
  have hdn : d < a.tmps.size := by rw [h3]; exact lt_of hd
  have ed : (a.put (some d) (.pointer (some ⟨w.heap.size, 0, none⟩))).eval (.tmp d) = .pointer (some ⟨w.heap.size, 0, none⟩) := by
    simp [Act.eval, Act.put, hdn]
  have ey : (a.put (some d) (.pointer (some ⟨w.heap.size, 0, none⟩))).eval y = a.eval y := eval_put hne
  have hzsz : z.cells.size = c := by rw [← hzl, ← hz2]; simp
  have hrv : RelV w p av (a.eval y) := (ev_eq (n := n) (m := m) hy) ▸ ev_rel hs y
  obtain ⟨hl, hc⟩ := hrv.cells (fun c hc => AV.one_of_leaf (h1 c hc))
  have hone : ∀ u ∈ (a.eval y).cells.toList, u.oneCell' = true := by
    intro u hu
    obtain ⟨i, hi⟩ := List.getElem?_of_mem hu
    have hlt := (List.getElem?_eq_some_iff.1 hi).1
    have hlt' : i < av.cells.length := by simp at hlt; omega
    obtain ⟨u', hu', hr'⟩ := hc i _ (List.getElem?_eq_getElem hlt')
    simp only [Array.getElem?_toList] at hi
    rw [hi] at hu'; cases hu'
    exact hr'.one (AV.one_of_leaf (h1 _ (List.getElem_mem hlt')))
  have hnew := heap_alloc_new w (.cells z.cells t)
  have hst := run_storeCells_at P w.heap.size 0 t (a.eval y).cells.toList 0 z.cells (w.alloc (.cells z.cells t)) hnew (by simp; omega) hone
  generalize hcs : (z.cells.toList.take (0 + 0) ++ (a.eval y).cells.toList ++ z.cells.toList.drop (0 + 0 + (a.eval y).cells.toList.length)).toArray = cs at hst
  have hcsv : cs = (a.eval y).cells := by
    rw [← hcs]
    have : (z.cells.toList.drop (0 + 0 + (a.eval y).cells.toList.length)) = [] := by
      rw [List.drop_eq_nil_iff]; simp; omega
    rw [this]; simp
  have hsz2 : (a.eval y).cells.size = c := by omega
  have hrun2 : (execOp (a.put (some d) (.pointer (some ⟨w.heap.size, 0, none⟩))).eval ⟨none, .store t2 (.tmp d) y, ty2, ps2, af2, none⟩).run P (w.alloc (.cells z.cells t)) = .ok .skip ((w.alloc (.cells z.cells t)).setRow w.heap.size cs) := by
    simp [execOp, ed, ey, Instr.storeAt, Instr.sureAddr, storeVar, run_size hn, hsz2, hst]
  unfold Oper.wp
  rw [hrun2]
  simp only [Oper.upon]
  refine hK2 _ _ ?_
  have hw'sz : ((w.alloc (.cells z.cells t)).setRow w.heap.size cs).heap.size = w.heap.size + 1 := by simp [World.setRow]
  have hbk : ((w.alloc (.cells z.cells t)).setRow w.heap.size cs).heap[w.heap.size]? = some (.cells cs t (0, 0)) := setRow_heap _ w.heap.size z.cells cs t _ hnew
  have hg : Grow w ((w.alloc (.cells z.cells t)).setRow w.heap.size cs) := ⟨rfl, ⟨rfl, Nat.le_refl _⟩, rfl, by rw [hw'sz]; omega, fun b hb => by
    rw [setRow_other _ w.heap.size b cs (by omega)]
    exact Below.heap_alloc w _ b hb⟩
  generalize hw' : (w.alloc (.cells z.cells t)).setRow w.heap.size cs = w' at hg hbk hw'sz ⊢
  have hkp := hg.keeps hm
  have hAb : ∀ b, p.A b → b < w.heap.size := fun b hb => Nat.lt_of_lt_of_le (hf.others b (hE.A ▸ hb)) hE.size
  have hstab : Stable w' p w.heap.size := ⟨by rw [hw'sz]; omega, fun g hgb => Nat.lt_irrefl _ (hm.lt hgb), fun hA => Nat.lt_irrefl _ (hAb _ hA)⟩
  refine hk _ w' ⟨h2, by simpa [Act.put] using h3, p, hE.step hkp hg.os hg.tape hg.output hg.size rfl (fun b hb _ => hg.heap b hb) (fun g h1 h2 => absurd h1 h2), ?_, ⟨hm.dom, fun g m hl => (hm.holds g m hl).keep hkp fun b hb => hg.heap b (hm.lt hb), hm.inj, hm.avoid⟩⟩
  have hadr : RelV w' p (.adr av.cells) (.pointer (some ⟨w.heap.size, 0, none⟩)) := by
    refine .adr _ w.heap.size 0 (fun i => ((a.eval y).cells[i]?).getD undef) hstab h1 (fun i c hi => ?_) (fun i c hi => ?_)
    · obtain ⟨u, hu, hr⟩ := hc i c hi
      rw [Nat.zero_add, cell_of_heap hbk, hcsv, hu]; rfl
    · obtain ⟨u, hu, hr⟩ := hc i c hi
      rw [hu]; exact hr.keep hkp
  exact (hs.keep hkp).put hdn hadr
end Go.Abs
set_option linter.unusedVariables false
set_option linter.unusedSimpArgs false
namespace Go.Abs
open Go Go.RowKit
variable {P : Program} {w0 : World} {p0 : Hp}

/-- The name that a function has for a slice that it takes over. -/
def G0 : Nat := 1000000
/-- What a call leaves that took over a slice (block x). -/
structure Took (w : World) (x : Option Nat) (w' : World) : Prop where
  os : w'.os = w.os
  tape : w'.tape = w.tape ∧ w.drawn ≤ w'.drawn
  output : w'.output = w.output
  size : w.heap.size ≤ w'.heap.size
  same : ∀ b, b < w.heap.size → x ≠ some b → w'.heap[b]? = w.heap[b]?

/-- The contract of a function that takes over a slice (named E0) and hands back a slice, in its block or in a new one. -/
def DenR (P : Program) (f : Nat) (args : List AV) (k : Nat) (xs : List (List AV)) (Q : List (List AV) → Prop) : Prop :=
  ∀ (A : Nat → Prop) (w : World) (x : Option Nat) (vals : List Value), (∀ b, A b → b < w.heap.size) → (∀ b, x = some b → ¬ A b) → RelL w (one0 x A) args vals → AMRel w (one0 x A) E0 (.buf k xs) →
    Calls P f vals.toArray w (fun e w' => ∃ v ys x', e = .returned v ∧ Q ys ∧ Took w x w' ∧ (∀ b, x' = some b → x = some b ∨ w.heap.size ≤ b) ∧ AMRel w' (one0 x' A) E0 (.buf k ys) ∧ RelV w' (one0 x' A) (.own E0 k 0 ys.length) v)
theorem DenR.mono {f : Nat} {args : List AV} {k : Nat} {xs : List (List AV)} {Q Q' : List (List AV) → Prop} (h : DenR P f args k xs Q) (hq : ∀ ys, Q ys → Q' ys) : DenR P f args k xs Q' :=
  fun A w x vals h1 h2 h3 h4 => (h A w x vals h1 h2 h3 h4).mono fun e w' ⟨v, ys, x', e1, e2, e3⟩ => ⟨v, ys, x', e1, hq _ e2, e3⟩

def named (x : Option Nat) (A : Nat → Prop) : Hp := { o := fun g => if g = G0 then some x else none, A := A }
theorem named_o {x : Option Nat} {A : Nat → Prop} {g : Nat} {y : Option Nat} (h : (named x A).o g = some y) : g = G0 ∧ x = y := by
  simp only [named] at h
  split at h
  · rename_i e; cases h; exact ⟨e, rfl⟩
  · cases h
theorem named_but (x : Option Nat) (A : Nat → Prop) : (named x A).but G0 = A := by
  funext b
  refine propext ⟨fun h => ?_, fun h => .inl h⟩
  rcases h with h | ⟨g, hg, h⟩
  · exact h
  · exact absurd (named_o h).1 hg

theorem denr_of_aw {f : Nat} {fn : Func} {c : Code} {args args' : List AV} {k : Nat} {xs : List (List AV)} {Q : List (List AV) → Prop} (hf : P.funcs[f]? = some fn) (hb : fn.body = some c) (hn : args.length ≤ fn.ntmps) (hargs : args.map (AV.fromE G0) = args')
    (h : ∀ w0 x A, Fit w0 (one0 x A) → AW P w0 (one0 x A) c ⟨fn.ntmps, slotsFrom 0 args', [(G0, .buf k xs)]⟩ (retO P fn k Q)) : DenR P f args k xs Q := by
  subst hargs
  intro A w x vals hA hx hr hbuf
  refine calls_of_wp hf hb ?_
  have hfit : Fit w (one0 x A) := ⟨fun g hg => by simp [one0]; omega, hA⟩
  have hxn : (named x A).o G0 = some x := by simp [named]
  have hbut : one0 x ((named x A).but G0) = one0 x A := by rw [named_but]
  have hrel : Rel w (one0 x A) ⟨fn.ntmps, slotsFrom 0 (args.map (AV.fromE G0)), [(G0, .buf k xs)]⟩ { tmps := vals.toArray ++ Array.replicate (fn.ntmps - vals.toArray.size) undef, defers := [] } w := by
    refine ⟨rfl, by have := hr.1; simp; omega, named x A, ⟨rfl, ⟨rfl, Nat.le_refl _⟩, rfl, Nat.le_refl _, rfl, fun b hb => ⟨⟨hb.1, fun g hg => ?_, hb.2.2⟩, rfl⟩, fun _ _ _ => rfl, fun g y hg => ?_⟩, fun t a ht => ?_, ⟨fun g hl => ?_, fun g m hl => ?_, fun g g' b h1 h2 => ?_, fun g b h => ?_⟩⟩
    · have := (named_o hg).2
      exact hb.2.1 E0 (by rw [one0_E0, this])
    · have := (one0_o hg).1
      subst this
      exact .inl (by simp [named, E0, G0])
    · obtain ⟨_, ht⟩ := look_slotsFrom _ 0 t a ht
      simp only [Nat.sub_zero] at ht
      rw [List.getElem?_map] at ht
      cases hi : args[t]? with
      | none => simp [hi] at ht
      | some c' =>
        simp [hi] at ht; subst ht
        have hlt : t < vals.length := by rw [← hr.1]; exact (List.getElem?_eq_some_iff.1 hi).1
        refine ⟨vals[t]'hlt, by rw [Array.getElem?_append_left (by simpa using hlt)]; simp [hlt], ?_⟩
        have := hr.2 t c' (vals[t]'hlt) hi (by simp [hlt])
        rw [← hbut] at this
        exact this.fromE hxn
    · simp only [look] at hl
      split at hl
      · cases hl
      · rename_i hne; simp only [named]; rw [if_neg (fun e => hne e.symm)]
    · simp only [look] at hl
      split at hl
      · rename_i e; subst e; cases hl
        rw [← hbut] at hbuf
        exact hbuf.fromE hxn
      · cases hl
    · exact (named_o h1).1.trans (named_o h2).1.symm
    · exact hx b (named_o h).2
  refine wp_mono (h w x A hfit _ w hrel) ?_
  rintro e a' w' ⟨σ', hq, h1, h2, p, hE, hs, hm⟩
  have fin : (∃ g ys, g < E0 ∧ look σ'.mem g = some (.buf k ys) ∧ ares P fn σ' = some (.own g k 0 ys.length) ∧ Q ys) → a'.defers = [] ∧ ∃ v, (results fn a'.tmps).run P w' = .ok v w' ∧
      ∃ v' ys x', Ending.returned v = .returned v' ∧ Q ys ∧ Took w x w' ∧ (∀ b, x' = some b → x = some b ∨ w.heap.size ≤ b) ∧ AMRel w' (one0 x' A) E0 (.buf k ys) ∧ RelV w' (one0 x' A) (.own E0 k 0 ys.length) v' := by
    rintro ⟨g, ys, hgE, hl, hres, hQ⟩
    obtain ⟨v, hv, hrv⟩ := ares_run hs hm _ hres
    obtain ⟨x', hx'⟩ : ∃ x', p.o g = some x' := by
      rcases hm.holds g _ hl with h | ⟨b, cur, T, h, _⟩
      · exact ⟨_, h.2⟩
      · exact ⟨_, h⟩
    have hpA : p.A = A := hE.A
    have hmv : ∀ b, Stable w' p b → Stable w' (one0 x' A) b := fun b hb => ⟨hb.1, fun g' hg' => by have := (one0_o hg').2; subst this; exact hb.2.1 g hx', hpA ▸ hb.2.2⟩
    refine ⟨h1, v, hv, v, ys, x', rfl, hQ, ⟨hE.os, hE.tape, hE.output, hE.size, fun b hb hxb => ?_⟩, ?_, ?_, ?_⟩
    · by_cases hAb : A b
      · exact hE.others b hb hAb
      · exact (hE.stab b ⟨hb, fun g' hg' => hxb (one0_o hg').2, hAb⟩).2
    · rintro b rfl
      by_cases hb : b < w.heap.size
      · left
        by_cases hxb : x = some b
        · exact hxb
        · exfalso
          by_cases hAb : A b
          · exact hm.avoid g b hx' (hpA ▸ hAb)
          · exact (hE.stab b ⟨hb, fun g' hg' => hxb (one0_o hg').2, hAb⟩).1.2.1 g hx'
      · right; omega
    · rcases hm.holds g _ hl with ⟨e1, e2⟩ | ⟨b, cur, T, h1, h2, h3, h4, h5⟩
      · rw [hx'] at e2; cases e2; exact .inl ⟨e1, one0_E0 _ _⟩
      · rw [hx'] at h1; cases h1
        refine .inr ⟨b, cur, T, one0_E0 _ _, h2, h3, h4, fun j y i c hy hc => ?_⟩
        obtain ⟨u, hu, hr⟩ := h5 j y i c hy hc
        exact ⟨u, hu, hr.move (ok := fun _ => false) (fun b hb => ⟨hmv b hb, rfl⟩) (fun _ _ h _ => by cases h) (AV.clean_of_leaf ((h4 y (List.mem_of_getElem? hy)).2 c (List.mem_of_getElem? hc)))⟩
    · generalize ys.length = n at hrv ⊢
      cases hrv with
      | ownn _ _ hg => rw [hx'] at hg; cases hg; exact .ownn _ _ (one0_E0 _ _)
      | own _ _ _ _ _ _ _ _ hg e1 e2 e3 e4 => rw [hx'] at hg; cases hg; exact .own _ _ _ _ _ _ _ _ (one0_E0 _ _) e1 e2 e3 e4
      | own0 _ _ _ _ _ hg => rw [hx'] at hg; cases hg; exact .own0 _ _ _ _ _ (one0_E0 _ _)
  cases e with
  | normal => exact fin hq
  | ret => exact fin hq
  | _ => exact hq.elim

/-- A call that takes over one of this call's own slices: the slice that comes back bears its name. -/
theorem aop_callR {o : Oper} {σ : St} {K : St → Prop} (hf : Fit w0 p0) {fo : Operand} {xs : List Operand} {ts : Array TypeId} {f g k d : Nat} {cap args : List AV} {ys : List (List AV)} {Q : List (List AV) → Prop}
    (ho : o.op = .call { callee := .value fo, args := xs.toArray, argTypes := ts }) (hdst : o.dst = some d) (hd : d < σ.n) (hgE : g < E0)
    (hent : ∀ args w, (callFunc f args).run P w = .ok (.enter f args) w) (hfo : σ.ev fo = .fn f cap) (hg : look σ.mem g = some (.buf k ys)) (hargs : (xs.map σ.ev ++ cap).map (AV.toE g) = args)
    (hden : DenR P f args k ys Q) (hK : ∀ zs, Q zs → K ⟨σ.n, (d, .own g k 0 zs.length) :: killSlots g σ.slots, (g, .buf k zs) :: killMem g σ.mem⟩) : AOp P w0 p0 o σ K := by
  intro a w next Q' ⟨h1, h2, p, hE, hs, hm⟩ hn
  obtain ⟨vals, hrun, hrel⟩ := call_run (P := P) ho hent hs hfo
  unfold Oper.wp
  rw [hrun]
  simp only [Oper.upon]
  obtain ⟨x, hx⟩ : ∃ x, p.o g = some x := by
    rcases hm.holds g _ hg with h | ⟨b, cur, T, h, _⟩
    · exact ⟨_, h.2⟩
    · exact ⟨_, h⟩
  have hA : ∀ b, p.but g b → b < w.heap.size := fun b hb => by
    rcases hb with hb | ⟨g', _, hg'⟩
    · exact Nat.lt_of_lt_of_le (hf.others b (hE.A ▸ hb)) hE.size
    · exact hm.lt hg'
  have hxA : ∀ b, x = some b → ¬ p.but g b := by
    rintro b rfl (h | ⟨g', h1, h2⟩)
    · exact hm.avoid g b hx h
    · exact h1 (hm.inj g' g b h2 hx)
  refine (hden (p.but g) w x vals hA hxA ?_ ((hm.holds g _ hg).toE hx)).mono ?_
  · rw [← hargs]
    refine ⟨by simpa using hrel.1, fun i c v hc hv => ?_⟩
    rw [List.getElem?_map] at hc
    cases hi : (xs.map σ.ev ++ cap)[i]? with
    | none => simp [hi] at hc
    | some c' => simp [hi] at hc; subst hc; exact (hrel.2 i c' v hi hv).toE hx
  · rintro e w' ⟨v, zs, x', rfl, hQ, hT, hx', hb', hr⟩
    have hp0 : p0.o g = none := hf.names g hgE
    have hsame : ∀ b, b < w.heap.size → x ≠ some b → w'.heap[b]? = w.heap[b]? := hT.same
    have hnx : ∀ b, Stable w p b → x ≠ some b := fun b hb e => hb.2.1 g (by rw [hx, e])
    have hstq : ∀ b, Stable w p b → Stable w' (p.upd g (some x')) b := fun b hb => ⟨Nat.lt_of_lt_of_le hb.1 hT.size, fun g' hg' => by
      simp only [Hp.upd] at hg'
      split at hg'
      · cases hg'
        rcases hx' b rfl with e | e
        · exact hnx b hb e
        · exact absurd hb.1 (by omega)
      · exact hb.2.1 g' hg', hb.2.2⟩
    have hoth : ∀ g' b, g' ≠ g → p.o g' = some (some b) → x ≠ some b := fun g' b hne hb e => hne (hm.inj g' g b hb (by rw [hx, e]))
    have hmv : ∀ a v, RelV w p a v → a.clean (fun x => x != g) = true → RelV w' (p.upd g (some x')) a v := fun a v hr hc =>
      hr.move (ok := fun x => x != g) (fun b hb => ⟨hstq b hb, hsame b hb.1 (hnx b hb)⟩) (fun g' y hok hy => by
        have hne : g' ≠ g := by simpa using hok
        refine ⟨by simp only [Hp.upd]; rw [if_neg hne]; exact hy, fun b hb cur T hh => ⟨cur, ?_, rfl⟩⟩
        subst hb
        rw [hsame b (hm.lt hy) (hoth g' b hne hy)]; exact hh) hc
    have hE' : Ext w0 p0 w' (p.upd g (some x')) := by
      refine ⟨hT.os.trans hE.os, ⟨hT.tape.1.trans hE.tape.1, Nat.le_trans hE.tape.2 hT.tape.2⟩, hT.output.trans hE.output, Nat.le_trans hE.size hT.size, hE.A, fun b hb => ?_, fun b hb hAb => ?_, fun g' y hy => ?_⟩
      · have hst := (hE.stab b hb).1
        exact ⟨hstq b hst, by rw [hsame b hst.1 (hnx b hst)]; exact (hE.stab b hb).2⟩
      · have : x ≠ some b := fun e => hm.avoid g b (by rw [hx, e]) (hE.A ▸ hAb)
        rw [hsame b (Nat.lt_of_lt_of_le hb hE.size) this]; exact hE.others b hb hAb
      · have hne : g' ≠ g := fun e => by rw [e, hp0] at hy; cases hy
        simp only [Hp.upd]
        rw [if_neg hne]
        rcases hE.name g' y hy with h | ⟨h, h'⟩
        · exact .inl h
        · refine .inr ⟨h, fun b hb cur T hh => ?_⟩
          obtain ⟨c1, e1, s1⟩ := h' b hb cur T hh
          subst hb
          exact ⟨c1, by rw [hsame b (hm.lt h) (hoth g' b hne h)]; exact e1, s1⟩
    have hqg : (p.upd g (some x')).o g = some x' := by simp [Hp.upd]
    have hbq : one0 x' ((p.upd g (some x')).but g) = one0 x' (p.but g) := by
      congr 1
      funext b
      refine propext ⟨?_, ?_⟩
      · rintro (h | ⟨g', hne, h⟩)
        · exact .inl h
        · simp only [Hp.upd] at h; rw [if_neg hne] at h; exact .inr ⟨g', hne, h⟩
      · rintro (h | ⟨g', hne, h⟩)
        · exact .inl h
        · exact .inr ⟨g', hne, by simp only [Hp.upd]; rw [if_neg hne]; exact h⟩
    rw [← hbq] at hb' hr
    have hAM := hb'.fromE hqg
    have hrv := hr.fromE hqg
    simp only [AV.fromE, if_pos] at hrv
    refine hn _ _ _ (hK zs hQ) ?_
    rw [hdst]
    refine rel_rebind h1 h2 hs hm g hE' hmv (fun g' hne => by simp only [Hp.upd]; rw [if_neg hne]) (fun b g' hne hb => hsame b (hm.lt hb) (hoth g' b hne hb)) hAM (fun g' b hne hb hb2 => ?_) (fun b hb hAb => ?_) rfl hd hrv
    · rw [hqg] at hb; cases hb
      rcases hx' b rfl with e | e
      · exact hoth g' b hne hb2 e
      · have := hm.lt hb2; omega
    · rw [hqg] at hb; cases hb
      rcases hx' b rfl with e | e
      · exact hm.avoid g b (by rw [hx, e]) hAb
      · have := hA b (.inl hAb); omega

section
variable {n : Nat} {sl : List (Nat × AV)} {m : Mem} {ops : Array Oper} {rest : List Oper} {Q : Exit → St → Prop} {d ty : Nat} {ps : String} {af : Array Edge}
theorem y_callR (hf : Fit w0 p0) {fo : Operand} {xs : List Operand} {ts : Array TypeId} {f : Nat} (g : Nat) {k : Nat} {cap args args' : List AV} {ys : List (List AV)} {R : List (List AV) → Prop} (hd : lt d n = true) (hgE : lt g E0 = true) (hfo : ev sl fo = some (.fn f cap)) (hargs : evs sl cap xs = some args)
    (hg : lk m g = some (.buf k ys)) (hto : args.map (AV.toE g) = args')
    (hent : ∀ args w, (callFunc f args).run P w = .ok (.enter f args) w) (hden : DenR P f args' k ys R) (hk : ∀ zs, R zs → AOps P w0 p0 ops rest ⟨n, (d, .own g k 0 zs.length) :: killSlots g sl, (g, .buf k zs) :: killMem g m⟩ Q) :
    AOps P w0 p0 ops (⟨some d, .call { callee := .value fo, args := xs.toArray, argTypes := ts }, ty, ps, af, none⟩ :: rest) ⟨n, sl, m⟩ Q :=
  aops_cons rfl (aop_callR hf rfl rfl (lt_of hd) (lt_of hgE) hent (ev_eq hfo) (by rw [← lk_eq]; exact hg) (by rw [evs_eq hargs]; exact hto) hden hk)
end
end Go.Abs
set_option linter.unusedVariables false
set_option linter.unusedSimpArgs false
namespace Go.Abs
open Go Go.RowKit
variable {P : Program} {w0 : World} {p0 : Hp}

/-- The operation yields this abstract value, whatever the world holds: it looks at slots alone. -/
def PureOpW (P : Program) (o : Oper) (σ : St) (av : AV) : Prop :=
  ∀ (act : Act) (w : World) (p : Hp), SlotsRel w p σ.slots act.tmps → MemRel w p σ.mem → ∃ v, (∀ w2, (execOp act.eval o).run P w2 = .ok (.value v) w2) ∧ RelV w p av v
theorem run_boundW {σ : St} {act : Act} {w : World} (w2 : World) {p : Hp} (hs : SlotsRel w p σ.slots act.tmps) {x : Operand} {d n y : Nat} (h : bnd σ d (some x) = some n) (hy : n ≤ y) (code : BoundsCode) :
    (Instr.sliceBound (act.eval x) y code).run P w2 = .ok n w2 := by
  simp only [bnd] at h
  split at h
  · rename_i k i hx
    split at h
    · rename_i h0
      cases h
      have hle : i ≤ (y : Int) := by omega
      simp [Instr.sliceBound, ev_s hs hx, asIntOf, h0, hle]
    · cases h
  · cases h
theorem run_boundsW {σ : St} {act : Act} {w : World} (w2 : World) {p : Hp} (hs : SlotsRel w p σ.slots act.tmps) {lo hi : Option Operand} {len cap l h : Nat} (hl : bnd σ 0 lo = some l) (hh : bnd σ len hi = some h) (h1 : l ≤ h) (h2 : h ≤ cap) :
    (Instr.sliceBounds true len cap (lo.map act.eval) (hi.map act.eval) none).run P w2 = .ok (l, h, cap) w2 := by
  cases lo with
  | none =>
    have e1 : l = 0 := by simpa [bnd] using hl.symm
    subst e1
    cases hi with
    | none => have e2 : h = len := by simpa [bnd] using hh.symm
              subst e2; simp [Instr.sliceBounds]
    | some y => simp [Instr.sliceBounds, run_boundW w2 hs hh h2]
  | some x =>
    cases hi with
    | none => have e2 : h = len := by simpa [bnd] using hh.symm
              subst e2; simp [Instr.sliceBounds, run_boundW w2 hs hl h1]
    | some y => simp [Instr.sliceBounds, run_boundW w2 hs hh h2, run_boundW w2 hs hl h1]
-- pure_move
theorem wpure_move {o : Oper} {σ : St} {x : Operand} (ho : o.op = .move x) : PureOpW P o σ (σ.ev x) :=
  fun act w p hs _ => ⟨act.eval x, fun w2 => by simp [execOp, ho], ev_rel hs x⟩
-- pure_assign
theorem wpure_assign {o : Oper} {σ : St} {x : Operand} (ho : o.op = .assign x) : PureOpW P o σ (σ.ev x) :=
  fun act w p hs _ => ⟨act.eval x, fun w2 => by simp [execOp, ho], ev_rel hs x⟩
-- pure_bin
theorem wpure_bin {o : Oper} {σ : St} {op : BinOp} {t yt : TypeId} {x y : Operand} {u v r : Value} (ho : o.op = .binOp op t x y yt) (hx : σ.ev x = .s u) (hy : σ.ev y = .s v)
    (h : abin P op t u v = some r) : PureOpW P o σ (.s r) := by
  intro act w p hs _
  refine ⟨r, ?_, .s r⟩
  have e1 := ev_s hs hx
  have e2 := ev_s hs hy
  intro w2
  have := abin_run (P := P) h x y w2
  simp only [execOp, ho, e1, e2]
  rw [Sem.run_bind, this]
  simp
-- pure_not
theorem wpure_not {o : Oper} {σ : St} {t : TypeId} {x : Operand} {b : Bool} (ho : o.op = .unOp .not t x) (hx : σ.ev x = .s (.bool b)) : PureOpW P o σ (.s (.bool !b)) := by
  intro act w p hs _
  exact ⟨_, fun w2 => by simp [execOp, ho, ev_s hs hx, Op.unary], .s _⟩
-- pure_len_of
theorem wpure_len_of {o : Oper} {σ : St} {x : Operand} {t e : TypeId} {av : AV} {n : Nat} (ho : o.op = .call { callee := .builtin .len, args := #[x], argTypes := #[t] })
    (ht : elem? P t = some e) (hx : σ.ev x = av) (hl : ∀ w p v, RelV w p av v → ∃ a cap, v = .slice a n cap) : PureOpW P o σ (.s (.int .i64 n)) := by
  intro act w p hs _
  obtain ⟨a, cap, hv⟩ := hl w p _ (hx ▸ ev_rel hs x)
  exact ⟨_, fun w2 => by simp [execOp, ho, resolve, invoke, builtin, Builtin.len_, hv, run_underlying (elem?_inv ht), goInt], .s _⟩
-- pure_min
theorem wpure_min {o : Oper} {σ : St} {x y : Operand} {t1 t2 : TypeId} {k k' : IntKind} {a b : Int} (ho : o.op = .call { callee := .builtin .min, args := #[x, y], argTypes := #[t1, t2] })
    (hx : σ.ev x = .s (.int k a)) (hy : σ.ev y = .s (.int k' b)) : PureOpW P o σ (.s (.int k (min a b))) := by
  intro act w p hs _
  refine ⟨.int k (if b < a then b else a), fun w2 => by simp [execOp, ho, resolve, invoke, builtin, Builtin.min_, Builtin.min2, ev_s hs hx, ev_s hs hy], ?_⟩
  have : min a b = if b < a then b else a := by split <;> omega
  rw [this]; exact .s _
-- pure_max
theorem wpure_max {o : Oper} {σ : St} {x y : Operand} {t1 t2 : TypeId} {k k' : IntKind} {a b : Int} (ho : o.op = .call { callee := .builtin .max, args := #[x, y], argTypes := #[t1, t2] })
    (hx : σ.ev x = .s (.int k a)) (hy : σ.ev y = .s (.int k' b)) : PureOpW P o σ (.s (.int k (max a b))) := by
  intro act w p hs _
  refine ⟨.int k (if b > a then b else a), fun w2 => by simp [execOp, ho, resolve, invoke, builtin, Builtin.max_, Builtin.max2, ev_s hs hx, ev_s hs hy], ?_⟩
  have : max a b = if b > a then b else a := by split <;> omega
  rw [this]; exact .s _
-- pure_extract
theorem wpure_extract {o : Oper} {σ : St} {x : Operand} {i : Nat} {vs : List AV} {c : AV} (ho : o.op = .extract x i) (hx : σ.ev x = .tup vs) (hi : vs[i]? = some c) : PureOpW P o σ c := by
  intro act w p hs _
  have := ev_rel hs x
  rw [hx] at this
  generalize hv : act.eval x = v at *
  cases this with
  | tup cs us hl h =>
    have hlt : i < us.size := by rw [← hl]; exact (List.getElem?_eq_some_iff.1 hi).1
    have e : us[i]? = some us[i] := by simp [hlt]
    exact ⟨us[i], fun w2 => by simp [execOp, ho, hv, Instr.extract, e], h i c _ hi e⟩
-- pure_indexAddr_sl
theorem wpure_indexAddr_sl {o : Oper} {σ : St} {x i : Operand} {t e : TypeId} {k : Nat} {xs : List (List AV)} {c : List AV} {kd : IntKind} {n : Int} (ho : o.op = .indexAddr t x i) (ht : elem? P t = some e) (hk : cells? P e = some k)
    (hx : σ.ev x = .sl k xs) (hi : σ.ev i = .s (.int kd n)) (hn : 0 ≤ n ∧ xs[n.toNat]? = some c) : PureOpW P o σ (.adr c) := by
  intro act w p hs _
  have h1 := ev_rel hs x
  rw [hx] at h1
  have e2 := ev_s hs hi
  obtain ⟨h0, hc⟩ := hn
  have hlt : n.toNat < xs.length := (List.getElem?_eq_some_iff.1 hc).1
  generalize hv : act.eval x = v at *
  cases h1 with
  | sln => simp at hlt
  | slc _ _ b off cap f hb hn' hcap hkk hcc hr =>
    refine ⟨.pointer (some ⟨b, off + n.toNat * k, none⟩), ?_, .adr c b (off + n.toNat * k) (f n.toNat) hb ((hkk c (List.mem_of_getElem? hc)).2) (fun j y hy => ?_) (fun j y hy => hr _ _ j y hc hy)⟩
    · intro w2
      have : n < (xs.length : Int) := by omega
      simp [execOp, ho, hv, e2, Instr.indexAt, asIntOf, run_underlying (elem?_inv ht), h0, this, run_size hk, add_at]
    · exact hcc _ _ j y hc hy
-- pure_fieldAddr_adr
theorem wpure_fieldAddr_adr {o : Oper} {σ : St} {x : Operand} {t u : TypeId} {f off n : Nat} {cs : List AV} (ho : o.op = .fieldAddr t x f) (ht : field? P t f = some (off, u)) (hu : cells? P u = some n) (h0 : n ≠ 0)
    (hx : σ.ev x = .adr cs) : PureOpW P o σ (.adr (cs.drop off)) := by
  intro act w p hs _
  obtain ⟨fs, fd, e1, e2, rfl, rfl⟩ := field?_inv ht
  have h1 := ev_rel hs x
  rw [hx] at h1
  generalize hv : act.eval x = v at *
  cases h1 with
  | adr _ b off f hb hkk hcc hr =>
    refine ⟨.pointer (some ⟨b, off + fd.offset, none⟩), fun w2 => by simp [execOp, ho, hv, Instr.fieldAt, Instr.sureAddr, run_underlying e1, e2, run_fieldPlace hu h0, add_at], .adr _ b _ (fun i => f (fd.offset + i)) hb (fun c hc => hkk c (List.mem_of_mem_drop hc)) (fun i c hi => ?_) (fun i c hi => ?_)⟩
    · rw [List.getElem?_drop] at hi
      rw [Nat.add_assoc]; exact hcc _ c hi
    · rw [List.getElem?_drop] at hi
      exact hr _ c hi
-- pure_fieldAddr_ref
theorem wpure_fieldAddr_ref {o : Oper} {σ : St} {x : Operand} {t u : TypeId} {f off n : Nat} {g k j i : Nat} (ho : o.op = .fieldAddr t x f) (ht : field? P t f = some (off, u)) (hu : cells? P u = some n) (h0 : n ≠ 0)
    (hx : σ.ev x = .ref g k j i) : PureOpW P o σ (.ref g k j (i + off)) := by
  intro act w p hs _
  obtain ⟨fs, fd, e1, e2, rfl, rfl⟩ := field?_inv ht
  have h1 := ev_rel hs x
  rw [hx] at h1
  generalize hv : act.eval x = v at *
  cases h1 with
  | ref _ _ _ _ b hg =>
    refine ⟨.pointer (some ⟨b, j * k + (i + fd.offset), none⟩), fun w2 => by simp [execOp, ho, hv, Instr.fieldAt, Instr.sureAddr, run_underlying e1, e2, run_fieldPlace hu h0, add_at, Nat.add_assoc], .ref _ _ _ _ b hg⟩
-- pure_indexAddr_own
theorem wpure_indexAddr_own {o : Oper} {σ : St} {x i : Operand} {t e : TypeId} {g k off m : Nat} {kd : IntKind} {n : Int} (ho : o.op = .indexAddr t x i) (ht : elem? P t = some e) (hk : cells? P e = some k)
    (hx : σ.ev x = .own g k off m) (hi : σ.ev i = .s (.int kd n)) (hn : 0 ≤ n ∧ n < m) : PureOpW P o σ (.ref g k (off + n.toNat) 0) := by
  intro act w p hs _
  have h1 := ev_rel hs x
  rw [hx] at h1
  have e2 := ev_s hs hi
  obtain ⟨h0, hlt⟩ := hn
  generalize hv : act.eval x = v at *
  cases h1 with
  | ownn => omega
  | own0 => omega
  | own _ _ _ _ b cap cur T hg hnc hcap hh hsz =>
    refine ⟨.pointer (some ⟨b, off * k + n.toNat * k, none⟩), ?_, ?_⟩
    · intro w2
      simp [execOp, ho, hv, e2, Instr.indexAt, asIntOf, run_underlying (elem?_inv ht), h0, hlt, run_size hk, add_at]
    · have : off * k + n.toNat * k = (off + n.toNat) * k + 0 := by rw [Nat.add_mul]; rfl
      rw [this]; exact .ref _ _ _ _ b hg
-- pure_field1
theorem wpure_field1 {o : Oper} {σ : St} {x : Operand} {t u : TypeId} {f off : Nat} {cs : List AV} {c : AV} (ho : o.op = .field t x f) (ht : field? P t f = some (off, u)) (hu : agg? P u = some false)
    (hx : σ.ev x = .agg cs) (hc : cs[off]? = some c) : PureOpW P o σ c := by
  intro act w p hs _
  obtain ⟨fs, fd, e1, e2, rfl, rfl⟩ := field?_inv ht
  have h1 := ev_rel hs x
  rw [hx] at h1
  generalize hv : act.eval x = v at *
  cases h1 with
  | agg _ us hl h =>
    have hlt : fd.offset < us.size := by rw [← hl]; exact (List.getElem?_eq_some_iff.1 hc).1
    have e : us[fd.offset]? = some us[fd.offset] := by simp [hlt]
    exact ⟨us[fd.offset], fun w2 => by simp [execOp, ho, hv, Instr.field, asAgg, run_underlying e1, e2, run_part1 hu e], h _ c _ hc e⟩
-- pure_slice_sl
theorem wpure_slice_sl {o : Oper} {σ : St} {x : Operand} {lo hi : Option Operand} {t e k l h : Nat} {xs : List (List AV)} (ho : o.op = .slice t x lo hi none) (ht : elem? P t = some e) (hk : cells? P e = some k)
    (hx : σ.ev x = .sl k xs) (hl : bnd σ 0 lo = some l) (hh : bnd σ xs.length hi = some h) (h1 : l ≤ h) (h2 : h ≤ xs.length) : PureOpW P o σ (.sl k ((xs.take h).drop l)) := by
  intro act w p hs _
  have hr := ev_rel hs x
  rw [hx] at hr
  generalize hv : act.eval x = v at *
  have hlen : ((xs.take h).drop l).length = h - l := by simp; omega
  cases hr with
  | sln _ a cap hcap =>
    simp only [List.length_nil, Nat.le_zero] at h2
    subst h2
    have : l = 0 := by omega
    subst this
    refine ⟨.slice a 0 cap, ?_, by simpa using RelV.sln k a cap hcap⟩
    intro w2
    have hb := run_boundsW (P := P) w2 hs hl hh (Nat.le_refl _) (Nat.zero_le cap)
    simp only [List.length_nil] at hb
    cases a <;> simp [execOp, ho, hv, Instr.sliceAt, Instr.slice, run_underlying (elem?_inv ht), hb, run_size hk, add_at, Addr.add]
  | slc _ _ b off cap f hb hn hcap hkk hc hr =>
    have hbd := fun w2 => run_boundsW (P := P) w2 hs hl hh h1 (Nat.le_trans h2 hn)
    by_cases hlh : l = h
    · subst hlh
      refine ⟨.slice (if cap = l then some ⟨b, off, none⟩ else some ⟨b, off + l * k, none⟩) 0 (cap - l), ?_, ?_⟩
      · intro w2
        simp [execOp, ho, hv, Instr.sliceAt, Instr.slice, run_underlying (elem?_inv ht), hbd w2, run_size hk, add_at]
      · have e : (xs.take l).drop l = [] := List.eq_nil_of_length_eq_zero (by rw [hlen]; omega)
        rw [e]; exact .sln k _ _ (by omega)
    · have hcl : ¬ cap = l := by omega
      refine ⟨.slice (some ⟨b, off + l * k, none⟩) (h - l) (cap - l), ?_, ?_⟩
      · intro w2
        simp [execOp, ho, hv, Instr.sliceAt, Instr.slice, run_underlying (elem?_inv ht), hbd w2, run_size hk, add_at, hcl]
      · have hget : ∀ j y, ((xs.take h).drop l)[j]? = some y → xs[l + j]? = some y := fun j y hy => by
          rw [List.getElem?_drop, List.getElem?_take] at hy
          split at hy
          · exact hy
          · cases hy
        have := RelV.slc (w := w) (p := p) k ((xs.take h).drop l) b (off + l * k) (cap - l) (fun j i => f (l + j) i) hb (by rw [hlen]; omega) (by omega) (fun y hy => hkk y (List.mem_of_mem_take (List.mem_of_mem_drop hy)))
          (fun j y i c hj hi => by
            have := hc (l + j) y i c (hget j y hj) hi
            have e : off + l * k + j * k + i = off + (l + j) * k + i := by rw [Nat.add_mul]; omega
            rw [e]; exact this)
          (fun j y i c hj hi => hr (l + j) y i c (hget j y hj) hi)
        rwa [hlen] at this
-- pure_slice_own
theorem wpure_slice_own {o : Oper} {σ : St} {x : Operand} {lo hi : Option Operand} {t e g k off n l h : Nat} (ho : o.op = .slice t x lo hi none) (ht : elem? P t = some e) (hk : cells? P e = some k)
    (hx : σ.ev x = .own g k off n) (hl : bnd σ 0 lo = some l) (hh : bnd σ n hi = some h) (h1 : l ≤ h) (h2 : h ≤ n) : PureOpW P o σ (.own g k (off + l) (h - l)) := by
  intro act w p hs _
  have hr := ev_rel hs x
  rw [hx] at hr
  obtain ⟨a, cap, hv, hn, hrel⟩ := own_sliced hr (m := 0) h1 h2
  obtain ⟨a', cap', hv', _, hrel'⟩ := own_sliced hr (m := cap) h1 h2
  rw [hv] at hv'; cases hv'
  have hb := fun w2 => run_boundsW (P := P) w2 hs hl hh h1 (Nat.le_trans h2 hn)
  refine ⟨_, ?_, hrel' (Nat.le_trans h2 hn) (Nat.le_refl _)⟩
  intro w2
  simp [execOp, ho, hv, Instr.sliceAt, Instr.slice, run_underlying (elem?_inv ht), hb w2, run_size hk]
/-- Such an operation may be done first, whatever else may come ahead of it. -/
theorem aany_first {ops : Array Oper} {Q : Exit → St → Prop} {fuel : Nat} {listed : Array Bool} {σ : St} {o : Oper} {d : Nat} {av : AV} (i : Nat) (hi : ops[i]? = some o) (hns : Region.noSelect ops = true) (hr : (Region.ready .any ops listed).contains i = true) (hfree : Region.free .any ops listed i = true)
    (hg : o.guard = none) (hdst : o.dst = some d) (hd : d < σ.n) (hQ : ∀ c σ, ¬ Q (.panic c) σ) (hp : PureOpW P o σ av) (h : AAny P w0 p0 ops Q fuel (listed.setIfInBounds i true) (σ.put d av)) : AAny P w0 p0 ops Q (fuel + 1) listed σ := by
  intro a w hrel
  obtain ⟨h1, h2, p, hE, hs, hm⟩ := hrel
  obtain ⟨v, hrun, hrv⟩ := hp a w p hs hm
  have hput : Rel w0 p0 (σ.put d av) (a.put (some d) v) w := Rel.putO (σ := σ) ⟨h1, h2, p, hE, hs, hm⟩ (some d) (fun x hx => by cases hx; exact hd) av v (fun q hE' hs' hm' => ?_)
  · refine wpAny_first hi (Region.noSelect_spec hns) (fun c a w hq => ?_) fuel listed a w (Region.free_spec hi hfree) (by simpa using hr) (v := v) (.inl ⟨by simp [Region.wanted, hg], hrun⟩) ?_
    · obtain ⟨σ', h, _⟩ := hq; exact absurd h (hQ c σ')
    · rw [hdst]; exact h _ _ hput
  · obtain ⟨v', hrun', hrv'⟩ := hp a w q hs' hm'
    have := (hrun w).symm.trans (hrun' w)
    cases this
    exact hrv'

section
variable {n d ty : Nat} {ps : String} {af : Array Edge} {gd : Option (Nat × Bool)} {sl : List (Nat × AV)} {m : Mem}
theorem w_move {x : Operand} {a : AV} (hx : ev sl x = some a) : PureOpW P ⟨some d, .move x, ty, ps, af, gd⟩ ⟨n, sl, m⟩ a := ev_eq (n := n) (m := m) hx ▸ wpure_move rfl
theorem w_assign {x : Operand} {a : AV} (hx : ev sl x = some a) : PureOpW P ⟨some d, .assign x, ty, ps, af, gd⟩ ⟨n, sl, m⟩ a := ev_eq (n := n) (m := m) hx ▸ wpure_assign rfl
theorem w_bin {op : BinOp} {t yt : TypeId} {x y : Operand} {u v r : Value} (hx : ev sl x = some (.s u)) (hy : ev sl y = some (.s v)) (h : abin P op t u v = some r) : PureOpW P ⟨some d, .binOp op t x y yt, ty, ps, af, gd⟩ ⟨n, sl, m⟩ (.s r) := wpure_bin rfl (ev_eq hx) (ev_eq hy) h
theorem w_add {t yt : TypeId} {x y : Operand} {a b : Int} (hx : ev sl x = some (.s (.int .i64 a))) (hy : ev sl y = some (.s (.int .i64 b))) (h1 : -9223372036854775808 ≤ a + b) (h2 : a + b ≤ 9223372036854775807) : PureOpW P ⟨some d, .binOp .add t x y yt, ty, ps, af, gd⟩ ⟨n, sl, m⟩ (.s (.int .i64 (a + b))) :=
  w_bin hx hy (by simp [abin, aint, wrap_i64 h1 h2])
theorem w_sub {t yt : TypeId} {x y : Operand} {a b : Int} (hx : ev sl x = some (.s (.int .i64 a))) (hy : ev sl y = some (.s (.int .i64 b))) (h1 : -9223372036854775808 ≤ a - b) (h2 : a - b ≤ 9223372036854775807) : PureOpW P ⟨some d, .binOp .sub t x y yt, ty, ps, af, gd⟩ ⟨n, sl, m⟩ (.s (.int .i64 (a - b))) :=
  w_bin hx hy (by simp [abin, aint, wrap_i64 h1 h2])
theorem w_not {t : TypeId} {x : Operand} {b : Bool} (hx : ev sl x = some (.s (.bool b))) : PureOpW P ⟨some d, .unOp .not t x, ty, ps, af, gd⟩ ⟨n, sl, m⟩ (.s (.bool !b)) := wpure_not rfl (ev_eq hx)
theorem w_len_sl {t e k : Nat} {x : Operand} {xs : List (List AV)} (hx : ev sl x = some (.sl k xs)) (ht : elem? P t = some e) : PureOpW P ⟨some d, .call { callee := .builtin .len, args := #[x], argTypes := #[t] }, ty, ps, af, gd⟩ ⟨n, sl, m⟩ (.s (.int .i64 xs.length)) := wpure_len_of rfl ht (ev_eq hx) fun _ _ _ h => h.sl_inv
theorem w_len_own {t e g k off c : Nat} {x : Operand} (hx : ev sl x = some (.own g k off c)) (ht : elem? P t = some e) : PureOpW P ⟨some d, .call { callee := .builtin .len, args := #[x], argTypes := #[t] }, ty, ps, af, gd⟩ ⟨n, sl, m⟩ (.s (.int .i64 c)) := wpure_len_of rfl ht (ev_eq hx) fun _ _ _ h => h.own_inv
theorem w_min {t1 t2 : TypeId} {x y : Operand} {k k' : IntKind} {a b : Int} (hx : ev sl x = some (.s (.int k a))) (hy : ev sl y = some (.s (.int k' b))) : PureOpW P ⟨some d, .call { callee := .builtin .min, args := #[x, y], argTypes := #[t1, t2] }, ty, ps, af, gd⟩ ⟨n, sl, m⟩ (.s (.int k (min a b))) := wpure_min rfl (ev_eq hx) (ev_eq hy)
theorem w_max {t1 t2 : TypeId} {x y : Operand} {k k' : IntKind} {a b : Int} (hx : ev sl x = some (.s (.int k a))) (hy : ev sl y = some (.s (.int k' b))) : PureOpW P ⟨some d, .call { callee := .builtin .max, args := #[x, y], argTypes := #[t1, t2] }, ty, ps, af, gd⟩ ⟨n, sl, m⟩ (.s (.int k (max a b))) := wpure_max rfl (ev_eq hx) (ev_eq hy)
theorem w_extract {x : Operand} {i : Nat} {vs : List AV} {c : AV} (hx : ev sl x = some (.tup vs)) (hi : vs[i]? = some c) : PureOpW P ⟨some d, .extract x i, ty, ps, af, gd⟩ ⟨n, sl, m⟩ c := wpure_extract rfl (ev_eq hx) hi
theorem w_idx_sl {x i : Operand} {t e k : Nat} {xs : List (List AV)} {c : List AV} {kd : IntKind} {z : Int} (hx : ev sl x = some (.sl k xs)) (hi : ev sl i = some (.s (.int kd z))) (ht : elem? P t = some e) (hc : cells? P e = some k) (hn : 0 ≤ z ∧ xs[z.toNat]? = some c) :
    PureOpW P ⟨some d, .indexAddr t x i, ty, ps, af, gd⟩ ⟨n, sl, m⟩ (.adr c) := wpure_indexAddr_sl rfl ht hc (ev_eq hx) (ev_eq hi) hn
theorem w_idx_own {x i : Operand} {t e g k off c : Nat} {kd : IntKind} {z : Int} (hx : ev sl x = some (.own g k off c)) (hi : ev sl i = some (.s (.int kd z))) (ht : elem? P t = some e) (hc : cells? P e = some k) (hn : 0 ≤ z ∧ z < c) :
    PureOpW P ⟨some d, .indexAddr t x i, ty, ps, af, gd⟩ ⟨n, sl, m⟩ (.ref g k (off + z.toNat) 0) := wpure_indexAddr_own rfl ht hc (ev_eq hx) (ev_eq hi) hn
theorem w_fld_adr {x : Operand} {t u f off c : Nat} {cs cs' : List AV} (hx : ev sl x = some (.adr cs)) (ht : field? P t f = some (off, u)) (hu : cells? P u = some (c + 1)) (he : cs.drop off = cs') : PureOpW P ⟨some d, .fieldAddr t x f, ty, ps, af, gd⟩ ⟨n, sl, m⟩ (.adr cs') :=
  he ▸ wpure_fieldAddr_adr rfl ht hu (Nat.succ_ne_zero _) (ev_eq hx)
theorem w_fld_ref {x : Operand} {t u f off c g k j i i' : Nat} (hx : ev sl x = some (.ref g k j i)) (ht : field? P t f = some (off, u)) (hu : cells? P u = some (c + 1)) (he : i + off = i') : PureOpW P ⟨some d, .fieldAddr t x f, ty, ps, af, gd⟩ ⟨n, sl, m⟩ (.ref g k j i') :=
  he ▸ wpure_fieldAddr_ref rfl ht hu (Nat.succ_ne_zero _) (ev_eq hx)
theorem w_fld1 {x : Operand} {t u f off : Nat} {cs : List AV} {c : AV} (hx : ev sl x = some (.agg cs)) (ht : field? P t f = some (off, u)) (hu : agg? P u = some false) (hc : cs[off]? = some c) : PureOpW P ⟨some d, .field t x f, ty, ps, af, gd⟩ ⟨n, sl, m⟩ c := wpure_field1 rfl ht hu (ev_eq hx) hc
theorem w_slice_sl {x : Operand} {lo hi : Option Operand} {t e k l h : Nat} {xs ys : List (List AV)} (hx : ev sl x = some (.sl k xs)) (ht : elem? P t = some e) (hc : cells? P e = some k)
    (hl : bnd ⟨n, sl, m⟩ 0 lo = some l) (hh : bnd ⟨n, sl, m⟩ xs.length hi = some h) (h1 : l ≤ h) (h2 : h ≤ xs.length) (he : (xs.take h).drop l = ys) : PureOpW P ⟨some d, .slice t x lo hi none, ty, ps, af, gd⟩ ⟨n, sl, m⟩ (.sl k ys) := he ▸ wpure_slice_sl rfl ht hc (ev_eq hx) hl hh h1 h2
theorem w_slice_own {x : Operand} {lo hi : Option Operand} {t e g k off c l h : Nat} (hx : ev sl x = some (.own g k off c)) (ht : elem? P t = some e) (hc : cells? P e = some k)
    (hl : bnd ⟨n, sl, m⟩ 0 lo = some l) (hh : bnd ⟨n, sl, m⟩ c hi = some h) (h1 : l ≤ h) (h2 : h ≤ c) : PureOpW P ⟨some d, .slice t x lo hi none, ty, ps, af, gd⟩ ⟨n, sl, m⟩ (.own g k (off + l) (h - l)) := wpure_slice_own rfl ht hc (ev_eq hx) hl hh h1 h2
theorem af_step {ops : Array Oper} {Q : Exit → St → Prop} {fuel : Nat} {listed listed' : Array Bool} {op : Op} {av : AV} (i : Nat) (hi : ops[i]? = some ⟨some d, op, ty, ps, af, none⟩) (hns : Region.noSelect ops = true) (hr : ((Region.ready .any ops listed).contains i && Region.free .any ops listed i) = true) (hl : listed.setIfInBounds i true = listed')
    (hd : lt d n = true) (hQ : ∀ c σ, ¬ Q (.panic c) σ) (hp : PureOpW P ⟨some d, op, ty, ps, af, none⟩ ⟨n, sl, m⟩ av) (h : AAny P w0 p0 ops Q fuel listed' ⟨n, (d, av) :: sl, m⟩) : AAny P w0 p0 ops Q (fuel + 1) listed ⟨n, sl, m⟩ := by
  subst hl
  simp only [Bool.and_eq_true] at hr
  exact aany_first i hi hns hr.1 hr.2 rfl rfl (lt_of hd) hQ hp h
end
end Go.Abs
set_option linter.unusedVariables false
set_option linter.unusedSimpArgs false
namespace Go.Abs
open Go Go.RowKit
variable {P : Program}
/-- An array's length, and its elements' type. -/
def arr? (P : Program) (t : TypeId) : Option (Nat × TypeId) := match P.underlying t with
  | some (.array n e) => some (n, e)
  | _ => none
theorem arr?_inv {t : TypeId} {n e : Nat} (h : arr? P t = some (n, e)) : P.underlying t = some (.array n e) := by
  unfold arr? at h
  split at h
  · rename_i h'; cases h; exact h'
  · cases h
theorem wpure_idx_arr {o : Oper} {σ : St} {x i : Operand} {t e m k : Nat} {cs : List AV} {kd : IntKind} {z : Int} (ho : o.op = .indexAddr t x i) (ht : arr? P t = some (m, e)) (hk : cells? P e = some k)
    (hx : σ.ev x = .adr cs) (hi : σ.ev i = .s (.int kd z)) (hz : 0 ≤ z ∧ z < m) : PureOpW P o σ (.adr (cs.drop (z.toNat * k))) := by
  intro act w p hs _
  have h1 := ev_rel hs x
  rw [hx] at h1
  have e2 := ev_s hs hi
  obtain ⟨h0, hlt⟩ := hz
  generalize hv : act.eval x = v at *
  cases h1 with
  | adr _ b off f hb hkk hcc hr =>
    refine ⟨.pointer (some ⟨b, off + z.toNat * k, none⟩), fun w2 => by simp [execOp, ho, hv, e2, Instr.indexAt, Instr.sureAddr, asIntOf, run_underlying (arr?_inv ht), h0, hlt, run_size hk, add_at], .adr _ b _ (fun i => f (z.toNat * k + i)) hb (fun c hc => hkk c (List.mem_of_mem_drop hc)) (fun i c hi => ?_) (fun i c hi => ?_)⟩
    · rw [List.getElem?_drop] at hi
      rw [Nat.add_assoc]; exact hcc _ c hi
    · rw [List.getElem?_drop] at hi
      exact hr _ c hi
section
variable {n : Nat} {sl : List (Nat × AV)} {m : Mem} {d ty : Nat} {ps : String} {af : Array Edge} {gd : Option (Nat × Bool)}
theorem w_idx_arr {x i : Operand} {t e q k : Nat} {cs cs' : List AV} {kd : IntKind} {z : Int} (hx : ev sl x = some (.adr cs)) (hi : ev sl i = some (.s (.int kd z))) (ht : arr? P t = some (q, e)) (hk : cells? P e = some k)
    (hz : 0 ≤ z ∧ z < q) (he : cs.drop (z.toNat * k) = cs') : PureOpW P ⟨some d, .indexAddr t x i, ty, ps, af, gd⟩ ⟨n, sl, m⟩ (.adr cs') :=
  he ▸ wpure_idx_arr rfl ht hk (ev_eq hx) (ev_eq hi) hz
theorem p_idx_arr {x i : Operand} {t e q k : Nat} {cs cs' : List AV} {kd : IntKind} {z : Int} (hx : ev sl x = some (.adr cs)) (hi : ev sl i = some (.s (.int kd z))) (ht : arr? P t = some (q, e)) (hk : cells? P e = some k)
    (hz : 0 ≤ z ∧ z < q) (he : cs.drop (z.toNat * k) = cs') : PureOp P ⟨some d, .indexAddr t x i, ty, ps, af, gd⟩ ⟨n, sl, m⟩ (.adr cs') :=
  fun act w p hs hm => by
    obtain ⟨v, h1, h2⟩ := w_idx_arr (gd := gd) hx hi ht hk hz he act w p hs hm
    exact ⟨v, h1 w, h2⟩
end
end Go.Abs
set_option linter.unusedVariables false
set_option linter.unusedSimpArgs false
namespace Go.Abs
open Go Go.RowKit
variable {P : Program} {w0 : World} {p0 : Hp}
/-- What stands behind a scope that no goto leaves. -/
def scopeQ (Q : Exit → St → Prop) : Exit → St → Prop
  | .goto _, _ => False
  | e, σ => Q e σ
theorem aw_scope {c : Code} {σ : St} {Q : Exit → St → Prop} (h : AW P w0 p0 c σ (scopeQ Q)) : AW P w0 p0 (.scope c) σ Q := by
  intro a w hr
  refine wp_scope_straight (wp_mono (h a w hr) ?_)
  rintro e a' w' ⟨σ', h1, h2⟩
  cases e <;> first | exact ⟨σ', h1, h2⟩ | exact h1.elim
theorem aw_label {id : Nat} {σ : St} {Q : Exit → St → Prop} (h : Q .normal σ) : AW P w0 p0 (.label id) σ Q :=
  fun _ _ hr => wp_label ⟨σ, h, hr⟩
end Go.Abs
