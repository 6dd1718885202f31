import Derived.Test.YtcjchfocohagdaaQ5
import Derived.Test.YtcjchfocohagdaaQ4
set_option linter.unusedVariables false
namespace Go.Abs
open Go Go.RowKit
variable {P : Program} {α : Type} {enc : α → List AV}

theorem map_at {l : List α} {k : Nat} (h : k < l.length) : (l.map enc)[((k : Nat) : Int).toNat]? = some (enc l[k]) := by
  rw [Int.toNat_natCast, List.getElem?_map, List.getElem?_eq_getElem h]; rfl
theorem map_atZ {l : List α} {z : Int} {k : Nat} (hz : z = (k : Nat)) (h : k < l.length) : 0 ≤ z ∧ (l.map enc)[z.toNat]? = some (enc l[k]) := by
  subst hz; exact ⟨by omega, map_at h⟩
theorem map_ref {l : List α} {c k : Nat} (h : k < l.length) (hc : (enc l[k]).length = c) (f : Nat) : ((AM.buf c (l.map enc)).at c (0 + ((k : Nat) : Int).toNat) f) = (enc l[k]).drop f := by
  simp only [AM.at, if_true, Nat.zero_add]
  rw [map_at h]; rfl
theorem cleanL_cons (ok : Nat → Bool) (c : AV) (cs : List AV) : cleanL ok (c :: cs) = (c.clean ok && cleanL ok cs) := by simp only [cleanL]
theorem conv_whole {mem : Mem} {g k n : Nat} {xs : List (List AV)} (hl : look mem g = some (.buf k xs)) (hn : n = xs.length) : (AV.own g k 0 n).conv mem = .sl k xs := by
  subst hn
  simp [AV.conv, hl]
theorem own_at {l : List α} {c k i : Nat} (hi : i = k) (h : k < l.length) (f : Nat) : ((AM.buf c (l.map enc)).at c i f) = (enc l[k]).drop f := by
  subst hi
  simp only [AM.at, if_true]
  rw [List.getElem?_map, List.getElem?_eq_getElem h]; rfl
theorem own_ble {l : List α} {c k i : Nat} (hi : i = k) (h : k < l.length) (hc : (enc l[k]).length = c) : Nat.ble c ((AM.buf c (l.map enc)).at c i 0).length = true := by
  rw [own_at hi h, List.drop_zero, hc]; exact Nat.ble_eq_true_of_le (Nat.le_refl _)
theorem own_take {l : List α} {c k i : Nat} (hi : i = k) (h : k < l.length) (hc : (enc l[k]).length = c) : ((AM.buf c (l.map enc)).at c i 0).take c = enc l[k] := by
  rw [own_at hi h, List.drop_zero, ← hc, List.take_length]
theorem own_cell {l : List α} {c k i : Nat} (hi : i = k) (h : k < l.length) (f : Nat) : ((AM.buf c (l.map enc)).at c i f)[0]? = (enc l[k])[f]? := by
  rw [own_at hi h, List.getElem?_drop]; simp
theorem own_store {l : List α} {c k f i : Nat} {v : α} {rs : List AV} (hi : i = k) (h : k < l.length) (hs : splice (enc l[k]) f rs = enc v) (hf : f + rs.length ≤ c) : (AM.buf c (l.map enc)).store c i f rs = some (.buf c ((l.set k v).map enc)) := by
  subst hi
  have h1 : (l.map enc)[i]? = some (enc l[i]) := by rw [List.getElem?_map, List.getElem?_eq_getElem h]; rfl
  simp only [AM.store, h1]
  rw [if_pos (by simpa using hf), hs]
  simp only [List.map_set]
theorem den_of_deno {f k : Nat} {args : List AV} {R : List (List AV) → Prop} (h : DenO P f args k R) : Den P f args (fun r => ∃ ys, R ys ∧ r = .sl k ys) := by
  intro A w vals hA hr
  refine (h A w vals hA hr).mono ?_
  rintro e w' ⟨v, ys, x, rfl, hR, hx, hE, hm, hv⟩
  have hxA : ∀ b, x = some b → ¬ A b := fun b hb hAb => by have h1 := hA b hAb; have h2 := hx b hb; omega
  have hmem := memrel_one0 hxA hm
  have hc := RelV.conv hmem hv
  refine ⟨v, _, rfl, ⟨ys, hR, rfl⟩, ⟨hE.os, hE.tape, hE.output, hE.size, hE.A, fun b hb => ?_, hE.others, fun g x hx => by cases hx⟩, ?_⟩
  · exact ⟨⟨(hE.stab b hb).1.1, (fun _ h => by cases h), (hE.stab b hb).1.2.2⟩, (hE.stab b hb).2⟩
  · rw [conv_whole (g := E0) rfl rfl] at hc
    exact hc
theorem den_of_deno' {f k : Nat} {args : List AV} {ys : List (List AV)} (h : DenO P f args k (· = ys)) : Den P f args (· = .sl k ys) :=
  (den_of_deno h).mono (by rintro _ ⟨_, rfl, rfl⟩; rfl)
theorem eqrow_diff {a b : List α} {k : Nat} [DecidableEq α] (h1 : k < a.length) (h2 : k < b.length) (h : ¬ a[k] = b[k]) : decide (a = b) = false := by
  rw [decide_eq_false_iff_not]; intro e; subst e; exact h rfl
theorem eqrow_len {a b : List α} [DecidableEq α] (h : ¬ a.length = b.length) : decide (a = b) = false := by
  rw [decide_eq_false_iff_not]; intro e; subst e; exact h rfl
theorem eqrow_next {a b : List α} {k : Nat} (h1 : k < a.length) (h2 : k < b.length) (h : a.take k = b.take k) (he : a[k] = b[k]) : a.take (k + 1) = b.take (k + 1) := by
  rw [List.take_add_one, List.take_add_one, h, List.getElem?_eq_getElem h1, List.getElem?_eq_getElem h2, he]
theorem eqrow_end {a b : List α} {k : Nat} [DecidableEq α] (h1 : a.length ≤ k) (h2 : b.length ≤ k) (h : a.take k = b.take k) : decide (a = b) = true := by
  rw [decide_eq_true_iff]
  rwa [List.take_of_length_le h1, List.take_of_length_le h2] at h
theorem sl_leaf (k : Nat) (xs : List (List AV)) : (AV.sl k xs).leaf = true := rfl
theorem map_append' {a b : List α} : (a ++ b).map enc = a.map enc ++ b.map enc := List.map_append

/-- where the first one stands of which p holds; -1: nowhere. -/
def idxB (p : α → Bool) (l : List α) : Int := match l.findIdx? p with | some i => (i : Nat) | none => -1
theorem idxB_found {p : α → Bool} {l : List α} {k : Nat} (hk : k < l.length) (h : ∀ (j : Nat) (hj : j < l.length), j < k → p l[j] = false) (hp : p l[k] = true) : idxB p l = (k : Nat) := by
  have : l.findIdx? p = some k := by
    rw [List.findIdx?_eq_some_iff_getElem]
    exact ⟨hk, hp, fun j hj => by rw [h j (by omega) hj]; simp⟩
  simp [idxB, this]
theorem idxB_none {p : α → Bool} {l : List α} (h : ∀ (j : Nat) (hj : j < l.length), p l[j] = false) : idxB p l = -1 := by
  have : l.findIdx? p = none := by
    rw [List.findIdx?_eq_none_iff]
    intro x hx
    obtain ⟨j, hj, rfl⟩ := List.getElem_of_mem hx
    exact h j hj
  simp [idxB, this]
theorem idxB_cases (p : α → Bool) (l : List α) : (idxB p l = -1 ∧ ∀ x ∈ l, p x = false) ∨ (∃ k : Nat, ∃ h : k < l.length, idxB p l = (k : Nat) ∧ p l[k] = true ∧ ∀ (j : Nat) (hj : j < l.length), j < k → p l[j] = false) := by
  unfold idxB
  cases h : l.findIdx? p with
  | none =>
    left
    rw [List.findIdx?_eq_none_iff] at h
    exact ⟨rfl, h⟩
  | some k =>
    right
    rw [List.findIdx?_eq_some_iff_getElem] at h
    obtain ⟨h1, h2, h3⟩ := h
    exact ⟨k, h1, rfl, h2, fun j hj hk => by simpa using h3 j hk⟩
theorem idxB_any (p : α → Bool) (l : List α) : decide (0 ≤ idxB p l) = l.any p := by
  rcases idxB_cases p l with ⟨h1, h2⟩ | ⟨k, h, h1, h2, _⟩
  · rw [h1, Bool.eq_iff_iff]
    simp only [decide_eq_true_eq, List.any_eq_true]
    constructor
    · intro h; omega
    · rintro ⟨x, hx, hp⟩; rw [h2 x hx] at hp; cases hp
  · rw [h1, Bool.eq_iff_iff]
    simp only [decide_eq_true_eq, List.any_eq_true]
    exact ⟨fun _ => ⟨_, List.getElem_mem h, h2⟩, fun _ => by omega⟩
theorem take_foldl {β : Type} (l : List α) (f : β → α → β) (i : β) (k : Nat) (h : k < l.length) : (l.take (k + 1)).foldl f i = f ((l.take k).foldl f i) l[k] := by
  rw [List.take_add_one, List.getElem?_eq_getElem h, List.foldl_append]; rfl
theorem take_all_foldl {β : Type} (l : List α) (f : β → α → β) (i : β) (k : Nat) (h : l.length ≤ k) : (l.take k).foldl f i = l.foldl f i := by
  rw [List.take_of_length_le h]
theorem take_map {β : Type} (l : List α) (f : α → β) (k : Nat) (h : k < l.length) : (l.take (k + 1)).map f = (l.take k).map f ++ [f l[k]] := by
  rw [List.take_add_one, List.getElem?_eq_getElem h, List.map_append]; rfl
theorem take_len1 (l : List α) (k : Nat) (h : k < l.length) : (l.take (k + 1)).length = (l.take k).length + 1 := by simp; omega
theorem take_filter (l : List α) (p : α → Bool) (k : Nat) (h : k < l.length) : (l.take (k + 1)).filter p = (l.take k).filter p ++ (if p l[k] = true then [l[k]] else []) := by
  rw [List.take_add_one, List.getElem?_eq_getElem h, List.filter_append]
  simp only [Option.toList]
  split
  · rename_i hp; simp [hp]
  · rename_i hp; simp [hp]
theorem take_flat {β : Type} (l : List (List β)) (k : Nat) (h : k < l.length) : (l.take (k + 1)).flatten = (l.take k).flatten ++ l[k] := by
  rw [List.take_add_one, List.getElem?_eq_getElem h, List.flatten_append]; simp
theorem flat_le {β : Type} (l : List (List β)) (k : Nat) : (l.take k).flatten.length ≤ l.flatten.length := by
  have : l.flatten = (l.take k).flatten ++ (l.drop k).flatten := by rw [← List.flatten_append, List.take_append_drop]
  rw [this, List.length_append]; omega

/-! slices.DeleteFunc: what stands where in its course -/
/-- The first j have been looked at; those that stay stand ahead, the others as they were. -/
def delRow (q : α → Bool) (l : List α) (j : Nat) : List α := (l.take j).filter q ++ l.drop ((l.take j).filter q).length
theorem filter_take_le (q : α → Bool) (l : List α) (j : Nat) : ((l.take j).filter q).length ≤ j := Nat.le_trans (List.length_filter_le _ _) (by simp; omega)
theorem filter_take_len (q : α → Bool) (l : List α) (j : Nat) : ((l.take j).filter q).length ≤ l.length := Nat.le_trans (List.length_filter_le _ _) (by simp; omega)
theorem delRow_len (q : α → Bool) (l : List α) (j : Nat) : (delRow q l j).length = l.length := by
  have := filter_take_len q l j
  simp only [delRow, List.length_append, List.length_drop]; omega
theorem delRow_at (q : α → Bool) (l : List α) (j i : Nat) (hi : i < l.length) (h : ((l.take j).filter q).length ≤ i) : (delRow q l j)[i]'(by rw [delRow_len]; exact hi) = l[i] := by
  simp only [delRow]
  rw [List.getElem_append_right h]
  simp only [List.getElem_drop]
  congr 1
  omega
theorem delRow_next_t (q : α → Bool) (l : List α) (j : Nat) (hj : j < l.length) (hq : q l[j] = true) : (delRow q l j).set ((l.take j).filter q).length l[j] = delRow q l (j + 1) := by
  have h1 := filter_take_le q l j
  have h2 : (l.take (j + 1)).filter q = (l.take j).filter q ++ [l[j]] := by rw [take_filter l q j hj, if_pos hq]
  simp only [delRow, h2, List.length_append, List.length_cons, List.length_nil]
  rw [List.set_append_right _ _ (Nat.le_refl _), Nat.sub_self, List.append_assoc]
  congr 1
  rw [List.drop_eq_getElem_cons (show ((l.take j).filter q).length < l.length by omega), List.set_cons_zero]; rfl
theorem delRow_next_f (q : α → Bool) (l : List α) (j : Nat) (hj : j < l.length) (hq : ¬ q l[j] = true) : delRow q l j = delRow q l (j + 1) := by
  have h2 : (l.take (j + 1)).filter q = (l.take j).filter q := by rw [take_filter l q j hj, if_neg hq]; simp
  simp only [delRow, h2]
theorem delRow_start (q : α → Bool) (l : List α) (k : Nat) (hk : k < l.length) (h : ∀ (j : Nat) (hj : j < l.length), j < k → q l[j] = true) (hq : q l[k] = false) : delRow q l (k + 1) = l ∧ ((l.take (k + 1)).filter q).length = k := by
  have h1 : (l.take k).filter q = l.take k := by
    rw [List.filter_eq_self]
    intro x hx
    obtain ⟨j, hj, rfl⟩ := List.getElem_of_mem hx
    simp at hj
    rw [List.getElem_take]
    exact h j (by omega) (by omega)
  have h2 : (l.take (k + 1)).filter q = l.take k := by rw [take_filter l q k hk, if_neg (by rw [hq]; simp), h1]; simp
  refine ⟨?_, by rw [h2]; simp; omega⟩
  simp only [delRow, h2, List.length_take]
  rw [Nat.min_eq_left (by omega), List.take_append_drop]
theorem delRow_end (q : α → Bool) (l : List α) (j : Nat) (h : l.length ≤ j) : (delRow q l j).take (l.filter q).length = l.filter q := by
  simp only [delRow, List.take_of_length_le h]
  rw [List.take_left]
theorem filt_next_t (q : α → Bool) (l : List α) (j : Nat) (hj : j < l.length) (hq : q l[j] = true) : (((l.take j).filter q).length : Int) + 1 = (((l.take (j + 1)).filter q).length : Nat) := by
  rw [take_filter l q j hj, if_pos hq]; simp
theorem filt_next_f (q : α → Bool) (l : List α) (j : Nat) (hj : j < l.length) (hq : ¬ q l[j] = true) : (l.take j).filter q = (l.take (j + 1)).filter q := by
  rw [take_filter l q j hj, if_neg hq]; simp
theorem none_filter (p : α → Bool) (l : List α) (h : ∀ x ∈ l, p x = false) : l.filter (fun x => !p x) = l := by
  rw [List.filter_eq_self]; intro x hx; simp [h x hx]

theorem deno_nil1 {f k k' : Nat} {R : List (List AV) → Prop} (h : DenO P f [.sl k []] k' R) : DenO P f [.s (.slice none 0 0)] k' R := by
  intro A w vals hA hr
  refine h A w vals hA ⟨hr.1, fun i c v hc hv => ?_⟩
  match i with
  | 0 =>
    simp only [List.getElem?_cons_zero, Option.some.injEq] at hc
    subst hc
    have := hr.2 0 _ v rfl hv
    cases this
    exact .sln k none 0 (by simp [maxLen])
  | i + 1 => simp at hc
theorem look_swap {β : Type} {a b : Nat} {x y : β} {m : List (Nat × β)} {g : Nat} (h : a ≠ b) : look ((a, x) :: (b, y) :: m) g = look ((b, y) :: (a, x) :: m) g := by
  simp only [look]
  by_cases h1 : a = g
  · have h2 : ¬ b = g := fun e => h (h1.trans e.symm)
    rw [if_pos h1, if_neg h2, if_pos h1]
  · rw [if_neg h1, if_neg h1]
theorem bnd_z {n : Nat} {sl : List (Nat × AV)} {m : Mem} {d : Nat} {x : Operand} {kd : IntKind} {z : Int} (hx : ev sl x = some (.s (.int kd z))) (hz : 0 ≤ z) : bnd ⟨n, sl, m⟩ d (some x) = some z.toNat := by
  simp only [bnd, ev_eq hx]; rw [if_pos hz]
theorem asrc_view {n : Nat} {sl : List (Nat × AV)} {m : Mem} {l : List α} {g k off c j : Nat} (hl : look m g = some (.buf k (l.map enc))) (ho : off = 0) (hc : c = j) (hj : j ≤ l.length) : asrc ⟨n, sl, m⟩ k (.own g k off c) = some ((l.take j).map enc) := by
  subst ho; subst hc
  simp only [asrc, hl]
  rw [if_pos (by simpa using hj), List.drop_zero, List.map_take]
theorem le_to {n : Nat} {sl sl' : List (Nat × AV)} {m m' : Mem} (h : coversL sl sl') (hm : m = m') : Le ⟨n, sl, m⟩ ⟨n, sl', m'⟩ := hm ▸ le_of h
end Go.Abs
