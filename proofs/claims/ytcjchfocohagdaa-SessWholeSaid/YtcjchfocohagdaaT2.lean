import Derived.Test.YtcjchfocohagdaaT1
import Derived.Test.YtcjchfocohagdaaQ6
set_option linter.unusedVariables false
set_option linter.unusedSimpArgs false
namespace Go.Abs
variable {α β : Type}
/-- A comparison in three ways. -/
structure Tri (c : α → α → Int) : Prop where
  rng : ∀ x y, c x y = -1 ∨ c x y = 0 ∨ c x y = 1
  swap : ∀ x y, c y x = - c x y
  tr : ∀ x y z, c x y ≤ 0 → c y z ≤ 0 → c x z ≤ 0
theorem Tri.self {c : α → α → Int} (h : Tri c) (x : α) : c x x = 0 := by have := h.swap x x; omega
theorem Tri.lt_tr {c : α → α → Int} (h : Tri c) {x y z : α} (h1 : c x y < 0) (h2 : c y z < 0) : c x z < 0 := by
  have h3 := h.tr x y z (by omega) (by omega)
  rcases Int.lt_or_eq_of_le h3 with e | e
  · exact e
  · exfalso
    have := h.tr y z x (by omega) (by have := h.swap x z; omega)
    have := h.swap x y
    omega
theorem Tri.lt_le {c : α → α → Int} (h : Tri c) {x y z : α} (h1 : c x y < 0) (h2 : c y z ≤ 0) : c x z < 0 := by
  have h3 := h.tr x y z (by omega) h2
  rcases Int.lt_or_eq_of_le h3 with e | e
  · exact e
  · exfalso
    have := h.tr y z x h2 (by have := h.swap x z; omega)
    have := h.swap x y
    omega
theorem Tri.le_lt {c : α → α → Int} (h : Tri c) {x y z : α} (h1 : c x y ≤ 0) (h2 : c y z < 0) : c x z < 0 := by
  have h3 := h.tr x y z h1 (by omega)
  rcases Int.lt_or_eq_of_le h3 with e | e
  · exact e
  · exfalso
    have := h.tr z x y (by have := h.swap x z; omega) h1
    have := h.swap y z
    omega
theorem Tri.swo {c : α → α → Int} (h : Tri c) : Go.Sort.SWO (fun x y => decide (c x y < 0)) := by
  constructor
  · intro x
    have := h.self x
    simp [this]
  · intro x y z h1 h2
    simp only [decide_eq_true_eq] at *
    exact h.lt_tr h1 h2
  · intro x y z h1 h2
    simp only [decide_eq_false_iff_not] at *
    have e1 := h.tr y x z
    have := h.swap x y; have := h.swap y z; have := h.swap x z
    have := h.rng x y; have := h.rng y z; have := h.rng x z
    have e2 := h.tr z y x (by omega) (by omega)
    omega
theorem Tri.comap {c : α → α → Int} (h : Tri c) (f : β → α) : Tri (fun x y => c (f x) (f y)) :=
  ⟨fun _ _ => h.rng _ _, fun _ _ => h.swap _ _, fun _ _ _ => h.tr _ _ _⟩
def lexC (c d : α → α → Int) (x y : α) : Int := if c x y ≠ 0 then c x y else d x y
theorem Tri.lex {c d : α → α → Int} (hc : Tri c) (hd : Tri d) : Tri (lexC c d) := by
  refine ⟨fun x y => ?_, fun x y => ?_, fun x y z => ?_⟩
  · unfold lexC; split
    · exact hc.rng x y
    · exact hd.rng x y
  · have h1 := hc.swap x y; have h2 := hd.swap x y
    unfold lexC
    split <;> split <;> omega
  · intro h1 h2
    unfold lexC at *
    have := hc.tr x y z
    have := @Tri.lt_le _ _ hc x y z
    have := @Tri.le_lt _ _ hc x y z
    have := hd.tr x y z
    split at h1 <;> split at h2 <;> split <;> omega
theorem lexC_zero {c d : α → α → Int} {x y : α} : lexC c d x y = 0 ↔ c x y = 0 ∧ d x y = 0 := by
  unfold lexC; split <;> omega
/-- Each is right, and stands right behind the one ahead. -/
def risP (ok : α → Bool) (nx : α → α → Bool) : Option α → List α → Bool
  | _, [] => true
  | none, x :: r => ok x && risP ok nx (some x) r
  | some y, x :: r => (ok x && nx y x) && risP ok nx (some x) r
def prevAt (l : List α) (k : Nat) : Option α := if k = 0 then none else l[k - 1]?
theorem ris_drop (ok : α → Bool) (nx : α → α → Bool) (l : List α) (k : Nat) (h : k < l.length) (h0 : 0 < k) :
    risP ok nx (prevAt l k) (l.drop k) = ((ok l[k] && nx (l[k - 1]'(by omega)) l[k]) && risP ok nx (prevAt l (k + 1)) (l.drop (k + 1))) := by
  rw [List.drop_eq_getElem_cons h, prevAt, if_neg (by omega), prevAt, if_neg (by omega), List.getElem?_eq_getElem (by omega), show k + 1 - 1 = k from by omega, List.getElem?_eq_getElem h]
  rfl
theorem ris_drop0 (ok : α → Bool) (nx : α → α → Bool) (l : List α) (h : 0 < l.length) :
    risP ok nx (prevAt l 0) (l.drop 0) = (ok l[0] && risP ok nx (prevAt l 1) (l.drop 1)) := by
  rw [List.drop_eq_getElem_cons h, prevAt, if_pos rfl, prevAt, if_neg (by omega), List.getElem?_eq_getElem (by omega)]
  rfl
theorem ris_end (ok : α → Bool) (nx : α → α → Bool) (l : List α) (k : Nat) (h : l.length ≤ k) : risP ok nx (prevAt l k) (l.drop k) = true := by
  rw [List.drop_eq_nil_of_le h]; cases prevAt l k <;> rfl
theorem ris_start (ok : α → Bool) (nx : α → α → Bool) (l : List α) : risP ok nx none l = risP ok nx (prevAt l 0) (l.drop 0) := rfl
theorem ris_bad1 {ok : α → Bool} {nx : α → α → Bool} {l : List α} {k : Nat} {b : Bool} (h : b = risP ok nx (prevAt l k) (l.drop k)) (hk : k < l.length) (ho : ok l[k] = false) : b = false := by
  rw [h]
  by_cases h0 : k = 0
  · subst h0; rw [ris_drop0 ok nx l hk, ho]; rfl
  · rw [ris_drop ok nx l k hk (by omega), ho]; rfl
theorem ris_bad2 {ok : α → Bool} {nx : α → α → Bool} {l : List α} {k : Nat} {b : Bool} (h : b = risP ok nx (prevAt l k) (l.drop k)) (hk : k < l.length) (h0 : 0 < k) (hn : nx (l[k - 1]'(by omega)) l[k] = false) : b = false := by
  rw [h, ris_drop ok nx l k hk h0, hn, Bool.and_false, Bool.false_and]
theorem ris_next {ok : α → Bool} {nx : α → α → Bool} {l : List α} {k : Nat} {b : Bool} (h : b = risP ok nx (prevAt l k) (l.drop k)) (hk : k < l.length) (ho : ok l[k] = true) (hn : ∀ h0 : 0 < k, nx (l[k - 1]'(by omega)) l[k] = true) : b = risP ok nx (prevAt l (k + 1)) (l.drop (k + 1)) := by
  rw [h]
  by_cases h0 : k = 0
  · subst h0; rw [ris_drop0 ok nx l hk, ho]; rfl
  · rw [ris_drop ok nx l k hk (by omega), ho, hn (by omega)]; rfl
theorem ris_last {ok : α → Bool} {nx : α → α → Bool} {l : List α} {k : Nat} {b : Bool} (h : b = risP ok nx (prevAt l k) (l.drop k)) (hk : l.length ≤ k) : b = true := by rw [h, ris_end ok nx l k hk]
/-- .. then each stands right behind all that are ahead. -/
theorem ris_pair {ok : α → Bool} {nx : α → α → Bool} (R : α → α → Prop) (h1 : ∀ x y, nx x y = true ↔ R x y) (h2 : ∀ x y z, ok y = true → R x y → R y z → R x z) :
    ∀ (l : List α) (p : Option α), risP ok nx p l = true ↔ ((∀ x ∈ l, ok x = true) ∧ l.Pairwise R ∧ ∀ y, p = some y → ∀ x ∈ l, R y x)
  | [], p => by cases p <;> simp [risP]
  | x :: r, none => by
    simp only [risP, Bool.and_eq_true]
    rw [ris_pair R h1 h2 r (some x)]
    simp only [List.mem_cons, forall_eq_or_imp, List.pairwise_cons, Option.some.injEq, forall_eq', reduceCtorEq, false_implies, implies_true, and_true]
    constructor
    · rintro ⟨a, b, c, d⟩; exact ⟨⟨a, b⟩, d, c⟩
    · rintro ⟨⟨a, b⟩, d, c⟩; exact ⟨a, b, c, d⟩
  | x :: r, some y => by
    simp only [risP, Bool.and_eq_true]
    rw [ris_pair R h1 h2 r (some x), h1]
    simp only [List.mem_cons, forall_eq_or_imp, List.pairwise_cons, Option.some.injEq, forall_eq']
    constructor
    · rintro ⟨⟨a, e⟩, b, c, d⟩; exact ⟨⟨a, b⟩, ⟨d, c⟩, e, fun z hz => h2 y x z a e (d z hz)⟩
    · rintro ⟨⟨a, b⟩, ⟨d, c⟩, e, f⟩; exact ⟨⟨a, e⟩, b, c, d⟩
end Go.Abs
namespace Go.Abs
variable {α : Type} {enc : α → List AV}
theorem filt_t {q : α → Bool} {l : List α} {k : Nat} (hk : k < l.length) (h : q l[k] = true) : (l.take (k + 1)).filter q = (l.take k).filter q ++ [l[k]] := by
  rw [take_filter l q k hk, if_pos h]
theorem filt_f {q : α → Bool} {l : List α} {k : Nat} (hk : k < l.length) (h : q l[k] = false) : (l.take (k + 1)).filter q = (l.take k).filter q := by
  rw [take_filter l q k hk, if_neg (by simp [h]), List.append_nil]
theorem slice_to {l : List α} {k : Nat} (h : k ≤ l.length) : ((l.map enc).take ((k : Nat) : Int).toNat).drop 0 = (l.take k).map enc := by
  simp [List.map_take]
theorem slice_from {l : List α} {k : Nat} (h : k ≤ l.length) : ((l.map enc).take (l.map enc).length).drop ((k : Nat) : Int).toNat = (l.drop k).map enc := by
  rw [Int.toNat_natCast, List.map_drop, List.take_of_length_le (Nat.le_refl _)]
end Go.Abs
