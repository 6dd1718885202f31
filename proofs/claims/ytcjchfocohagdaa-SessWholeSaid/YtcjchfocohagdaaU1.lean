import Derived.Test.YtcjchfocohagdaaT2
import Derived.Test.YtcjchfocohagdaaS3
import Derived.Test.YtcjchfocohagdaaP5
set_option linter.unusedVariables false
set_option linter.unusedSimpArgs false
namespace Go.Abs
abbrev Pr := ByteArray × ByteArray
abbrev En := Pr × Sp
def prC (p : Pr) : List AV := [.s (.string p.1), .s (.string p.2)]
def enC (e : En) : List AV := [.s (.string e.1.1), .s (.string e.1.2), .s (.int .i64 e.2.1), .s (.int .i64 e.2.2)]
theorem enC_leaf (e : En) : ∀ c ∈ enC e, c.leaf = true := by simp [enC, AV.leaf, Value.oneCell']
theorem cmpI_tri : Tri cmpI := by
  refine ⟨fun x y => ?_, fun x y => ?_, fun x y z => ?_⟩ <;> unfold cmpI <;> (repeat' split) <;> omega
theorem cmpB_tri : Tri cmpB := ⟨cmpB_range, cmpB_swap, fun _ _ _ => cmpB_le_trans⟩
def pairC (p q : Pr) : Int := pairCmp p.1 p.2 q.1 q.2
theorem pairC_lex : pairC = lexC (fun p q : Pr => cmpB p.1 q.1) (fun p q => cmpB p.2 q.2) := by
  funext p q
  simp only [pairC, pairCmp, orI, lexC]
  (repeat' split) <;> simp_all
theorem pairC_tri : Tri pairC := by
  rw [pairC_lex]
  exact (cmpB_tri.comap Prod.fst).lex (cmpB_tri.comap Prod.snd)
theorem pairC_eq {p q : Pr} : pairC p q = 0 ↔ p = q := by
  rw [pairC_lex, lexC_zero, cmpB_eq, cmpB_eq, Prod.ext_iff]
/-- How entries compare: by their pairs, then by their beginning. -/
def ordE (a b : En) : Int := orI [pairC a.1 b.1, cmpI a.2.1 b.2.1]
theorem ordE_lex : ordE = lexC (fun a b : En => pairC a.1 b.1) (fun a b => cmpI a.2.1 b.2.1) := by
  funext p q
  simp only [ordE, orI, lexC]
  (repeat' split) <;> simp_all
theorem ordE_tri : Tri ordE := by
  rw [ordE_lex]
  exact (pairC_tri.comap Prod.fst).lex (cmpI_tri.comap fun a : En => a.2.1)
abbrev eForever : Int := 1099511627776
def forceP (p : Pr) (e : En) : Bool := decide (e.1 = p) && decide (e.2.2 = 1099511627776)
def onB (l : List En) (p : Pr) : Bool := l.any (forceP p)
theorem onB_iff {l : List En} {p : Pr} : onB l p = true ↔ ∃ e ∈ l, e.1 = p ∧ e.2.2 = 1099511627776 := by simp [onB, forceP]
/-- Where a new entry goes: ahead of the first one that is above it. -/
def insE : List En → En → List En
  | [], e => [e]
  | x :: l, e => if 0 < ordE x e then e :: x :: l else x :: insE l e
theorem insE_at (e : En) : ∀ (l : List En) (k : Nat), k ≤ l.length → (∀ (j : Nat) (hj : j < l.length), j < k → ¬ 0 < ordE l[j] e) → (∀ (h : k < l.length), 0 < ordE l[k] e) → insE l e = l.take k ++ e :: l.drop k
  | [], k, hk, _, _ => by have : k = 0 := by simpa using hk
                          subst this; rfl
  | x :: l, 0, _, _, h => by have := h (by simp); simp only [List.getElem_cons_zero] at this; simp [insE, this]
  | x :: l, k + 1, hk, h1, h2 => by
    have hx := h1 0 (by simp) (by omega)
    simp only [List.getElem_cons_zero] at hx
    rw [insE, if_neg hx, insE_at e l k (by simpa using hk) (fun j hj hjk => by have := h1 (j + 1) (by simpa using hj) (by omega); simpa using this) (fun h => by have := h2 (by simpa using h); simpa using this)]
    rfl
theorem insE_len (e : En) : ∀ l : List En, (insE l e).length = l.length + 1
  | [] => rfl
  | x :: l => by rw [insE]; split <;> simp [insE_len e l]
theorem insE_mem {e x : En} : ∀ {l : List En}, x ∈ insE l e ↔ x = e ∨ x ∈ l
  | [] => by simp [insE]
  | y :: l => by
    rw [insE]; split
    · simp
    · simp only [List.mem_cons, insE_mem (l := l)]
      constructor
      · rintro (h | h | h) <;> simp [h]
      · rintro (h | h | h) <;> simp [h]
def grantL (l : List En) (p : Pr) (t : Int) : List En := insE l (p, (t, 1099511627776))
/-- Where the entry in force stands. -/
def forceN (l : List En) (p : Pr) : Nat := l.findIdx (forceP p)
def revAt (e : En) (t : Int) : List En := if t ≤ e.2.1 then [] else [(e.1, (e.2.1, t))]
def revL : List En → Pr → Int → List En
  | [], _, _ => []
  | e :: l, p, t => if forceP p e = true then revAt e t ++ l else e :: revL l p t
theorem revL_at (p : Pr) (t : Int) : ∀ (l : List En) (k : Nat) (hk : k < l.length), (∀ (j : Nat) (hj : j < l.length), j < k → forceP p l[j] = false) → forceP p l[k] = true → revL l p t = l.take k ++ (revAt l[k] t ++ l.drop (k + 1))
  | [], k, hk, _, _ => by simp at hk
  | x :: l, 0, _, _, h => by simp only [List.getElem_cons_zero] at h; simp [revL, h]
  | x :: l, k + 1, hk, h1, h2 => by
    have hx := h1 0 (by simp) (by omega)
    simp only [List.getElem_cons_zero] at hx
    rw [revL, if_neg (by simp [hx]), revL_at p t l k (by simpa using hk) (fun j hj hjk => by have := h1 (j + 1) (by simpa using hj) (by omega); simpa using this) (by simpa using h2)]
    rfl
def ofB (p : Pr) (e : En) : Bool := decide (e.1 = p)
def periodsL (l : List En) (p : Pr) : List Sp := normL ((l.filter (ofB p)).map Prod.snd)
def hasUB (u : ByteArray) (e : En) : Bool := pairHasB e.1.1 e.1.2 u
def okE (e : En) : Bool := decide (e.2.1 < e.2.2) && (rightB e.1.1 && rightB e.1.2)
def nextE (a b : En) : Bool := decide (ordE a b < 0) && !(decide (a.1 = b.1) && decide (b.2.1 < a.2.2))
def risE (l : List En) : Bool := risP okE nextE none l
end Go.Abs
