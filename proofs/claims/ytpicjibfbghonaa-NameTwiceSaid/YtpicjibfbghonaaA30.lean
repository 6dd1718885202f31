import Derived.Test.YtpicjibfbghonaaA29
set_option linter.unusedVariables false
set_option linter.unusedSimpArgs false
namespace Go.Abs
open Go Go.RowKit
variable {P : Program} {w0 : World} {p0 : Hp}

/-- All of this call's own blocks are given up: what reads through them is read only from here on. -/
def froz (m : Mem) (l : List (Nat × AV)) : List (Nat × AV) → Prop
  | [] => True
  | (t, a') :: r => (∃ a, lk l t = some a ∧ a.only (fun _ => false) m = a') ∧ froz m l r
theorem froz_look {m : Mem} {l : List (Nat × AV)} : ∀ {l' : List (Nat × AV)}, froz m l l' → ∀ t a', look l' t = some a' → ∃ a, look l t = some a ∧ a.only (fun _ => false) m = a'
  | [], _, _, _, h => by simp [look] at h
  | (t0, a0) :: r, h, t, a', hl => by
    simp only [look] at hl
    split at hl
    · rename_i e; subst e; cases hl
      obtain ⟨a, h1, h2⟩ := h.1
      exact ⟨a, by rw [← lk_eq]; exact h1, h2⟩
    · exact froz_look h.2 t a' hl
theorem only_none (m : Mem) : ∀ l : Mem, Mem.only (fun _ => false) m l = [] := by
  intro l
  induction l with
  | nil => rfl
  | cons x r ih => obtain ⟨g, a⟩ := x; simp [Mem.only, ih]
theorem look_map_only (m : Mem) (f : AV → AV) : ∀ (l : List (Nat × AV)) (t : Nat), look (l.map fun x => (x.1, f x.2)) t = (look l t).map f
  | [], t => rfl
  | (d, a) :: r, t => by
    simp only [List.map_cons, look]
    split
    · rfl
    · exact look_map_only m f r t
theorem le_freeze {n : Nat} {sl sl' : List (Nat × AV)} {m : Mem} (h : froz m sl sl') : Le ⟨n, sl, m⟩ ⟨n, sl', []⟩ := by
  refine (Le.only (fun _ => false) ⟨n, sl, m⟩).trans ?_
  intro w0 p0 a w ⟨h1, h2, p, hE, hs, hm⟩
  refine ⟨h1, h2, p, hE, fun t a' ht => ?_, ?_⟩
  · obtain ⟨b, hb1, hb2⟩ := froz_look h t a' ht
    refine hs t a' ?_
    show look (sl.map fun x => (x.1, x.2.only (fun _ => false) m)) t = some a'
    rw [look_map_only m (fun x => x.only (fun _ => false) m), hb1, ← hb2]; rfl
  · have : (St.only (fun _ => false) ⟨n, sl, m⟩).mem = [] := only_none m m
    rw [this] at hm; exact hm
theorem only_whole {mem : Mem} {g k n : Nat} {xs : List (List AV)} (hl : look mem g = some (.buf k xs)) (hn : n = xs.length) : (AV.own g k 0 n).only (fun _ => false) mem = .sl k xs := by
  subst hn
  simp [AV.only, hl]
end Go.Abs
