import Derived.Test.YtcjchfocohagdaaQ6
import Derived.Lib.SlicesCompact
set_option linter.unusedVariables false
set_option linter.unusedSimpArgs false
namespace Go.Abs
open Go Go.RowKit Go.Sort Go.Proofs Go.Lib
variable {P : Program}

section
variable {α : Type} [Inhabited α] {enc : α → Value}
theorem pr_ne {w : World} {blk off n : Nat} {d : Array α} {b : Nat} (h : b ≠ blk) : (putRow enc (Sort.ahead w n) blk off d).heap[b]? = w.heap[b]? := by
  simp [putRow, mapBlock, Array.getElem?_modify, Ne.symm h]
theorem pr_eq {w : World} {blk off n : Nat} {d : Array α} {cur : Array Value} {T : TypeId} (h : w.heap[blk]? = some (.cells cur T (0, 0))) : (putRow enc (Sort.ahead w n) blk off d).heap[blk]? = some (.cells (putCells enc off d cur) T (0, 0)) := by
  simp [putRow, mapBlock, Array.getElem?_modify, h, onCells]
end

/-- What the shelf says of slices.Compact, at elements of one cell that hold no address. -/
def Compacts1 (P : Program) (f : Nat) (α : Type) [Inhabited α] [DecidableEq α] (enc : α → Value) (zr : α) : Prop :=
  ∀ (blk off cap : Nat) (d : Array α) (w : World), Holds enc w blk off d → d.size ≤ 9223372036854775807 → d.size ≤ cap →
    Calls P f #[.slice (some ⟨blk, off, none⟩) d.size cap] w fun e w' => e = .returned (.slice (some ⟨blk, off, none⟩) (compactUpTo d d.size).length cap) ∧
      ∃ q, w' = putRow enc (Sort.ahead w q) blk off (compactUpTo d d.size ++ List.replicate (d.size - (compactUpTo d d.size).length) zr).toArray

theorem compactUpTo_len {α : Type} [Inhabited α] [DecidableEq α] (d : Array α) (m : Nat) : (compactUpTo d m).length ≤ m := by
  unfold compactUpTo
  rw [List.length_map]
  exact Nat.le_trans (List.length_filter_le _ _) (by simp)

theorem compact_denM {f : Nat} {α : Type} [Inhabited α] [DecidableEq α] {enc : α → Value} {zr : α} (hC : Compacts1 P f α enc zr) (hone : ∀ a, (enc a).oneCell' = true) (ms : List α) (hms : ms ≠ []) (hsz : ms.length ≤ 9223372036854775807) :
    DenM P f [.own E0 1 0 ms.length] 1 (ms.map fun a => [.s (enc a)])
      (fun r ys => r = .own E0 1 0 (compact ms).length ∧ ys = (compact ms ++ List.replicate (ms.length - (compact ms).length) zr).map fun a => [.s (enc a)]) := by
  intro A w x vals hA hx hr hb
  obtain ⟨v0, rfl⟩ : ∃ v0, vals = [v0] := by
    have := hr.1
    match vals, this with
    | [a], _ => exact ⟨a, rfl⟩
  have r0 := hr.2 0 _ v0 rfl rfl
  have hpos := List.length_pos_iff.2 hms
  rcases hb with ⟨hb, _⟩ | ⟨b, cur, T, hbE, hh, hcs, hck, hcell⟩
  · simp [hms] at hb
  have hxb := (one0_o hbE).2
  subst hxb
  have hbs : b < w.heap.size := (Array.getElem?_eq_some_iff.1 hh).1
  obtain ⟨cap, hcap, hcm, hcz, rfl⟩ : ∃ cap, ms.length ≤ cap ∧ cap ≤ maxLen ∧ cap ≤ cur.size ∧ v0 = .slice (some ⟨b, 0, none⟩) ms.length cap := by
    generalize hn : ms.length = n at r0
    cases r0 with
    | ownn _ _ _ => omega
    | own _ _ _ _ b' cap cur' T' hg h1 h2 h3 h4 =>
      have := (one0_o hg).2; cases this
      rw [hh] at h3; cases h3
      exact ⟨cap, h1, h2, by omega, by simp⟩
    | own0 _ _ _ _ _ _ => omega
  have hc : ∀ j, (hj : j < ms.length) → cur[j]? = some (enc ms[j]) := fun j hj => by
    obtain ⟨v, h1, h2⟩ := hcell j [.s (enc ms[j])] 0 (.s (enc ms[j])) (by simp [hj]) rfl
    cases h2
    simpa using h1
  have hholds : Holds enc w b 0 ms.toArray := fun j hj => by
    have hj' : j < ms.length := by simpa using hj
    have : ms.toArray[j]! = ms[j] := by rw [getElem!_pos ms.toArray j hj]; simp
    rw [this]
    refine ⟨?_, ?_⟩
    · simp only [World.cell?, hh, Nat.zero_add]; exact hc j hj'
    · simp [World.frozen?, hh]
  have main := hC b 0 cap ms.toArray w hholds (by simpa using hsz) (by simpa using hcap)
  have hcl : (compact ms).length ≤ ms.length := compactUpTo_len _ _
  simp only [List.size_toArray] at main
  refine main.mono ?_
  rintro _ w' ⟨rfl, q, rfl⟩
  change (compactUpTo ms.toArray ms.length).length ≤ ms.length at hcl
  have hne : ∀ b', Stable w (one0 (some b) A) b' → b' ≠ b := fun b' hb' h => hb'.2.1 E0 (by rw [one0_E0, h])
  have hsize : ∀ d : Array α, (putRow enc (Sort.ahead w q) b 0 d).heap.size = w.heap.size := fun d => by simp
  refine ⟨_, _, _, rfl, ⟨rfl, rfl⟩, ?_, ?_, ?_⟩
  · refine ⟨rfl, ⟨rfl, Nat.le_add_right _ _⟩, rfl, by rw [hsize]; omega, rfl, fun b' hb' => ⟨⟨by rw [hsize]; exact hb'.1, hb'.2⟩, pr_ne (hne b' hb')⟩, fun b' hb' hAb => pr_ne (fun h => hx b' (by rw [h]) hAb), fun g' x hg' => ?_⟩
    have := one0_o hg'
    obtain ⟨rfl, rfl⟩ := this
    refine .inr ⟨one0_E0 _ _, fun b' hb' cur' T' hh' => ?_⟩
    cases hb'
    rw [hh] at hh'; cases hh'
    exact ⟨_, pr_eq hh, by simp [putCells]⟩
  · refine .inr ⟨b, _, T, one0_E0 _ _, pr_eq hh, ?_, ?_, ?_⟩
    · have : compact ms = compactUpTo ms.toArray ms.length := rfl
      simp only [List.length_map, List.length_append, List.length_replicate, putCells, Array.size_mapIdx, this]
      simp at hcs; omega
    · intro y hy
      obtain ⟨a, ha, rfl⟩ := List.mem_map.1 hy
      refine ⟨rfl, fun a' ha' => ?_⟩
      simp only [List.mem_singleton] at ha'
      subst ha'
      exact hone a
    · intro j y i a hy ha
      rw [List.getElem?_map] at hy
      generalize hL : compact ms ++ List.replicate (ms.length - (compact ms).length) zr = L at hy
      have hLn : L.length = ms.length := by
        rw [← hL]; simp only [List.length_append, List.length_replicate]
        have : compact ms = compactUpTo ms.toArray ms.length := rfl
        rw [this]; omega
      change compactUpTo ms.toArray ms.length ++ List.replicate (ms.length - (compactUpTo ms.toArray ms.length).length) zr = L at hL
      rw [hL]
      cases hd' : L[j]? with
      | none => simp [hd'] at hy
      | some e =>
        simp [hd'] at hy
        subst hy
        have hi0 : i = 0 := by
          cases i with
          | zero => rfl
          | succ i => simp at ha
        subst hi0
        simp at ha
        subst ha
        have hj : j < L.length := (List.getElem?_eq_some_iff.1 hd').1
        have hjc : j < cur.size := by
          have h1 : (ms.map fun a => [AV.s (enc a)]).length * 1 ≤ cur.size := hcs
          simp at h1; omega
        refine ⟨enc e, ?_, .s _⟩
        have hq : L.toArray[j]! = e := by rw [getElem!_pos L.toArray j (by simpa using hj)]; simpa [hj] using hd'
        simp only [putCells, Array.getElem?_mapIdx, Nat.mul_one, Nat.add_zero, Array.getElem?_eq_getElem hjc, Option.map_some, Nat.zero_le, true_and, Nat.zero_add, Nat.sub_zero, hq, List.size_toArray, if_pos hj]
  · by_cases h0 : (compactUpTo ms.toArray ms.length).length = 0
    · show RelV _ _ (.own E0 1 0 (compactUpTo ms.toArray ms.length).length) _
      exact .own E0 1 0 _ b cap _ T (one0_E0 _ _) (by omega) hcm (pr_eq hh) (by simp [putCells]; omega)
    · show RelV _ _ (.own E0 1 0 (compactUpTo ms.toArray ms.length).length) _
      exact .own E0 1 0 _ b cap _ T (one0_E0 _ _) (by omega) hcm (pr_eq hh) (by simp [putCells]; omega)

/-- Sorted, and neighbours once: strictly rising, of the same members. -/
theorem compact_sorted {α : Type} [Inhabited α] [DecidableEq α] (le lt : α → α → Prop) (hlt : ∀ a b, le a b → a ≠ b → lt a b) (htr : ∀ a b c, lt a b → le b c → lt a c) (ms : List α) (hs : ms.Pairwise le) :
    (compact ms).Pairwise lt ∧ ∀ x, x ∈ compact ms ↔ x ∈ ms := by
  have key : ∀ m, m ≤ ms.length → (compactUpTo ms.toArray m).Pairwise lt ∧ (∀ x, x ∈ compactUpTo ms.toArray m ↔ x ∈ ms.take m) ∧ (0 < m → ∀ x ∈ compactUpTo ms.toArray m, x = ms.toArray[m - 1]! ∨ lt x ms.toArray[m - 1]!) := by
    intro m
    induction m with
    | zero => intro _; simp [compactUpTo]
    | succ m ih =>
      intro hm
      obtain ⟨i1, i2, i3⟩ := ih (by omega)
      have hmg : ms.toArray[m]! = ms[m] := by rw [getElem!_pos ms.toArray m (by simpa using (show m < ms.length by omega))]; simp
      have htake : ms.take (m + 1) = ms.take m ++ [ms[m]] := by
        rw [List.take_add_one, List.getElem?_eq_getElem (by omega)]; rfl
      rw [compactUpTo_succ, htake]
      by_cases hk : keeps ms.toArray m = true
      · rw [if_pos hk, hmg]
        have hltm : ∀ x ∈ compactUpTo ms.toArray m, lt x ms[m] := fun x hx => by
          have hm0 : 0 < m := by
            rcases Nat.eq_zero_or_pos m with h | h
            · subst h; simp [compactUpTo] at hx
            · exact h
          have hkm : ms.toArray[m]! ≠ ms.toArray[m - 1]! := by
            simp only [keeps, decide_eq_true_eq] at hk
            rcases hk with h | h
            · omega
            · exact h
          have hpm : ms.toArray[m - 1]! = ms[m - 1] := by rw [getElem!_pos ms.toArray (m - 1) (by simp; omega)]; simp
          have hle : le ms[m - 1] ms[m] := List.pairwise_iff_getElem.1 hs (m - 1) m (by omega) (by omega) (by omega)
          rcases i3 hm0 x hx with h | h
          · rw [h, hpm]; exact hlt _ _ hle (fun h => hkm (by rw [hmg, hpm, h]))
          · rw [hpm] at h; exact htr _ _ _ h hle
        refine ⟨?_, ?_, ?_⟩
        · rw [List.pairwise_append]; exact ⟨i1, by simp, fun a ha b hb => by simp at hb; subst hb; exact hltm a ha⟩
        · intro x; rw [List.mem_append, List.mem_append, i2 x]
        · intro _ x hx
          simp only [Nat.add_sub_cancel, hmg]
          rcases List.mem_append.1 hx with h | h
          · exact .inr (hltm x h)
          · simp at h; exact .inl h
      · rw [if_neg hk, List.append_nil]
        have hk' : m ≠ 0 ∧ ms.toArray[m]! = ms.toArray[m - 1]! := by
          simp only [keeps, decide_eq_true_eq, not_or, Decidable.not_not] at hk
          exact hk
        have hpm : ms.toArray[m - 1]! = ms[m - 1] := by rw [getElem!_pos ms.toArray (m - 1) (by simp; omega)]; simp
        refine ⟨i1, ?_, ?_⟩
        · intro x
          rw [List.mem_append, i2 x]
          constructor
          · exact .inl
          · rintro (h | h)
            · exact h
            · simp only [List.mem_singleton] at h
              rw [h, ← hmg, hk'.2, hpm]
              have : (ms.take m)[m - 1]'(by simp; omega) = ms[m - 1] := List.getElem_take
              rw [← this]; exact List.getElem_mem _
        · intro _ x hx
          simp only [Nat.add_sub_cancel, hk'.2]
          exact i3 (by omega) x hx
  have h := key ms.length (Nat.le_refl _)
  exact ⟨h.1, fun x => by have := h.2.1 x; rwa [List.take_length] at this⟩
end Go.Abs
