import Derived.Test.YtpicjibfbghonaaA14
set_option linter.unusedVariables false
set_option linter.unusedSimpArgs false
namespace Go.Abs
open Go Go.RowKit
variable {P : Program} {w0 : World} {p0 : Hp}

/-- What a source of append holds. -/
def asrc (σ : St) (k : Nat) : AV → Option (List (List AV))
  | .sl k' ys => if k' = k ∨ ys = [] then some ys else none
  | .own g k' off m => match look σ.mem g with
    | some (.buf k2 xs) => if ((k' = k ∧ k2 = k) ∨ m = 0) ∧ off + m ≤ xs.length then some ((xs.drop off).take m) else none
    | _ => none
  | .s (.slice none 0 0) => some []
  | _ => none

/-- A source, as the world has it. -/
def Src (w : World) (p : Hp) (k : Nat) (ys : List (List AV)) (v : Value) : Prop :=
  ∃ (ax : Option Addr) (c : Nat) (news : List Value), v = .slice ax ys.length c ∧ news.length = ys.length * k ∧ (∀ x ∈ ys, x.length = k ∧ ∀ c ∈ x, c.leaf = true) ∧
    (ys ≠ [] → ∃ a, ax = some a ∧ ∀ j u, news[j]? = some u → w.cell? (a.add j) = some u) ∧
    (∀ (j : Nat) x (i : Nat) c, ys[j]? = some x → x[i]? = some c → ∃ u, news[j * k + i]? = some u ∧ RelV w p c u)

theorem src_nil {w : World} {p : Hp} {k : Nat} (ax : Option Addr) (c : Nat) : Src w p k [] (.slice ax 0 c) :=
  ⟨ax, c, [], rfl, by simp, by simp, by simp, by simp⟩

/-- Cells that stand one behind the other. -/
theorem src_of {w : World} {p : Hp} {k : Nat} {ys : List (List AV)} {b off c : Nat} (hk : ∀ x ∈ ys, x.length = k ∧ ∀ c ∈ x, c.leaf = true)
    (h : ∀ (j : Nat) x (i : Nat) c, ys[j]? = some x → x[i]? = some c → ∃ u, w.cell? ⟨b, off + (j * k + i), none⟩ = some u ∧ RelV w p c u) : Src w p k ys (.slice (some ⟨b, off, none⟩) ys.length c) := by
  have hfl := flatten_length (fun x hx => (hk x hx).1)
  have key : ∀ t, t < ys.length * k → ∃ j x i c, ys[j]? = some x ∧ x[i]? = some c ∧ t = j * k + i := by
    intro t ht
    have hk0 : 0 < k := by rcases Nat.eq_zero_or_pos k with h | h; (subst h; simp at ht); exact h
    have hj : t / k < ys.length := Nat.div_lt_of_lt_mul (by rw [Nat.mul_comm]; exact ht)
    have hx : ys[t / k]? = some ys[t / k] := by simp [hj]
    have hxl := (hk _ (List.mem_of_getElem? hx)).1
    have hi : t % k < (ys[t / k]).length := by rw [hxl]; exact Nat.mod_lt _ hk0
    exact ⟨t / k, _, t % k, _, hx, List.getElem?_eq_getElem hi, by rw [Nat.mul_comm]; exact (Nat.div_add_mod t k).symm⟩
  let news : List Value := (List.range (ys.length * k)).map (fun t => (w.cell? ⟨b, off + t, none⟩).getD undef)
  refine ⟨_, c, news, rfl, by simp [news], hk, fun _ => ⟨_, rfl, fun j u hu => ?_⟩, fun j x i c hj hi => ?_⟩
  · have hlt : j < ys.length * k := by have := (List.getElem?_eq_some_iff.1 hu).1; simpa [news] using this
    obtain ⟨j', x, i, c, e1, e2, e3⟩ := key j hlt
    obtain ⟨u', hu', _⟩ := h j' x i c e1 e2
    rw [← e3] at hu'
    simp only [news, List.getElem?_map, List.getElem?_range hlt, Option.map_some, Option.some.injEq] at hu
    rw [add_at, hu', ← hu, hu']; rfl
  · obtain ⟨u, hu, hr⟩ := h j x i c hj hi
    have hlt : j * k + i < ys.length * k := by
      have h1 := (List.getElem?_eq_some_iff.1 hj).1
      have h2 := (List.getElem?_eq_some_iff.1 hi).1
      rw [(hk x (List.mem_of_getElem? hj)).1] at h2
      calc j * k + i < j * k + k := by omega
        _ = (j + 1) * k := by rw [Nat.add_mul]; omega
        _ ≤ ys.length * k := Nat.mul_le_mul_right _ h1
    refine ⟨u, ?_, hr⟩
    simp only [news, List.getElem?_map, List.getElem?_range hlt, Option.map_some, hu]; rfl

theorem asrc_rel {σ : St} {a : Act} {w : World} {p : Hp} (hs : SlotsRel w p σ.slots a.tmps) (hm : MemRel w p σ.mem) {k : Nat} {x : Operand} {ys : List (List AV)} (h : asrc σ k (σ.ev x) = some ys) : Src w p k ys (a.eval x) := by
  have hr := ev_rel hs x
  generalize a.eval x = v at *
  generalize σ.ev x = av at *
  cases hr with
  | sln k' ax cap hcap => simp only [asrc] at h; split at h <;> cases h; exact src_nil ax cap
  | slc k' xs b off cap f hb hn hcap hkk hc hr =>
    simp only [asrc] at h
    split at h
    · rename_i hk
      have h' := Option.some.inj h
      subst h'
      by_cases hx : xs = []
      · subst hx; exact src_nil _ _
      · have : k' = k := by rcases hk with h | h; exact h; exact absurd h hx
        subst this
        exact src_of hkk fun j x i c hj hi => ⟨f j i, by rw [← Nat.add_assoc]; exact hc j x i c hj hi, hr j x i c hj hi⟩
    · cases h
  | s v =>
    simp only [asrc] at h
    split at h <;> first | (cases h; rename_i e; cases e; exact src_nil _ _) | (simp at *; done) | cases h
  | ownn g k' hg =>
    simp only [asrc] at h
    split at h
    · split at h
      · cases h; simp only [List.take_zero]; exact src_nil _ _
      · cases h
    · cases h
  | own0 g k' off b a' hg =>
    simp only [asrc] at h
    split at h
    · split at h
      · cases h; simp only [List.take_zero]; exact src_nil _ _
      · cases h
    · cases h
  | own g k' off n b cap cur T hg hn hcap hh hsz =>
    simp only [asrc] at h
    split at h
    · rename_i k2 xs hl
      split at h
      · rename_i hc
        cases h
        obtain ⟨hk, hlen⟩ := hc
        by_cases hn0 : n = 0
        · subst hn0; simp only [List.take_zero]; exact src_nil _ _
        · obtain ⟨ek1, ek2⟩ : k' = k ∧ k2 = k := by rcases hk with h | h; exact h; exact absurd h hn0
          subst ek2; subst ek1
          rcases hm.holds g _ hl with ⟨rfl, _⟩ | ⟨b', cur', T', e1, e2, e3, e4, e5⟩
          · simp at hlen; omega
          · rw [hg] at e1; cases e1
            rw [hh] at e2; cases e2
            have hlen' : ((xs.drop off).take n).length = n := by simp; omega
            have hget : ∀ j x, ((xs.drop off).take n)[j]? = some x → xs[off + j]? = some x := fun j x h => by
              rw [List.getElem?_take] at h
              split at h
              · rwa [List.getElem?_drop] at h
              · cases h
            have := src_of (w := w) (p := p) (k := k') (ys := (xs.drop off).take n) (b := b) (off := off * k') (c := cap) (fun x hx => e4 x (List.mem_of_mem_drop (List.mem_of_mem_take hx)))
              (fun j x i c hj hi => by
                obtain ⟨u, hu, hr⟩ := e5 _ x i c (hget j x hj) hi
                refine ⟨u, ?_, hr⟩
                have e : off * k' + (j * k' + i) = (off + j) * k' + i := by rw [Nat.add_mul]; omega
                rw [cell_of_heap hh, e, hu])
            rwa [hlen'] at this
      · cases h
    · cases h
  | _ => simp [asrc] at h

end Go.Abs
