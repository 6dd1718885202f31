import Derived.Test.YtcjchfocohagdaaB1
import Derived.Test.YtcjchfocohagdaaQ5
import Derived.Deep.Slices
set_option linter.unusedVariables false
set_option linter.unusedSimpArgs false
namespace Go.Abs
open Go Go.RowKit Go.ChangeShapes Go.WideShapes Go.ChangeAt
variable {P : Program} {H : Type} {enc : TypeId × Value → H}

mutual
def Ty : TD → List AV → Prop
  | .bool, cs => ∃ b, cs = [.s (.bool b)]
  | .int k, cs => ∃ n, cs = [.s (.int k n)] ∧ (Lit.int k n).wf = true
  | .str, cs => ∃ s : ByteArray, cs = [.s (.string s)] ∧ s.size ≤ 140737488351232
  | .sl b d, cs => ∃ xs, cs = [.sl d.n xs] ∧ xs.length ≤ 9223372036854775807 ∧ xs.length * b ≤ 140737488351232 ∧ ∀ x ∈ xs, Ty d x
  | .agg ds, cs => TyL ds cs
def TyL : List TD → List AV → Prop
  | [], cs => cs = []
  | d :: r, cs => ∃ a b, cs = a ++ b ∧ Ty d a ∧ TyL r b
end

theorem ty_len_aux : ∀ (k : Nat) (d : TD), SizeOf.sizeOf d < k → ∀ cs, Ty d cs → cs.length = d.n
  | 0, d, h, _, _ => by omega
  | k + 1, .bool, _, cs, ⟨b, h⟩ => by subst h; simp [TD.n]
  | k + 1, .int _, _, cs, ⟨n, h, _⟩ => by subst h; simp [TD.n]
  | k + 1, .str, _, cs, ⟨s, h, _⟩ => by subst h; simp [TD.n]
  | k + 1, .sl _ _, _, cs, ⟨xs, h, _⟩ => by subst h; simp [TD.n]
  | k + 1, .agg ds, hk, cs, h => by
    simp only [TD.n]
    simp only [Ty] at h
    have : ∀ (ds : List TD), SizeOf.sizeOf ds < k → ∀ cs, TyL ds cs → cs.length = TD.nL ds := by
      intro ds
      induction ds with
      | nil => intro _ cs h; simp only [TyL] at h; subst h; simp [TD.nL]
      | cons d r ih =>
        intro hs cs h
        simp only [TyL] at h
        obtain ⟨a, b, rfl, ha, hb⟩ := h
        have h1 := ty_len_aux k d (by simp at hs; omega) a ha
        have h2 := ih (by simp at hs; omega) b hb
        simp [TD.nL, h1, h2]
    exact this ds (by simp at hk; omega) cs h
theorem ty_len {d : TD} {cs : List AV} (h : Ty d cs) : cs.length = d.n := ty_len_aux _ d (Nat.lt_succ_self _) cs h

theorem RelL.app {w : World} {p : Hp} {a b : List AV} {x y : List Value} (h : RelL w p a x) (k : RelL w p b y) : RelL w p (a ++ b) (x ++ y) := by
  refine ⟨by simp [h.1, k.1], fun i c v hc hv => ?_⟩
  by_cases hi : i < a.length
  · rw [List.getElem?_append_left hi] at hc
    rw [List.getElem?_append_left (by rw [← h.1]; exact hi)] at hv
    exact h.2 i c v hc hv
  · rw [List.getElem?_append_right (by omega)] at hc
    rw [List.getElem?_append_right (by rw [← h.1]; omega), ← h.1] at hv
    exact k.2 _ c v hc hv
theorem RelL.one {w : World} {p : Hp} {c : AV} {v : Value} (h : RelV w p c v) : RelL w p [c] [v] := by
  refine ⟨rfl, fun i c' v' hc hv => ?_⟩
  cases i with
  | zero => simp at hc hv; subst hc; subst hv; exact h
  | succ i => simp at hc

section
variable {W : World} {base : Nat} {sp : Nat → Bool} {held : Bool}

theorem mem_weightsAll {e : TypeId} {q : Nat} : ∀ {l : List (DataW H)} {d : DataW H}, d ∈ l → q ∈ d.weights P e → q ∈ DataW.weightsAll P e l
  | [], _, h, _ => by simp at h
  | x :: l, d, h, hq => by
    simp only [DataW.weightsAll, List.mem_append]
    rcases List.mem_cons.1 h with rfl | h
    · exact .inl hq
    · exact .inr (mem_weightsAll h hq)
theorem mem_weightsEach {q : Nat} : ∀ {ts : List TypeId} {ds : List (DataW H)} {i : Nat} {t : TypeId} {d : DataW H}, ts[i]? = some t → ds[i]? = some d → q ∈ d.weights P t → q ∈ DataW.weightsEach P ts ds
  | [], _, _, _, _, h, _, _ => by simp at h
  | _ :: _, [], _, _, _, _, h, _ => by simp at h
  | t0 :: ts, d0 :: ds, i, t, d, ht, hd, hq => by
    simp only [DataW.weightsEach, List.mem_append]
    cases i with
    | zero => simp at ht hd; subst ht; subst hd; exact .inl hq
    | succ i => exact .inr (mem_weightsEach (i := i) (by simpa using ht) (by simpa using hd) hq)
/-- All that it holds takes no more than the reach. -/
def Light (P : Program) (t : TypeId) (d : DataW H) : Prop := ∀ q ∈ d.weights P t, q ≤ reachBytes
theorem light_arg {ts us : List TypeId} {ds gs : List (DataW H)} (h : (DataW.weightsEach P (ts ++ us) (ds ++ gs)).all (· ≤ reachBytes) = true) {i : Nat} {t : TypeId} {d : DataW H} (ht : ts[i]? = some t) (hd : ds[i]? = some d) : Light P t d := by
  intro q hq
  simp only [List.all_eq_true, decide_eq_true_eq] at h
  have h1 := (List.getElem?_eq_some_iff.1 ht).1
  have h2 := (List.getElem?_eq_some_iff.1 hd).1
  exact h q (mem_weightsEach (i := i) (by rw [List.getElem?_append_left h1]; exact ht) (by rw [List.getElem?_append_left h2]; exact hd) hq)

/-- It reads as cells of that shape. -/
def Cells (W : World) (d : TD) (vs : List Value) : Prop := ∃ cs, Ty d cs ∧ RelL W free0 cs vs ∧ ∀ c ∈ cs, c.leaf = true

theorem rel_segs (f : TypeId → Option TD) (IH : ∀ t d, f t = some d → ∀ fuel vs x, DataW.trod enc P W base sp held fuel t vs = some x → Light P t x.1 → Cells W d vs) :
    ∀ (segs : List (Nat × TypeId)) (o : Nat) (ds : List TD) (vs : List Value), tdSegs P f o segs = some ds →
      (∀ s ∈ segs, ∃ fuel x, DataW.trod enc P W base sp held fuel s.2 ((vs.drop s.1).take (P.cellsOf s.2)) = some x ∧ Light P s.2 x.1) → o + TD.nL ds = vs.length →
      ∃ cs, TyL ds cs ∧ RelL W free0 cs (vs.drop o) ∧ ∀ c ∈ cs, c.leaf = true := by
  intro segs
  induction segs with
  | nil =>
    intro o ds vs h _ hl
    simp only [tdSegs, Option.some.injEq] at h
    subst h
    simp only [TD.nL, Nat.add_zero] at hl
    refine ⟨[], by simp [TyL], ⟨by simp [hl], fun i c v hc _ => by simp at hc⟩, by simp⟩
  | cons s r ih =>
    intro o ds vs h hx hl
    obtain ⟨off, t⟩ := s
    simp only [tdSegs] at h
    split at h
    · rename_i d hd
      split at h
      · rename_i hc
        obtain ⟨rfl, hn⟩ := hc
        cases hr : tdSegs P f (off + d.n) r with
        | none => simp [hr] at h
        | some es =>
          simp only [hr, Option.map_some, Option.some.injEq] at h
          subst h
          simp only [TD.nL] at hl
          obtain ⟨fuel, x, hx1, hw1⟩ := hx (off, t) (by simp)
          obtain ⟨a, ha1, ha2, ha3⟩ := IH t d hd fuel _ x hx1 hw1
          obtain ⟨b, hb1, hb2, hb3⟩ := ih (off + d.n) es vs hr (fun s hs => hx s (by simp [hs])) (by omega)
          refine ⟨a ++ b, by simp only [TyL]; exact ⟨a, b, rfl, ha1, hb1⟩, ?_, fun c hc => (List.mem_append.1 hc).elim (ha3 c) (hb3 c)⟩
          have e : vs.drop off = (vs.drop off).take (P.cellsOf t) ++ vs.drop (off + d.n) := by
            rw [← hn, ← List.drop_drop]; exact (List.take_append_drop _ _).symm
          rw [e]
          exact ha2.app hb2
      · cases h
    · cases h

theorem rel_cells : ∀ (n : Nat) (t : TypeId) (d : TD), tdOf? P n t = some d → ∀ fuel vs x, DataW.trod enc P W base sp held fuel t vs = some x → Light P t x.1 → Cells W d vs := by
  intro n
  induction n with
  | zero => intro t d h; simp [tdOf?] at h
  | succ n ih =>
    intro t d h fuel vs x hx hlw
    unfold tdOf? at h
    split at h
    · rename_i ht; cases h
      obtain ⟨b, rfl, _⟩ := DataW.trod_bool ht hx
      exact ⟨[.s (.bool b)], by simp only [Ty]; exact ⟨b, rfl⟩, .one (.s _), by simp [AV.leaf, Value.oneCell']⟩
    · rename_i k ht; cases h
      obtain ⟨z, rfl, _, hw⟩ := DataW.trod_int ht hx
      exact ⟨[.s (.int k z)], by simp only [Ty]; exact ⟨z, rfl, hw⟩, .one (.s _), by simp [AV.leaf, Value.oneCell']⟩
    · rename_i ht; cases h
      obtain ⟨s, rfl, rfl, hw⟩ := DataW.trod_string ht hx
      have hws := hlw s.data.toList.length (by simp [DataW.weights])
      exact ⟨[.s (.string s)], by simp only [Ty]; exact ⟨s, rfl, by simpa [reachBytes] using hws⟩, .one (.s _), by simp [AV.leaf, Value.oneCell']⟩
    · rename_i e ht
      split at h
      · rename_i de hde
        split at h
        · rename_i hn
          obtain ⟨hn, hpos⟩ := hn
          cases h
          have hmx : maxLen = 9223372036854775807 := rfl
          rcases Go.Deep.open_slice ht hx with ⟨rfl, _⟩ | ⟨a, len, cap, m, fu, D, Pl, rfl, _, hl, hm, hmm, hxe, hel⟩
          · exact ⟨[.sl de.n []], by simp only [Ty]; exact ⟨[], rfl, by simp, by simp, by simp⟩, .one (.sln _ _ _ (by simp [maxLen])), by simp [AV.leaf]⟩
          · have hlm : len ≤ m := by rw [hmm]; split <;> omega
            have hlen48 : len * P.bytesOf e ≤ 140737488351232 := by
              have h0 := hlw ((((List.range len).map D).length + ((List.range (m - len)).map fun j => D (len + j)).length) * P.bytesOf e) (by rw [hxe]; simp [DataW.weights, ht])
              have h1 : len * P.bytesOf e ≤ (((List.range len).map D).length + ((List.range (m - len)).map fun j => D (len + j)).length) * P.bytesOf e := Nat.mul_le_mul_right _ (by simp)
              have : reachBytes = 140737488351232 := rfl
              omega
            have hlD : ∀ i, i < len → Light P e (D i) := fun i hi q hq => hlw q (by
              rw [hxe]
              simp only [DataW.weights, ht, List.mem_cons, List.mem_append]
              exact .inr (.inl (mem_weightsAll (List.mem_map.2 ⟨i, by simpa using hi, rfl⟩) hq)))
            have key : ∀ i, i < len → ∃ q : List AV × List Value, Ty de q.1 ∧ RelL W free0 q.1 q.2 ∧ (∀ c ∈ q.1, c.leaf = true) ∧ W.cells? base (a.add (i * P.cellsOf e)) (P.cellsOf e) = some q.2 := by
              intro i hi
              obtain ⟨cs', h1, h2⟩ := hel i (by omega)
              obtain ⟨cs, k1, k2, k3⟩ := ih e de hde fu cs' _ h2 (hlD i hi)
              exact ⟨(cs, cs'), k1, k2, k3, h1⟩
            obtain ⟨g, hg⟩ := Go.Deep.choose_lt key
            by_cases h0 : len = 0
            · subst h0
              exact ⟨[.sl de.n []], by simp only [Ty]; exact ⟨[], rfl, by simp, by simp, by simp⟩, .one (.sln _ _ _ hm), by simp [AV.leaf]⟩
            · have hcell : ∀ j i, j < len → i < de.n → W.cell? ((a.add (j * de.n)).add i) = (g j).2[i]? := by
                intro j i hj hi
                have := (hg j hj).2.2.2
                rw [← hn] at this
                exact (World.cells?_some this).2.2 i hi
              have hlen : ∀ j, j < len → (g j).1.length = de.n ∧ (g j).2.length = de.n := by
                intro j hj
                have h1 := ty_len (hg j hj).1
                exact ⟨h1, by rw [← (hg j hj).2.1.1, h1]⟩
              have hspot : a.spot = none := by
                have h1 := hcell 0 0 (by omega) hpos
                cases hs : a.spot with
                | none => rfl
                | some x =>
                  exfalso
                  have h2 : (g 0).2[0]? ≠ none := by
                    have := (hlen 0 (by omega)).2
                    rw [List.getElem?_eq_getElem (by omega)]; simp
                  rw [← h1] at h2
                  apply h2
                  have : ((a.add (0 * de.n)).add 0) = a := by simp [Addr.add]
                  rw [this]
                  simp only [World.cell?, hs]
                  split <;> simp
              have hblk : a.block < W.heap.size := by
                have h1 := hcell 0 0 (by omega) hpos
                have h2 : (g 0).2[0]? ≠ none := by
                  have := (hlen 0 (by omega)).2
                  rw [List.getElem?_eq_getElem (by omega)]; simp
                rw [← h1] at h2
                have : ((a.add (0 * de.n)).add 0) = a := by simp [Addr.add]
                rw [this] at h2
                simp only [World.cell?] at h2
                split at h2
                · rename_i h; exact (Array.getElem?_eq_some_iff.1 h).1
                · exact absurd rfl h2
              obtain ⟨b, off, spot⟩ := a
              simp only at hspot hblk
              subst hspot
              have hll : ((List.range len).map fun j => (g j).1).length = len := by simp
              have hget : ∀ (j : Nat) x, ((List.range len).map fun j => (g j).1)[j]? = some x → j < len ∧ x = (g j).1 := by
                intro j x hj
                rw [List.getElem?_map] at hj
                cases hq : (List.range len)[j]? with
                | none => simp [hq] at hj
                | some s =>
                  obtain ⟨h1, h2⟩ := List.getElem?_eq_some_iff.1 hq
                  simp at h1 h2
                  subst h2
                  simp [hq] at hj
                  exact ⟨h1, hj.symm⟩
              have ty : ∀ x ∈ (List.range len).map fun j => (g j).1, Ty de x := by
                intro x hxm
                obtain ⟨j, hj, rfl⟩ := List.mem_map.1 hxm
                exact (hg j (by simpa using hj)).1
              have key := RelV.slc (w := W) (p := free0) de.n ((List.range len).map fun j => (g j).1) b off cap (fun j i => ((g j).2[i]?).getD undef) (stable0 hblk) (by rw [hll]; exact hl) hm
                (fun x hxm => by
                  obtain ⟨j, hj, rfl⟩ := List.mem_map.1 hxm
                  have hj' : j < len := by simpa using hj
                  exact ⟨(hlen j hj').1, (hg j hj').2.2.1⟩)
                (fun j x i c hj hi => by
                  obtain ⟨hj', rfl⟩ := hget j x hj
                  have hi' : i < de.n := by rw [← (hlen j hj').1]; exact (List.getElem?_eq_some_iff.1 hi).1
                  have h1 := hcell j i hj' hi'
                  rw [add_at, add_at] at h1
                  rw [h1, List.getElem?_eq_getElem (by rw [(hlen j hj').2]; exact hi')]
                  rfl)
                (fun j x i c hj hi => by
                  obtain ⟨hj', rfl⟩ := hget j x hj
                  have hi' : i < de.n := by rw [← (hlen j hj').1]; exact (List.getElem?_eq_some_iff.1 hi).1
                  have hv : (g j).2[i]? = some ((g j).2[i]'(by rw [(hlen j hj').2]; exact hi')) := List.getElem?_eq_getElem _
                  rw [hv]
                  exact (hg j hj').2.1.2 i c _ hi hv)
              rw [hll] at key
              exact ⟨[.sl de.n ((List.range len).map fun j => (g j).1)], by simp only [Ty]; exact ⟨_, rfl, by rw [hll]; omega, by rw [hll]; exact hlen48, ty⟩, .one key, by simp [AV.leaf]⟩
        · cases h
      · cases h
    · rename_i fs ht
      split at h
      · rename_i ds hds
        split at h
        · rename_i hn
          cases h
          obtain ⟨xs, fu, _, hxe, hlen, hxl, hf⟩ := DataW.trod_struct ht hx
          obtain ⟨cs, h1, h2, h3⟩ := rel_segs (tdOf? P n) (fun t d h => ih t d h) _ 0 ds vs hds (fun s hs => by
            obtain ⟨f, hfm, rfl⟩ := List.mem_map.1 hs
            obtain ⟨i, hi⟩ := List.getElem?_of_mem hfm
            have h4 := hf i f (by simpa using hi)
            cases hq : xs[i]? with
            | none =>
              exfalso
              have h5 := (List.getElem?_eq_some_iff.1 hi).1
              simp at h5 hq
              omega
            | some y =>
              refine ⟨fu, y, by rw [h4, hq], fun q hq' => hlw q ?_⟩
              rw [hxe]
              simp only [DataW.weights, ht]
              exact mem_weightsEach (i := i) (by rw [List.getElem?_map, hi]; rfl) (by rw [List.getElem?_map, hq]; rfl) hq') (by rw [hn, hlen]; omega)
          exact ⟨cs, by simp only [Ty]; exact h1, h2, h3⟩
        · cases h
      · cases h
    · rename_i m e ht
      split at h
      · rename_i ds hds
        split at h
        · rename_i hn
          cases h
          obtain ⟨xs, fu, _, hxe, hlen, hxl, hf⟩ := DataW.trod_array ht hx
          obtain ⟨cs, h1, h2, h3⟩ := rel_segs (tdOf? P n) (fun t d h => ih t d h) _ 0 ds vs hds (fun s hs => by
            obtain ⟨i, him, rfl⟩ := List.mem_map.1 hs
            have hi : i < m := by simpa using him
            have h4 := hf i hi
            cases hq : xs[i]? with
            | none => exfalso; simp at hq; omega
            | some y =>
              refine ⟨fu, y, by rw [h4, hq], fun q hq' => hlw q ?_⟩
              rw [hxe]
              simp only [DataW.weights, ht]
              exact mem_weightsAll (List.mem_map.2 ⟨y, List.mem_of_getElem? hq, rfl⟩) hq') (by rw [hn, hlen]; omega)
          exact ⟨cs, by simp only [Ty]; exact h1, h2, h3⟩
        · cases h
      · cases h
    · cases h

/-- An argument that is a struct or an array. -/
theorem rel_agg {r : Reach} {b0 n : Nat} {t : TypeId} {v : Value} {d : DataW H} {ps : List MemPlace} {ds : List TD} (ht : tdOf? P n t = some (.agg ds)) (hag : agg? P t = some true)
    (hval : Value.okWide P W r b0 t v) (hd : DataW.Trod enc P W base sp held t v d ps) (hw : Light P t d) : ∃ cs, TyL ds cs ∧ RelV W free0 (.agg cs) v := by
  obtain ⟨fuel, hf⟩ := hd
  obtain ⟨cs, h1, h2, h3⟩ := rel_cells n t _ ht fuel _ _ hf hw
  simp only [Ty] at h1
  have : ∃ us : Array Value, v = .agg us := by
    unfold agg? at hag
    unfold Value.okWide at hval
    cases hu : P.underlying t with
    | none => simp [hu] at hag
    | some q =>
      rw [hu] at hval
      cases q <;> simp_all <;> (obtain ⟨cs, h, _⟩ := hval; exact ⟨cs, h⟩)
  obtain ⟨us, rfl⟩ := this
  refine ⟨cs, h1, .agg _ _ (by simpa [Value.cells] using h2.1) (fun i c u hc hu => h2.2 i c u hc (by simpa [Value.cells] using hu))⟩
/-- .. that is neither. -/
theorem rel_one {r : Reach} {b0 n : Nat} {t : TypeId} {v : Value} {d : DataW H} {ps : List MemPlace} {dd : TD} (ht : tdOf? P n t = some dd) (hag : agg? P t = some false)
    (hval : Value.okWide P W r b0 t v) (hd : DataW.Trod enc P W base sp held t v d ps) (hw : Light P t d) : ∃ c, Ty dd [c] ∧ RelV W free0 c v := by
  obtain ⟨fuel, hf⟩ := hd
  obtain ⟨cs, h1, h2, h3⟩ := rel_cells n t _ ht fuel _ _ hf hw
  have : v.cells = #[v] := by
    unfold agg? at hag
    unfold Value.okWide at hval
    cases hu : P.underlying t with
    | none => simp [hu] at hag
    | some q =>
      rw [hu] at hval
      cases n with
      | zero => simp [tdOf?] at ht
      | succ n =>
        unfold tdOf? at ht
        rw [hu] at ht
        cases q <;> simp at ht hag <;> (simp only [Cell.okWide, hu] at hval; cases v <;> simp_all [Cell.ok, Value.cells])
  rw [this] at h2
  obtain ⟨hl, hp⟩ := h2
  match cs, hl with
  | [c], _ => exact ⟨c, h1, hp 0 c v rfl rfl⟩
end

/-- A row, element by element. -/
theorem ty_list {α : Type} (enc : α → List AV) (ok : α → Prop) {d : TD} (h : ∀ cs, Ty d cs → ∃ a, cs = enc a ∧ ok a) : ∀ {xs : List (List AV)}, (∀ x ∈ xs, Ty d x) → ∃ l : List α, xs = l.map enc ∧ ∀ a ∈ l, ok a
  | [], _ => ⟨[], rfl, by simp⟩
  | x :: xs, hx => by
    obtain ⟨a, rfl, ha⟩ := h x (hx x (by simp))
    obtain ⟨l, rfl, hl⟩ := ty_list enc ok h (xs := xs) (fun y hy => hx y (by simp [hy]))
    exact ⟨a :: l, rfl, by simpa using ⟨ha, hl⟩⟩
theorem wf_i64 {n : Int} (h : (Lit.int .i64 n).wf = true) : -9223372036854775808 ≤ n ∧ n ≤ 9223372036854775807 := by
  simp [Lit.wf, IntKind.min, IntKind.max, IntKind.bits, IntKind.signed] at h
  omega
end Go.Abs
