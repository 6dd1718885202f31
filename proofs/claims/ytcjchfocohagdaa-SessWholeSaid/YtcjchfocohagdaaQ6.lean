import Derived.Test.YtcjchfocohagdaaQ4
import Derived.Shelf.SlSortCmp.Kit1
import Derived.Test.YtcjchfocohagdaaQ5
import Derived.Shelf.SlSortCmp.InsertionK
set_option linter.unusedVariables false
set_option linter.unusedSimpArgs false
namespace Go.Abs
open Go Go.RowKit Go.Sort Go.Proofs
variable {P : Program}

/-- What the shelf says of a sort by 'cmp', at elements of one cell. -/
def Sorts1 (P : Program) (f : Nat) : Prop :=
  ∀ (m : Nat) (enc : Fin (m + 1) → Value) (cf : Fin (m + 1) → Fin (m + 1) → Int) (g : Nat) (cb : Array Value) (blk off cap : Nat) (d : Array (Fin (m + 1))) (w : World), OneCell enc → SWO (ltOf cf) →
    (∀ args w, (callFunc g args).run P w = .ok (.enter g args) w) → CmpLays1 P g cb enc cf blk off d.size w → Holds enc w blk off d → blk < w.heap.size → d.size < 4611686018427387904 →
    Calls P f #[.slice (some ⟨blk, off, none⟩) d.size cap, .func (.func g) #[] cb] w fun e w' =>
      e = .returned (.tuple #[]) ∧ ∃ d' n os, PermIn 0 d.size d d' ∧ SortedIn (ltOf cf) 0 d.size d' ∧ w' = sortWorld enc w blk off n d' os
def Sorts0 (P : Program) (f : Nat) : Prop :=
  ∀ (p : Option Addr) (cap : Nat) (fv : Value) (w : World), Calls P f #[.slice p 0 cap, fv] w fun e w' => e = .returned (.tuple #[]) ∧ w' = w

section
variable {α : Type} [Inhabited α] {enc : α → Value}
theorem sw_ne {w : World} {blk off n : Nat} {d : Array α} {os : Array Obj} {b : Nat} (h : b ≠ blk) (hb : b < w.heap.size) : (sortWorld enc w blk off n d os).heap[b]? = w.heap[b]? := by
  unfold sortWorld
  rw [heap_grow_old _ _ (by simpa using hb)]
  simp [putRow, mapBlock, Array.getElem?_modify, Ne.symm h]
theorem sw_eq {w : World} {blk off n : Nat} {d : Array α} {os : Array Obj} {cur : Array Value} {T : TypeId} (h : w.heap[blk]? = some (.cells cur T (0, 0))) : (sortWorld enc w blk off n d os).heap[blk]? = some (.cells (putCells enc off d cur) T (0, 0)) := by
  have hb : blk < w.heap.size := (Array.getElem?_eq_some_iff.1 h).1
  unfold sortWorld
  rw [heap_grow_old _ _ (by simpa using hb)]
  simp [putRow, mapBlock, Array.getElem?_modify, h, onCells]
theorem sw_size {w : World} {blk off n : Nat} {d : Array α} {os : Array Obj} : (sortWorld enc w blk off n d os).heap.size = w.heap.size + os.size := by
  unfold sortWorld; simp
end

/-- A world that has only grown and drawn. -/
theorem grown_of {W w' : World} (hos : w'.os = W.os) (ht : w'.tape = W.tape ∧ W.drawn ≤ w'.drawn) (ho : w'.output = W.output) (hs : W.heap.size ≤ w'.heap.size) (hh : ∀ b, b < W.heap.size → w'.heap[b]? = W.heap[b]?) :
    ∃ q os', w' = grow (W.drewN q) os' := by
  refine ⟨w'.drawn - W.drawn, w'.heap.extract W.heap.size w'.heap.size, ?_⟩
  have hheap : w'.heap = W.heap ++ w'.heap.extract W.heap.size w'.heap.size := by
    apply Array.ext_getElem?
    intro i
    rw [Array.getElem?_append]
    split
    · rename_i h; exact hh i h
    · rename_i h
      rw [Array.getElem?_extract]
      have e : W.heap.size + (i - W.heap.size) = i := by omega
      simp only [e, Nat.min_self]
      split
      · rfl
      · rw [Array.getElem?_eq_none (by omega)]
  cases w' with
  | mk heap tape drawn os output =>
    simp only at hos ht ho hs hheap
    unfold grow World.drewN
    rw [World.mk.injEq]
    refine ⟨hheap, ht.1, ?_, hos, ho⟩
    show drawn = W.drawn + (drawn - W.drawn)
    omega

theorem sort_denM {f g : Nat} (hS : Sorts1 P f) (h0 : Sorts0 P f) (eg : ∀ args w, (callFunc g args).run P w = .ok (.enter g args) w) {α : Type} (ms : List α) (enc : α → AV) (hleaf : ∀ a ∈ ms, (enc a).leaf = true) (cf : α → α → Int)
    (hO : SWO (fun x y => decide (cf x y < 0))) (hcmp : ∀ x ∈ ms, ∀ y ∈ ms, Den P g [enc x, enc y] (· = .s (.int .i64 (cf x y)))) (hsz : ms.length < 4611686018427387904) :
    DenM P f [.own E0 1 0 ms.length, .fn g []] 1 (ms.map fun a => [enc a]) (fun r ys => ∃ ms' : List α, ms'.Perm ms ∧ ms'.Pairwise (fun x y => ¬ cf y x < 0) ∧ ys = ms'.map fun a => [enc a]) := by
  intro A w x vals hA hx hr hb
  obtain ⟨v0, v1, rfl⟩ : ∃ v0 v1, vals = [v0, v1] := by
    have := hr.1
    match vals, this with
    | [a, b], _ => exact ⟨a, b, rfl⟩
  have r0 := hr.2 0 _ v0 rfl rfl
  have r1 := hr.2 1 _ v1 rfl rfl
  by_cases hms : ms = []
  · subst hms
    obtain ⟨p, cap, rfl⟩ : ∃ p cap, v0 = .slice p 0 cap := by
      simp only [List.length_nil] at r0
      cases r0 <;> exact ⟨_, _, rfl⟩
    refine (h0 p cap v1 w).mono ?_
    rintro e w' ⟨rfl, rfl⟩
    exact ⟨_, .s (.tuple #[]), _, rfl, ⟨[], .refl _, .nil, rfl⟩, Ext.refl _ _, hb, .s _⟩
  obtain ⟨m, hm⟩ : ∃ m, ms.length = m + 1 := ⟨ms.length - 1, by have := List.length_pos_iff.2 hms; omega⟩
  rcases hb with ⟨hb, _⟩ | ⟨b, cur, T, hbE, hh, hcs, hck, hcell⟩
  · simp [hms] at hb
  have hxb := (one0_o hbE).2
  subst hxb
  have hbs : b < w.heap.size := (Array.getElem?_eq_some_iff.1 hh).1
  obtain ⟨cap, hcap, rfl⟩ : ∃ cap, ms.length ≤ cap ∧ v0 = .slice (some ⟨b, 0, none⟩) ms.length cap := by
    generalize hn : ms.length = n at r0
    cases r0 with
    | ownn _ _ _ => omega
    | own _ _ _ _ b' cap cur' T' hg h1 h2 h3 h4 =>
      have := (one0_o hg).2; cases this
      exact ⟨cap, h1, by simp⟩
    | own0 _ _ _ _ _ _ => omega
  cases r1 with
  | fn _ _ cb hl _ =>
  have hcb : cb = #[] := by simpa using hl.symm
  subst hcb
  have hc : ∀ j, (hj : j < ms.length) → ∃ v, cur[j]? = some v ∧ RelV w (one0 (some b) A) (enc ms[j]) v := fun j hj => by
    obtain ⟨v, h1, h2⟩ := hcell j [enc ms[j]] 0 (enc ms[j]) (by simp [hj]) rfl
    exact ⟨v, by simpa using h1, h2⟩
  let e : Fin (m + 1) → Value := fun i => cur.getD i.1 undef
  let c : Fin (m + 1) → Fin (m + 1) → Int := fun i j => cf (ms[i.1]'(by omega)) (ms[j.1]'(by omega))
  have he : ∀ i : Fin (m + 1), cur[i.1]? = some (e i) ∧ RelV w (one0 (some b) A) (enc (ms[i.1]'(by omega))) (e i) := fun i => by
    obtain ⟨v, h1, h2⟩ := hc i.1 (by omega)
    have : e i = v := by simp only [e, Array.getD_eq_getD_getElem?, h1, Option.getD_some]
    exact ⟨by rw [this]; exact h1, by rw [this]; exact h2⟩
  let d : Array (Fin (m + 1)) := Array.ofFn id
  have hds : d.size = ms.length := by simp [d, hm]
  have hone : OneCell e := fun i => (he i).2.one (AV.one_of_leaf (hleaf _ (List.getElem_mem _)))
  have hholds : Holds e w b 0 d := fun j hj => by
    have hj' : j < m + 1 := by simpa [d] using hj
    have : d[j]! = ⟨j, hj'⟩ := by rw [getElem!_pos d j hj]; simp [d]
    rw [this]
    refine ⟨?_, ?_⟩
    · simp only [World.cell?, hh, Nat.zero_add]; exact (he ⟨j, hj'⟩).1
    · simp [World.frozen?, hh]
  have hswo : SWO (ltOf c) := ⟨fun x => hO.irrefl _, fun x y z h1 h2 => hO.trans _ _ _ h1 h2, fun x y z h1 h2 => hO.ntrans _ _ _ h1 h2⟩
  have hmv : ∀ (n : Nat) (dk : Array (Fin (m + 1))) (os : Array Obj) (q : Hp) (a : AV) (v : Value), (∀ b', Stable w (one0 (some b) A) b' → Stable (sortWorld e w b 0 n dk os) q b') → a.leaf = true → RelV w (one0 (some b) A) a v → RelV (sortWorld e w b 0 n dk os) q a v :=
    fun n dk os q a v hq hlf h => h.move (ok := fun _ => false) (fun b' hb' => ⟨hq b' hb', sw_ne (fun h => hb'.2.1 E0 (by rw [one0_E0, h])) hb'.1⟩) (fun _ _ h _ => by cases h) (AV.clean_of_leaf hlf)
  have hlays : CmpLays1 P g #[] e c b 0 d.size w := by
    intro n os dk hdk i j
    have hst : ∀ b', Stable w (one0 (some b) A) b' → Stable (sortWorld e w b 0 n dk os) (none0 fun b' => A b' ∨ b' = b) b' := fun b' hb' =>
      ⟨by rw [sw_size]; have := hb'.1; omega, fun _ h => (by cases h), fun h => h.elim hb'.2.2 fun h => hb'.2.1 E0 (by rw [one0_E0, h])⟩
    have hden := hcmp (ms[i.1]'(by omega)) (List.getElem_mem _) (ms[j.1]'(by omega)) (List.getElem_mem _) (fun b' => A b' ∨ b' = b) (sortWorld e w b 0 n dk os) [e i, e j]
      (fun b' h => by
        rw [sw_size]
        rcases h with h | h
        · have := hA b' h; omega
        · rw [h]; omega) ⟨rfl, fun k a v hk hv => by
        match k, hk, hv with
        | 0, hk, hv => cases hk; cases hv; exact hmv _ _ _ _ _ _ hst (hleaf _ (List.getElem_mem _)) (he i).2
        | 1, hk, hv => cases hk; cases hv; exact hmv _ _ _ _ _ _ hst (hleaf _ (List.getElem_mem _)) (he j).2⟩
    refine hden.mono ?_
    rintro _ w' ⟨v, r, rfl, rfl, hE, hrv⟩
    cases hrv
    refine ⟨rfl, grown_of hE.os hE.tape hE.output hE.size fun b' hb' => ?_⟩
    by_cases h : A b' ∨ b' = b
    · exact hE.others b' hb' h
    · exact (hE.stab b' ⟨hb', (fun _ h => by cases h), h⟩).2
  have main := hS m e c g #[] b 0 cap d w hone hswo eg hlays hholds hbs (by rw [hds]; exact hsz)
  rw [hds] at main
  refine main.mono ?_
  rintro _ w' ⟨rfl, d', n, os, hperm, hsort, rfl⟩
  have hps : d'.size = ms.length := by rw [hperm.1, hds]
  have hperm' : d'.toList.Perm d.toList := by
    have h := hperm.2.2
    rw [← hds] at h
    rw [Array.extract_size] at h
    have e2 : d'.extract 0 d.size = d' := by rw [← hperm.1]; exact Array.extract_size
    rwa [e2] at h
  let el : Fin (m + 1) → α := fun i => ms[i.1]'(by omega)
  have hmsd : ms = d.toList.map el := by
    apply List.ext_getElem
    · simp [d, hm]
    · intro i h1 h2
      have hid : i < d.size := by rw [hds]; exact h1
      have : d[i] = (⟨i, by omega⟩ : Fin (m + 1)) := by simp only [d, Array.getElem_ofFn, id]
      rw [List.getElem_map, Array.getElem_toList]
      show ms[i] = ms[(d[i]).1]'_
      simp only [this]
  have hstab : ∀ b', Stable w (one0 (some b) A) b' → Stable (sortWorld e w b 0 n d' os) (one0 (some b) A) b' := fun b' hb' => ⟨by rw [sw_size]; have := hb'.1; omega, hb'.2⟩
  have hne : ∀ b', Stable w (one0 (some b) A) b' → b' ≠ b := fun b' hb' h => hb'.2.1 E0 (by rw [one0_E0, h])
  refine ⟨_, .s (.tuple #[]), _, rfl, ⟨d'.toList.map el, ?_, ?_, rfl⟩, ?_, ?_, .s _⟩
  · rw [hmsd]; exact hperm'.map el
  · rw [List.pairwise_map, List.pairwise_iff_getElem]
    intro i j hi hj hij
    have hi' : i < d'.size := by simpa using hi
    have hj' : j < d'.size := by simpa using hj
    have := hsort i j (Nat.zero_le _) hij (by omega)
    rw [getElem!_pos d' i hi', getElem!_pos d' j hj'] at this
    simpa [ltOf, c, el] using this
  · refine ⟨rfl, ⟨rfl, Nat.le_add_right _ _⟩, rfl, by rw [sw_size]; omega, rfl, fun b' hb' => ⟨hstab b' hb', sw_ne (hne b' hb') hb'.1⟩, fun b' hb' hAb => sw_ne (fun h => hx b' (by rw [h]) hAb) hb', fun g' x hg' => ?_⟩
    have := one0_o hg'
    obtain ⟨rfl, rfl⟩ := this
    refine .inr ⟨one0_E0 _ _, fun b' hb' cur' T' hh' => ?_⟩
    cases hb'
    rw [hh] at hh'; cases hh'
    exact ⟨_, sw_eq hh, by simp [putCells]⟩
  · refine .inr ⟨b, putCells e 0 d' cur, T, one0_E0 _ _, sw_eq hh, ?_, ?_, ?_⟩
    · simp only [List.length_map, Array.length_toList, hps, putCells, Array.size_mapIdx]; simpa using hcs
    · intro y hy
      obtain ⟨a, ha, rfl⟩ := List.mem_map.1 hy
      refine ⟨rfl, fun a' ha' => ?_⟩
      simp only [List.mem_singleton] at ha'
      subst ha'
      obtain ⟨i, _, rfl⟩ := List.mem_map.1 ha
      exact hleaf _ (List.getElem_mem _)
    · intro j y i a hy ha
      rw [List.getElem?_map, List.getElem?_map] at hy
      cases hd' : d'.toList[j]? with
      | none => simp [hd'] at hy
      | some q =>
        simp [hd'] at hy
        subst hy
        have hi0 : i = 0 := by
          cases i with
          | zero => rfl
          | succ i => simp at ha
        subst hi0
        simp at ha
        subst ha
        have hj : j < d'.size := by simpa using (List.getElem?_eq_some_iff.1 hd').1
        have hjc : j < cur.size := by
          have h1 : (ms.map fun a => [enc a]).length * 1 ≤ cur.size := hcs
          simp at h1; omega
        refine ⟨e q, ?_, hmv _ _ _ _ _ _ hstab (hleaf _ (List.getElem_mem _)) (he q).2⟩
        have hq : d'[j]! = q := by rw [getElem!_pos d' j hj]; simpa [hj] using hd'
        simp only [putCells, Array.getElem?_mapIdx, Nat.mul_one, Nat.add_zero, Array.getElem?_eq_getElem hjc, Option.map_some, Nat.zero_le, true_and, Nat.zero_add, Nat.sub_zero, hq, if_pos hj]

end Go.Abs
set_option linter.unusedVariables false
set_option linter.unusedSimpArgs false
namespace Go.Abs
open Go Go.RowKit Go.Sort Go.Proofs
variable {P : Program}

/-- What the shelf says of a sort by 'cmp', at elements of k cells. -/
def SortsK (P : Program) (f k : Nat) : Prop :=
  ∀ (m : Nat) (enc : Fin (m + 1) → List Value) (cf : Fin (m + 1) → Fin (m + 1) → Int) (g : Nat) (cb : Array Value) (blk off cap : Nat) (d : Array (Fin (m + 1))) (w : World), (∀ x, (enc x).length = k) → (∀ x, ∀ v ∈ enc x, v.oneCell' = true) → SWO (ltOf cf) →
    (∀ args w, (callFunc g args).run P w = .ok (.enter g args) w) → CmpLays P g cb enc k cf blk off d.size w → HoldsK enc k w blk off d → blk < w.heap.size → d.size < 4611686018427387904 →
    Calls P f #[.slice (some ⟨blk, off, none⟩) d.size cap, .func (.func g) #[] cb] w fun e w' =>
      e = .returned (.tuple #[]) ∧ ∃ d' n os, PermIn 0 d.size d d' ∧ SortedIn (ltOf cf) 0 d.size d' ∧ w' = sortWorldK enc k w blk off n d' os

theorem sort_denMK {f g k : Nat} (hk0 : 0 < k) (hS : SortsK P f k) (h0 : Sorts0 P f) (eg : ∀ args w, (callFunc g args).run P w = .ok (.enter g args) w) {α : Type} (ms : List α) (enc : α → List AV) (hlen : ∀ a, (enc a).length = k) (hleaf : ∀ a ∈ ms, ∀ c ∈ enc a, c.leaf = true) (cf : α → α → Int)
    (hO : SWO (fun x y => decide (cf x y < 0))) (hcmp : ∀ x ∈ ms, ∀ y ∈ ms, Den P g [.agg (enc x), .agg (enc y)] (· = .s (.int .i64 (cf x y)))) (hsz : ms.length < 4611686018427387904) :
    DenM P f [.own E0 k 0 ms.length, .fn g []] k (ms.map enc) (fun r ys => ∃ ms' : List α, ms'.Perm ms ∧ ms'.Pairwise (fun x y => ¬ cf y x < 0) ∧ ys = ms'.map enc) := by
  intro A w x vals hA hx hr hb
  obtain ⟨v0, v1, rfl⟩ : ∃ v0 v1, vals = [v0, v1] := by
    have := hr.1
    match vals, this with
    | [a, b], _ => exact ⟨a, b, rfl⟩
  have r0 := hr.2 0 _ v0 rfl rfl
  have r1 := hr.2 1 _ v1 rfl rfl
  by_cases hms : ms = []
  · subst hms
    obtain ⟨p, cap, rfl⟩ : ∃ p cap, v0 = .slice p 0 cap := by
      simp only [List.length_nil] at r0
      cases r0 <;> exact ⟨_, _, rfl⟩
    refine (h0 p cap v1 w).mono ?_
    rintro e w' ⟨rfl, rfl⟩
    exact ⟨_, .s (.tuple #[]), _, rfl, ⟨[], .refl _, .nil, rfl⟩, Ext.refl _ _, hb, .s _⟩
  obtain ⟨m, hm⟩ : ∃ m, ms.length = m + 1 := ⟨ms.length - 1, by have := List.length_pos_iff.2 hms; omega⟩
  rcases hb with ⟨hb, _⟩ | ⟨b, cur, T, hbE, hh, hcs, hck, hcell⟩
  · simp [hms] at hb
  have hxb := (one0_o hbE).2
  subst hxb
  have hbs : b < w.heap.size := (Array.getElem?_eq_some_iff.1 hh).1
  obtain ⟨cap, hcap, rfl⟩ : ∃ cap, ms.length ≤ cap ∧ v0 = .slice (some ⟨b, 0, none⟩) ms.length cap := by
    generalize hn : ms.length = n at r0
    cases r0 with
    | ownn _ _ _ => omega
    | own _ _ _ _ b' cap cur' T' hg h1 h2 h3 h4 =>
      have := (one0_o hg).2; cases this
      exact ⟨cap, h1, by simp⟩
    | own0 _ _ _ _ _ _ => omega
  cases r1 with
  | fn _ _ cb hl _ =>
  have hcb : cb = #[] := by simpa using hl.symm
  subst hcb
  have hcs' : ms.length * k ≤ cur.size := by simpa using hcs
  let el : Fin (m + 1) → α := fun i => ms[i.1]'(by omega)
  let e : Fin (m + 1) → List Value := fun i => (List.range k).map fun j => cur.getD (i.1 * k + j) undef
  let c : Fin (m + 1) → Fin (m + 1) → Int := fun i j => cf (el i) (el j)
  have helm : ∀ i, el i ∈ ms := fun i => List.getElem_mem _
  have hel : ∀ i, (e i).length = k := fun i => by simp [e]
  have hej : ∀ (i : Fin (m + 1)) (j : Nat) (hj : j < k), cur[i.1 * k + j]? = some ((e i)[j]'(by rw [hel]; exact hj)) ∧ RelV w (one0 (some b) A) ((enc (el i))[j]'(by rw [hlen]; exact hj)) ((e i)[j]'(by rw [hel]; exact hj)) := fun i j hj => by
    obtain ⟨v, h1, h2⟩ := hcell i.1 (enc (el i)) j ((enc (el i))[j]'(by rw [hlen]; exact hj)) (by rw [List.getElem?_map, List.getElem?_eq_getElem (show i.1 < ms.length by omega)]; rfl) (by simp)
    have : (e i)[j]'(by rw [hel]; exact hj) = v := by simp only [e, List.getElem_map, List.getElem_range, Array.getD_eq_getD_getElem?, h1, Option.getD_some]
    exact ⟨by rw [this]; exact h1, by rw [this]; exact h2⟩
  let d : Array (Fin (m + 1)) := Array.ofFn id
  have hds : d.size = ms.length := by simp [d, hm]
  have hone : ∀ x, ∀ v ∈ e x, v.oneCell' = true := fun x v hv => by
    obtain ⟨j, hj⟩ := List.getElem?_of_mem hv
    obtain ⟨hj1, hj2⟩ := List.getElem?_eq_some_iff.1 hj
    rw [hel] at hj1
    subst hj2
    exact (hej x j hj1).2.one (AV.one_of_leaf (hleaf _ (helm x) _ (List.getElem_mem _)))
  -- a cell of the flat row
  have hflat : ∀ (dk : Array (Fin (m + 1))) (t : Nat), dk.size = ms.length → t < ms.length * k → ∃ (q : Fin (m + 1)), dk[t / k]! = q ∧ (flatK e k dk)[t]! = (e q)[t % k]'(by rw [hel]; exact Nat.mod_lt _ hk0) := fun dk t hdk ht => by
    refine ⟨_, rfl, ?_⟩
    rw [get_flatK e k dk t (by rw [hdk]; exact ht)]
    rw [getElem!_pos]
  have hholds : HoldsK e k w b 0 d := fun t ht => by
    rw [size_flatK, hds] at ht
    obtain ⟨q, hq1, hq2⟩ := hflat d t hds ht
    rw [hq2]
    have htk : t / k < ms.length := Nat.div_lt_of_lt_mul (by rw [Nat.mul_comm]; exact ht)
    have hqv : q.1 = t / k := by
      rw [← hq1, getElem!_pos d (t / k) (by rw [hds]; exact htk)]
      simp [d]
    refine ⟨?_, ?_⟩
    · simp only [World.cell?, hh, Nat.zero_add]
      have := (hej q (t % k) (Nat.mod_lt _ hk0)).1
      rw [hqv, Nat.mul_comm (t / k) k, Nat.div_add_mod] at this
      exact this
    · simp [World.frozen?, hh]
  have hswo : SWO (ltOf c) := ⟨fun x => hO.irrefl _, fun x y z h1 h2 => hO.trans _ _ _ h1 h2, fun x y z h1 h2 => hO.ntrans _ _ _ h1 h2⟩
  have swne : ∀ (n : Nat) (dk : Array (Fin (m + 1))) (os : Array Obj) (b' : Nat), b' ≠ b → b' < w.heap.size → (sortWorldK e k w b 0 n dk os).heap[b']? = w.heap[b']? := fun n dk os b' h1 h2 => sw_ne (enc := id) (d := flatK e k dk) h1 h2
  have swsz : ∀ (n : Nat) (dk : Array (Fin (m + 1))) (os : Array Obj), (sortWorldK e k w b 0 n dk os).heap.size = w.heap.size + os.size := fun n dk os => sw_size (enc := id) (d := flatK e k dk)
  have swb : ∀ (n : Nat) (dk : Array (Fin (m + 1))) (os : Array Obj), (sortWorldK e k w b 0 n dk os).heap[b]? = some (.cells (putCells id 0 (flatK e k dk) cur) T (0, 0)) := fun n dk os => sw_eq (enc := id) (d := flatK e k dk) hh
  have hmv : ∀ (n : Nat) (dk : Array (Fin (m + 1))) (os : Array Obj) (q : Hp) (a : AV) (v : Value), (∀ b', Stable w (one0 (some b) A) b' → Stable (sortWorldK e k w b 0 n dk os) q b') → a.leaf = true → RelV w (one0 (some b) A) a v → RelV (sortWorldK e k w b 0 n dk os) q a v :=
    fun n dk os q a v hq hlf h => h.move (ok := fun _ => false) (fun b' hb' => ⟨hq b' hb', swne n dk os b' (fun h => hb'.2.1 E0 (by rw [one0_E0, h])) hb'.1⟩) (fun _ _ h _ => by cases h) (AV.clean_of_leaf hlf)
  have hmvs : ∀ (n : Nat) (dk : Array (Fin (m + 1))) (os : Array Obj) (q : Hp) (i : Fin (m + 1)), (∀ b', Stable w (one0 (some b) A) b' → Stable (sortWorldK e k w b 0 n dk os) q b') → RelV (sortWorldK e k w b 0 n dk os) q (.agg (enc (el i))) (.agg (e i).toArray) := fun n dk os q i hq => by
    refine .agg _ _ (by simp [hlen, hel]) (fun j c v hc hv => ?_)
    have hj : j < k := by rw [← hlen (el i)]; exact (List.getElem?_eq_some_iff.1 hc).1
    obtain ⟨_, h2⟩ := hej i j hj
    have hc' := (List.getElem?_eq_some_iff.1 hc).2
    have hv' : v = (e i)[j]'(by rw [hel]; exact hj) := by
      rw [List.getElem?_toArray] at hv
      exact (List.getElem?_eq_some_iff.1 hv).2.symm
    rw [← hc', hv']
    exact hmv n dk os q _ _ hq (hleaf _ (helm i) _ (List.getElem_mem _)) h2
  have hlays : CmpLays P g #[] e k c b 0 d.size w := by
    intro n os dk hdk i j
    have hst : ∀ b', Stable w (one0 (some b) A) b' → Stable (sortWorldK e k w b 0 n dk os) (none0 fun b' => A b' ∨ b' = b) b' := fun b' hb' =>
      ⟨by rw [swsz]; have := hb'.1; omega, fun _ h => (by cases h), fun h => h.elim hb'.2.2 fun h => hb'.2.1 E0 (by rw [one0_E0, h])⟩
    have hden := hcmp (el i) (helm i) (el j) (helm j) (fun b' => A b' ∨ b' = b) (sortWorldK e k w b 0 n dk os) [.agg (e i).toArray, .agg (e j).toArray]
      (fun b' h => by
        rw [swsz]
        rcases h with h | h
        · have := hA b' h; omega
        · rw [h]; omega) ⟨rfl, fun q a v hq hv => by
        match q, hq, hv with
        | 0, hq, hv => cases hq; cases hv; exact hmvs _ _ _ _ _ hst
        | 1, hq, hv => cases hq; cases hv; exact hmvs _ _ _ _ _ hst⟩
    refine hden.mono ?_
    rintro _ w' ⟨v, r, rfl, rfl, hE, hrv⟩
    cases hrv
    refine ⟨rfl, grown_of hE.os hE.tape hE.output hE.size fun b' hb' => ?_⟩
    by_cases h : A b' ∨ b' = b
    · exact hE.others b' hb' h
    · exact (hE.stab b' ⟨hb', (fun _ h => by cases h), h⟩).2
  have main := hS m e c g #[] b 0 cap d w hel hone hswo eg hlays hholds hbs (by rw [hds]; exact hsz)
  rw [hds] at main
  refine main.mono ?_
  rintro _ w' ⟨rfl, d', n, os, hperm, hsort, rfl⟩
  have hps : d'.size = ms.length := by rw [hperm.1, hds]
  have hperm' : d'.toList.Perm d.toList := by
    have h := hperm.2.2
    rw [← hds] at h
    rw [Array.extract_size] at h
    have e2 : d'.extract 0 d.size = d' := by rw [← hperm.1]; exact Array.extract_size
    rwa [e2] at h
  have hmsd : ms = d.toList.map el := by
    apply List.ext_getElem
    · simp [d, hm]
    · intro i h1 h2
      have hid : i < d.size := by rw [hds]; exact h1
      have : d[i] = (⟨i, by omega⟩ : Fin (m + 1)) := by simp only [d, Array.getElem_ofFn, id]
      rw [List.getElem_map, Array.getElem_toList]
      show ms[i] = ms[(d[i]).1]'_
      simp only [this]
  have hstab : ∀ b', Stable w (one0 (some b) A) b' → Stable (sortWorldK e k w b 0 n d' os) (one0 (some b) A) b' := fun b' hb' => ⟨by rw [swsz]; have := hb'.1; omega, hb'.2⟩
  have hne : ∀ b', Stable w (one0 (some b) A) b' → b' ≠ b := fun b' hb' h => hb'.2.1 E0 (by rw [one0_E0, h])
  refine ⟨_, .s (.tuple #[]), _, rfl, ⟨d'.toList.map el, ?_, ?_, rfl⟩, ?_, ?_, .s _⟩
  · rw [hmsd]; exact hperm'.map el
  · rw [List.pairwise_map, List.pairwise_iff_getElem]
    intro i j hi hj hij
    have hi' : i < d'.size := by simpa using hi
    have hj' : j < d'.size := by simpa using hj
    have := hsort i j (Nat.zero_le _) hij (by omega)
    rw [getElem!_pos d' i hi', getElem!_pos d' j hj'] at this
    simpa [ltOf, c, el] using this
  · refine ⟨rfl, ⟨rfl, Nat.le_add_right _ _⟩, rfl, by rw [swsz]; omega, rfl, fun b' hb' => ⟨hstab b' hb', swne _ _ _ b' (hne b' hb') hb'.1⟩, fun b' hb' hAb => swne _ _ _ b' (fun h => hx b' (by rw [h]) hAb) hb', fun g' x hg' => ?_⟩
    have := one0_o hg'
    obtain ⟨rfl, rfl⟩ := this
    refine .inr ⟨one0_E0 _ _, fun b' hb' cur' T' hh' => ?_⟩
    cases hb'
    rw [hh] at hh'; cases hh'
    exact ⟨_, swb _ _ _, by simp [putCells]⟩
  · refine .inr ⟨b, putCells id 0 (flatK e k d') cur, T, one0_E0 _ _, swb _ _ _, ?_, ?_, ?_⟩
    · simp only [List.length_map, Array.length_toList, hps, putCells, Array.size_mapIdx]; exact hcs'
    · intro y hy
      obtain ⟨a, ha, rfl⟩ := List.mem_map.1 hy
      obtain ⟨i, _, rfl⟩ := List.mem_map.1 ha
      exact ⟨hlen _, hleaf _ (helm i)⟩
    · intro j y i a hy ha
      rw [List.getElem?_map, List.getElem?_map] at hy
      cases hd' : d'.toList[j]? with
      | none => simp [hd'] at hy
      | some q =>
        simp [hd'] at hy
        subst hy
        have hi : i < k := by rw [← hlen (el q)]; exact (List.getElem?_eq_some_iff.1 ha).1
        have ha' := (List.getElem?_eq_some_iff.1 ha).2
        have hj : j < d'.size := by simpa using (List.getElem?_eq_some_iff.1 hd').1
        have hjk : (j + 1) * k ≤ ms.length * k := Nat.mul_le_mul_right _ (by omega)
        rw [Nat.add_mul] at hjk
        have hjc : j * k + i < cur.size := by omega
        obtain ⟨q', hq1, hq2⟩ := hflat d' (j * k + i) hps (by omega)
        have e1 : (j * k + i) / k = j := by rw [Nat.mul_comm, Nat.mul_add_div hk0, Nat.div_eq_of_lt hi, Nat.add_zero]
        have e2 : (j * k + i) % k = i := by rw [Nat.mul_comm, Nat.mul_add_mod, Nat.mod_eq_of_lt hi]
        have hq : q' = q := by
          rw [← hq1, e1, getElem!_pos d' j hj]
          have := (List.getElem?_eq_some_iff.1 hd').2
          simpa using this
        subst hq
        simp only [e2] at hq2
        refine ⟨(e q')[i]'(by rw [hel]; exact hi), ?_, ?_⟩
        · have hin : j * k + i < (flatK e k d').size := by rw [size_flatK, hps]; omega
          simp only [putCells, Array.getElem?_mapIdx, Array.getElem?_eq_getElem hjc, Option.map_some, Nat.zero_le, true_and, Nat.zero_add, Nat.sub_zero, if_pos hin, hq2, id]
        · rw [← ha']
          exact hmv _ _ _ _ _ _ hstab (hleaf _ (helm q') _ (List.getElem_mem _)) (hej q' i hi).2
end Go.Abs
