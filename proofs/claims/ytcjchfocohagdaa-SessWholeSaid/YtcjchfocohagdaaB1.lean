import Derived.Test.YtcjchfocohagdaaQ2
import Derived.ProofKit
import Derived.OpenShut
import Derived.ChangeSame
import Derived.Carry
import Derived.SliceStrings
import Derived.ChangeMaps5
set_option linter.unusedVariables false
set_option linter.unusedSimpArgs false
namespace Go.Abs
open Go Go.RowKit Go.ChangeShapes Go.WideShapes Go.ChangeAt
variable {P : Program} {H : Type} {enc : TypeId × Value → H}

/-- No block is another's. -/
abbrev free0 : Hp := none0 fun _ => False
theorem below_of_ext {W W' : World} {q : Hp} (h : Ext W free0 W' q) : Below W.heap.size W W' :=
  ⟨h.os, h.tape.1, h.output, h.size, fun k hk => (h.stab k ⟨hk, (fun _ h => by cases h), fun h => h⟩).2⟩
theorem stable0 {W : World} {b : Nat} (h : b < W.heap.size) : Stable W free0 b := ⟨h, (fun _ h => by cases h), fun h => h⟩

theorem kept_of_below {W W' : World} (h : Below W.heap.size W W') (may : MemPlace → Prop) : W.keptBut W' may := by
  refine ⟨h.os, h.output, fun i hi => ?_⟩
  rw [h.block i hi]
  cases hw : W.heap[i]? with
  | none => simp
  | some o => cases o <;> simp

theorem trodAll_stays {W W' : World} (hl : laidOutB P = true) {sp : Nat → Bool} (hsame : ∀ b, b < W.heap.size → W'.heap[b]? = W.heap[b]?) : ∀ {ts : List TypeId} {vs : List Value} {ds : List (DataW H)} {ps : List MemPlace},
    (∀ t ∈ ts, P.readableRec t = true ∧ t < P.types.size) → DataW.TrodAll enc P W 0 (fun _ => true) true ts vs ds ps → (∀ p ∈ ps, p.block < W.heap.size) → (∀ p ∈ ps, W.sameAt W' p) → (∀ p ∈ ps, sp p.block = true) → DataW.TrodAll enc P W' 0 sp true ts vs ds ps
  | [], [], [], ps, _, h, _, _, _ => h
  | t :: ts, v :: vs, d :: ds, ps, hr, ⟨p, q, h1, h2, e⟩, hlt, hsm, hs => by
    subst e
    exact ⟨p, q, WideElems.Trod_stays hl (hr t (by simp)).1 (hr t (by simp)).2 h1 (fun x hx => hsm x (by simp [hx])) (fun x hx => hs x (by simp [hx])),
      trodAll_stays hl hsame (fun t ht => hr t (by simp [ht])) h2 (fun x hx => hlt x (by simp [hx])) (fun x hx => hsm x (by simp [hx])) (fun x hx => hs x (by simp [hx])), rfl⟩

/-- What a law's row asks behind the call: true; the arguments as they were. -/
theorem said_post {fn : Func} {s : ChangeSpec} {apart fresh handsOn again : Bool} {W W' : World} {args : Array Value} {ds gs : List (DataW H)} {before : List MemPlace} {t : TypeId}
    (hW : DataW.Whole enc P fn.params.toList s.vars apart W args.toList ds gs before) (hb : Below W.heap.size W W') (hl : laidOutB P = true) (hr : ∀ t ∈ fn.params.toList, P.readableRec t = true ∧ t < P.types.size)
    (hv : s.vars = []) (hs : gs = [] → s.fn H ds = { results := [.lit (.bool true)], args := ds }) (hres : fn.resultTypes = #[t]) (hone : fn.resultTypes.size = 1) (ht : P.underlying t = some .bool) :
    s.post enc P fn apart fresh handsOn again W args (.bool true) W' := by
  have hW' := hW
  obtain ⟨p, q, hA, hV, rfl, hfz, hnd⟩ := hW
  rw [hv] at hV
  have hg : gs = [] ∧ q = [] := by
    cases gs with
    | nil => exact ⟨rfl, hV⟩
    | cons g gs => exact hV.elim
  obtain ⟨rfl, rfl⟩ := hg
  have hlt := DataW.TrodAll.lt hA
  have hold : ∀ x ∈ p, (fun b => decide (b < W.heap.size)) x.block = true := fun x hx => by simpa using hlt x hx
  have hres' : ∀ (b : Nat) (sp : Nat → Bool) (hd : Bool), DataW.TrodAll enc P W' b sp hd fn.resultTypes.toList ((Value.bool true).resultList fn.resultTypes.size) [DataW.lit (.bool true)] [] := fun b sp hd => by
    rw [hres]; exact trodAll_cons_mk (shut_bool ht _) trodAll_mk0
  have hargs : ∀ sp : Nat → Bool, (∀ x ∈ p, sp x.block = true) → DataW.TrodAll enc P W' 0 sp true fn.params.toList args.toList ds p := fun sp hsp =>
    trodAll_stays hl hb.block hr hA hlt (fun x hx => hb.same (hlt x hx)) hsp
  have hvars : ∀ sp : Nat → Bool, DataW.TrodVars enc P W' sp s.vars ([] : List (DataW H)) [] := fun sp => by rw [hv]; rfl
  refine ⟨ds, [], p ++ [], [], p, [], hW', ?_, ?_, ?_, World.keptBut_mono (fun x hx => ⟨hx, .inr (.inl (by simpa using hx))⟩) (kept_of_below hb _), fun _ => ?_⟩
  · rw [List.append_nil, hs rfl]; exact hres' _ _ _
  · rw [List.append_nil, hs rfl]; exact hargs _ hold
  · rw [List.append_nil, hs rfl]; exact hvars _
  · refine ⟨ok_one hres rfl (okWide_bool_mk ht _), _, _, ([] ++ p) ++ [], ⟨[] ++ p, [], trodAll_append (hargs _ fun _ _ => rfl) (hres' _ _ _), hvars _, rfl, ?_, ?_⟩, ?_⟩
    · intro b off hp
      have hp' : MemPlace.cell b off ∈ p := by simpa using hp
      have e : W'.heap[b]? = W.heap[b]? := hb.block b (hlt _ hp')
      simp only [World.frozen?, e]
      exact hfz b off (by simpa using hp')
    · intro ha
      simpa using hnd ha
    · intro x hx _
      simpa using hx

theorem rel_string {r : Reach} {base b0 : Nat} {W : World} {sp : Nat → Bool} {held : Bool} {t : TypeId} {v : Value} {d : DataW H} {ps : List MemPlace} (ht : P.underlying t = some .string) (hval : Value.okWide P W r b0 t v) (hd : DataW.Trod enc P W base sp held t v d ps) :
    ∃ s : ByteArray, s.size ≤ 9223372036854775807 ∧ RelV W free0 (.s (.string s)) v := by
  obtain ⟨s, rfl, _, _, hs⟩ := Go.ChangeMaps.open_string ht hval hd
  exact ⟨s, by simpa [maxLen] using hs, .s _⟩

theorem rel_strings {r : Reach} {base b0 : Nat} {W : World} {sp : Nat → Bool} {held : Bool} {t e : TypeId} {v : Value} {d : DataW H} {ps : List MemPlace} (ht : P.underlying t = some (.slice e)) (he : P.underlying e = some .string) (hc : P.cellsOf e = 1)
    (hval : Value.okWide P W r b0 t v) (hd : DataW.Trod enc P W base sp held t v d ps) :
    ∃ l : List ByteArray, (l.length ≤ 9223372036854775807 ∧ ∀ s ∈ l, s.size ≤ 9223372036854775807) ∧ RelV W free0 (.sl 1 (l.map fun s => [.s (.string s)])) v := by
  obtain ⟨a0, n0, c0, rfl⟩ := okWide_slice ht hval
  obtain ⟨fuel, hf⟩ := hd
  rcases open_strings ht he hc hf with ⟨h, _⟩ | ⟨a, len, cap, ss, h, _, hlc, hcm, hsl, _, hcell, hsz⟩
  · simp [Value.cells] at h
    obtain ⟨rfl, rfl, rfl⟩ := h
    exact ⟨[], ⟨by simp, by simp⟩, .sln 1 none 0 (by simp [maxLen])⟩
  · simp [Value.cells] at h
    obtain ⟨rfl, rfl, rfl⟩ := h
    have hlen : n0 ≤ ss.length := by rw [hsl]; split <;> omega
    have hmx : maxLen = 9223372036854775807 := rfl
    refine ⟨ss.take n0, ⟨by simp; omega, fun s hs => by have := hsz s (List.mem_of_mem_take hs); omega⟩, ?_⟩
    by_cases h0 : n0 = 0
    · subst h0
      simp only [List.take_zero, List.map_nil]
      exact .sln 1 _ c0 hcm
    · have hc0 : W.cell? a = some (.string (ss.getD 0 ByteArray.empty)) := hcell 0 (by omega)
      have hspot : a.spot = none := by
        cases hs : a.spot with
        | none => rfl
        | some x =>
          exfalso
          simp only [World.cell?, hs] at hc0
          revert hc0
          split <;> simp
      have hblk : a.block < W.heap.size := by
        simp only [World.cell?] at hc0
        split at hc0
        · rename_i h; exact (Array.getElem?_eq_some_iff.1 h).1
        · cases hc0
      obtain ⟨b, off, spot⟩ := a
      simp only at hspot hblk
      subst hspot
      have hll : ((ss.take n0).map fun s => [AV.s (.string s)]).length = n0 := by simp; omega
      have key := RelV.slc (w := W) (p := free0) 1 ((ss.take n0).map fun s => [AV.s (.string s)]) b off c0 (fun j _ => .string (ss.getD j ByteArray.empty)) (stable0 hblk) (by rw [hll]; exact hlc) hcm
        (fun x hx => by
          obtain ⟨s, _, rfl⟩ := List.mem_map.1 hx
          exact ⟨rfl, fun c hc => by simp at hc; subst hc; rfl⟩)
        (fun j x i c hj hi => by
          rw [List.getElem?_map] at hj
          cases hq : (ss.take n0)[j]? with
          | none => simp [hq] at hj
          | some s =>
            simp [hq] at hj
            subst hj
            have hi0 : i = 0 := by cases i with | zero => rfl | succ i => simp at hi
            subst hi0
            have hj : j < ss.length := by have := (List.getElem?_eq_some_iff.1 hq).1; simp at this; omega
            have := hcell j hj
            have ea : (⟨b, off, none⟩ : Addr).add j = ⟨b, off + j, none⟩ := by
              unfold Addr.add; split
              · rename_i h; rw [h]; rfl
              · rfl
            rw [ea] at this
            simpa using this)
        (fun j x i c hj hi => by
          rw [List.getElem?_map] at hj
          cases hq : (ss.take n0)[j]? with
          | none => simp [hq] at hj
          | some s =>
            simp [hq] at hj
            subst hj
            have hi0 : i = 0 := by cases i with | zero => rfl | succ i => simp at hi
            subst hi0
            simp at hi
            subst hi
            have hlt := (List.getElem?_eq_some_iff.1 hq).1
            have hj : j < ss.length := by simp at hlt; omega
            have e : ss.getD j ByteArray.empty = s := by
              rw [List.getElem?_take_of_lt (by simp at hlt; omega)] at hq
              rw [List.getD_eq_getElem?_getD, hq]; rfl
            rw [e]; exact .s _)
      rw [hll] at key
      exact key
end Go.Abs
