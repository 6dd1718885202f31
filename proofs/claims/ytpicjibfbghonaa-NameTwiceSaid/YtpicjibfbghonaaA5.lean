import Derived.Test.YtpicjibfbghonaaA4
import Derived.ChangeKeysEq
set_option linter.unusedVariables false
set_option linter.unusedSimpArgs false
namespace Go.Abs
open Go Go.RowKit
variable {P : Program}

/-- How many cells a type has, and whether it is a struct or an array. -/
def cells? (P : Program) (t : TypeId) : Option Nat := (P.info? t).map (·.size)
def agg? (P : Program) (t : TypeId) : Option Bool := (P.underlying t).map fun | .struct _ => true | .array _ _ => true | _ => false
def elem? (P : Program) (t : TypeId) : Option TypeId := match P.underlying t with | some (.slice e) => some e | _ => none
def field? (P : Program) (t : TypeId) (f : Nat) : Option (Nat × TypeId) := match P.underlying t with | some (.struct fs) => (fs[f]?).map fun x => (x.offset, x.type) | _ => none

theorem elem?_inv {t e : TypeId} (h : elem? P t = some e) : P.underlying t = some (.slice e) := by
  unfold elem? at h; split at h <;> simp_all
theorem run_size {t : TypeId} {n : Nat} (h : cells? P t = some n) (w : World) : (sizeOf t).run P w = .ok n w := by
  unfold cells? at h
  cases hi : P.info? t with
  | none => simp [hi] at h
  | some i => simp [hi] at h; simp [sizeOf, typeInfo, hi, h]
theorem run_agg {t : TypeId} {b : Bool} (h : agg? P t = some b) (w : World) : (isAgg t).run P w = .ok b w := by
  unfold agg? at h
  cases hi : P.underlying t with
  | none => simp [hi] at h
  | some d => simp [hi] at h; unfold isAgg; rw [Sem.run_bind, run_underlying hi]; cases d <;> simp_all
theorem add_at (b off n : Nat) : (⟨b, off, none⟩ : Addr).add n = ⟨b, off + n, none⟩ := by
  unfold Addr.add; split <;> simp_all

theorem pure_len_str {o : Oper} {σ : St} {x : Operand} {t : TypeId} {s : ByteArray} (ho : o.op = .call { callee := .builtin .len, args := #[x], argTypes := #[t] })
    (ht : P.underlying t = some .string) (hx : σ.ev x = .s (.string s)) : PureOp P o σ (.s (.int .i64 s.size)) := by
  intro act w p hs _
  exact ⟨_, by simp [execOp, ho, resolve, invoke, builtin, Builtin.len_, ev_s hs hx, run_underlying ht, goInt], .s _⟩

theorem RelV.sl_inv {w : World} {p : Hp} {k : Nat} {xs : List (List AV)} {v : Value} (h : RelV w p (.sl k xs) v) : ∃ a cap, v = .slice a xs.length cap := by
  cases h with
  | sln k a cap => exact ⟨a, cap, rfl⟩
  | slc k xs b off cap f => exact ⟨_, cap, rfl⟩
theorem RelV.own_inv {w : World} {p : Hp} {g k off n : Nat} {v : Value} (h : RelV w p (.own g k off n) v) : ∃ a cap, v = .slice a n cap := by
  cases h with
  | ownn => exact ⟨_, _, rfl⟩
  | own => exact ⟨_, _, rfl⟩
  | own0 => exact ⟨_, _, rfl⟩

theorem pure_len_of {o : Oper} {σ : St} {x : Operand} {t e : TypeId} {av : AV} {n : Nat} (ho : o.op = .call { callee := .builtin .len, args := #[x], argTypes := #[t] })
    (ht : elem? P t = some e) (hx : σ.ev x = av) (hl : ∀ w p v, RelV w p av v → ∃ a cap, v = .slice a n cap) : PureOp P o σ (.s (.int .i64 n)) := by
  intro act w p hs _
  obtain ⟨a, cap, hv⟩ := hl w p _ (hx ▸ ev_rel hs x)
  exact ⟨_, by simp [execOp, ho, resolve, invoke, builtin, Builtin.len_, hv, run_underlying (elem?_inv ht), goInt], .s _⟩
theorem pure_len_sl {o : Oper} {σ : St} {x : Operand} {t e : TypeId} {k : Nat} {xs : List (List AV)} (ho : o.op = .call { callee := .builtin .len, args := #[x], argTypes := #[t] })
    (ht : elem? P t = some e) (hx : σ.ev x = .sl k xs) : PureOp P o σ (.s (.int .i64 xs.length)) := pure_len_of ho ht hx fun _ _ _ h => h.sl_inv
theorem pure_len_own {o : Oper} {σ : St} {x : Operand} {t e : TypeId} {g k off n : Nat} (ho : o.op = .call { callee := .builtin .len, args := #[x], argTypes := #[t] })
    (ht : elem? P t = some e) (hx : σ.ev x = .own g k off n) : PureOp P o σ (.s (.int .i64 n)) := pure_len_of ho ht hx fun _ _ _ h => h.own_inv

theorem pure_min {o : Oper} {σ : St} {x y : Operand} {t1 t2 : TypeId} {k k' : IntKind} {a b : Int} (ho : o.op = .call { callee := .builtin .min, args := #[x, y], argTypes := #[t1, t2] })
    (hx : σ.ev x = .s (.int k a)) (hy : σ.ev y = .s (.int k' b)) : PureOp P o σ (.s (.int k (min a b))) := by
  intro act w p hs _
  refine ⟨.int k (if b < a then b else a), by simp [execOp, ho, resolve, invoke, builtin, Builtin.min_, Builtin.min2, ev_s hs hx, ev_s hs hy], ?_⟩
  have : min a b = if b < a then b else a := by split <;> omega
  rw [this]; exact .s _
theorem pure_max {o : Oper} {σ : St} {x y : Operand} {t1 t2 : TypeId} {k k' : IntKind} {a b : Int} (ho : o.op = .call { callee := .builtin .max, args := #[x, y], argTypes := #[t1, t2] })
    (hx : σ.ev x = .s (.int k a)) (hy : σ.ev y = .s (.int k' b)) : PureOp P o σ (.s (.int k (max a b))) := by
  intro act w p hs _
  refine ⟨.int k (if b > a then b else a), by simp [execOp, ho, resolve, invoke, builtin, Builtin.max_, Builtin.max2, ev_s hs hx, ev_s hs hy], ?_⟩
  have : max a b = if b > a then b else a := by split <;> omega
  rw [this]; exact .s _

theorem pure_extract {o : Oper} {σ : St} {x : Operand} {i : Nat} {vs : List AV} {c : AV} (ho : o.op = .extract x i) (hx : σ.ev x = .tup vs) (hi : vs[i]? = some c) : PureOp P o σ c := by
  intro act w p hs _
  have := ev_rel hs x
  rw [hx] at this
  generalize hv : act.eval x = v at *
  cases this with
  | tup cs us hl h =>
    have hlt : i < us.size := by rw [← hl]; exact (List.getElem?_eq_some_iff.1 hi).1
    have e : us[i]? = some us[i] := by simp [hlt]
    exact ⟨us[i], by simp [execOp, ho, hv, Instr.extract, e], h i c _ hi e⟩

theorem pure_indexAddr_sl {o : Oper} {σ : St} {x i : Operand} {t e : TypeId} {k : Nat} {xs : List (List AV)} {c : List AV} {kd : IntKind} {n : Int} (ho : o.op = .indexAddr t x i) (ht : elem? P t = some e) (hk : cells? P e = some k)
    (hx : σ.ev x = .sl k xs) (hi : σ.ev i = .s (.int kd n)) (hn : 0 ≤ n ∧ xs[n.toNat]? = some c) : PureOp P o σ (.adr c) := by
  intro act w p hs _
  have h1 := ev_rel hs x
  rw [hx] at h1
  have e2 := ev_s hs hi
  obtain ⟨h0, hc⟩ := hn
  have hlt : n.toNat < xs.length := (List.getElem?_eq_some_iff.1 hc).1
  generalize hv : act.eval x = v at *
  cases h1 with
  | sln => simp at hlt
  | slc _ _ b off cap f hb hn' hcap hkk hcc hr =>
    refine ⟨.pointer (some ⟨b, off + n.toNat * k, none⟩), ?_, .adr c b (off + n.toNat * k) (f n.toNat) hb ((hkk c (List.mem_of_getElem? hc)).2) (fun j y hy => ?_) (fun j y hy => hr _ _ j y hc hy)⟩
    · have : n < (xs.length : Int) := by omega
      simp [execOp, ho, hv, e2, Instr.indexAt, asIntOf, run_underlying (elem?_inv ht), h0, this, run_size hk, add_at]
    · exact hcc _ _ j y hc hy

theorem pure_load_adr {o : Oper} {σ : St} {x : Operand} {t : TypeId} {cs : List AV} {c : AV} (ho : o.op = .load t x) (ht : agg? P t = some false) (hx : σ.ev x = .adr cs) (hc : cs[0]? = some c) : PureOp P o σ c := by
  intro act w p hs _
  have h1 := ev_rel hs x
  rw [hx] at h1
  generalize hv : act.eval x = v at *
  cases h1 with
  | adr _ b off f hb hkk hcc hr =>
    refine ⟨f 0, ?_, hr 0 c hc⟩
    have := hcc 0 c hc
    simp only [Nat.add_zero] at this
    simp [execOp, ho, hv, Instr.loadAt, Instr.sureAddr, loadVar, run_agg ht, this]

theorem pure_load_adrs {o : Oper} {σ : St} {x : Operand} {t : TypeId} {cs : List AV} {n : Nat} (ho : o.op = .load t x) (ht : agg? P t = some true) (hk : cells? P t = some n) (hx : σ.ev x = .adr cs) (hn : n ≤ cs.length) :
    PureOp P o σ (.agg (cs.take n)) := by
  intro act w p hs _
  have h1 := ev_rel hs x
  rw [hx] at h1
  generalize hv : act.eval x = v at *
  cases h1 with
  | adr _ b off f hb hkk hcc hr =>
    have hall : ∀ j, j < n → w.cell? ((⟨b, off, none⟩ : Addr).add j) = some (f j) := fun j hj => by
      rw [add_at]; exact hcc j cs[j] (by simp)
    refine ⟨.agg ((List.range n).map f).toArray, ?_, .agg _ _ (by simp; omega) (fun i c u hi hu => ?_)⟩
    · have := run_loadCells (P := P) (w := w) (⟨b, off, none⟩ : Addr) n f hall
      simp [execOp, ho, hv, Instr.loadAt, Instr.sureAddr, loadVar, run_agg ht, run_size hk, this]
    · rw [List.getElem?_take] at hi
      split at hi
      · rename_i hlt
        simp [hlt] at hu
        rw [← hu]; exact hr i c hi
      · cases hi


theorem field?_inv {t : TypeId} {f off : Nat} {u : TypeId} (h : field? P t f = some (off, u)) : ∃ fs fd, P.underlying t = some (.struct fs) ∧ fs[f]? = some fd ∧ fd.offset = off ∧ fd.type = u := by
  unfold field? at h
  split at h
  · rename_i fs hu
    cases hf : fs[f]? with
    | none => simp [hf] at h
    | some fd => simp [hf] at h; exact ⟨fs, fd, hu, hf, h.1, h.2⟩
  · cases h

theorem run_fieldPlace {fd : Field} {n : Nat} (hn : cells? P fd.type = some n) (h0 : n ≠ 0) (a : Addr) (w : World) : (fieldPlace a fd).run P w = .ok (a.add fd.offset) w := by
  simp [fieldPlace, run_size hn, h0]

theorem pure_fieldAddr_adr {o : Oper} {σ : St} {x : Operand} {t u : TypeId} {f off n : Nat} {cs : List AV} (ho : o.op = .fieldAddr t x f) (ht : field? P t f = some (off, u)) (hu : cells? P u = some n) (h0 : n ≠ 0)
    (hx : σ.ev x = .adr cs) : PureOp P o σ (.adr (cs.drop off)) := by
  intro act w p hs _
  obtain ⟨fs, fd, e1, e2, rfl, rfl⟩ := field?_inv ht
  have h1 := ev_rel hs x
  rw [hx] at h1
  generalize hv : act.eval x = v at *
  cases h1 with
  | adr _ b off f hb hkk hcc hr =>
    refine ⟨.pointer (some ⟨b, off + fd.offset, none⟩), by simp [execOp, ho, hv, Instr.fieldAt, Instr.sureAddr, run_underlying e1, e2, run_fieldPlace hu h0, add_at], .adr _ b _ (fun i => f (fd.offset + i)) hb (fun c hc => hkk c (List.mem_of_mem_drop hc)) (fun i c hi => ?_) (fun i c hi => ?_)⟩
    · rw [List.getElem?_drop] at hi
      rw [Nat.add_assoc]; exact hcc _ c hi
    · rw [List.getElem?_drop] at hi
      exact hr _ c hi

theorem pure_fieldAddr_ref {o : Oper} {σ : St} {x : Operand} {t u : TypeId} {f off n : Nat} {g k j i : Nat} (ho : o.op = .fieldAddr t x f) (ht : field? P t f = some (off, u)) (hu : cells? P u = some n) (h0 : n ≠ 0)
    (hx : σ.ev x = .ref g k j i) : PureOp P o σ (.ref g k j (i + off)) := by
  intro act w p hs _
  obtain ⟨fs, fd, e1, e2, rfl, rfl⟩ := field?_inv ht
  have h1 := ev_rel hs x
  rw [hx] at h1
  generalize hv : act.eval x = v at *
  cases h1 with
  | ref _ _ _ _ b hg =>
    refine ⟨.pointer (some ⟨b, j * k + (i + fd.offset), none⟩), by simp [execOp, ho, hv, Instr.fieldAt, Instr.sureAddr, run_underlying e1, e2, run_fieldPlace hu h0, add_at, Nat.add_assoc], .ref _ _ _ _ b hg⟩

theorem pure_indexAddr_own {o : Oper} {σ : St} {x i : Operand} {t e : TypeId} {g k off m : Nat} {kd : IntKind} {n : Int} (ho : o.op = .indexAddr t x i) (ht : elem? P t = some e) (hk : cells? P e = some k)
    (hx : σ.ev x = .own g k off m) (hi : σ.ev i = .s (.int kd n)) (hn : 0 ≤ n ∧ n < m) : PureOp P o σ (.ref g k (off + n.toNat) 0) := by
  intro act w p hs _
  have h1 := ev_rel hs x
  rw [hx] at h1
  have e2 := ev_s hs hi
  obtain ⟨h0, hlt⟩ := hn
  generalize hv : act.eval x = v at *
  cases h1 with
  | ownn => omega
  | own0 => omega
  | own _ _ _ _ b cap cur T hg hnc hcap hh hsz =>
    refine ⟨.pointer (some ⟨b, off * k + n.toNat * k, none⟩), ?_, ?_⟩
    · simp [execOp, ho, hv, e2, Instr.indexAt, asIntOf, run_underlying (elem?_inv ht), h0, hlt, run_size hk, add_at]
    · have : off * k + n.toNat * k = (off + n.toNat) * k + 0 := by rw [Nat.add_mul]; rfl
      rw [this]; exact .ref _ _ _ _ b hg

theorem run_part1 {t : TypeId} (ht : agg? P t = some false) {cs : Array Value} {off : Nat} {v : Value} (hv : cs[off]? = some v) (w : World) : (part t cs off).run P w = .ok v w := by
  simp [part, run_agg ht, hv]
theorem run_parts {t : TypeId} {n : Nat} (ht : agg? P t = some true) (hn : cells? P t = some n) (cs : Array Value) (off : Nat) (w : World) : (part t cs off).run P w = .ok (.agg (cs.extract off (off + n))) w := by
  simp [part, run_agg ht, run_size hn]

theorem pure_field1 {o : Oper} {σ : St} {x : Operand} {t u : TypeId} {f off : Nat} {cs : List AV} {c : AV} (ho : o.op = .field t x f) (ht : field? P t f = some (off, u)) (hu : agg? P u = some false)
    (hx : σ.ev x = .agg cs) (hc : cs[off]? = some c) : PureOp P o σ c := by
  intro act w p hs _
  obtain ⟨fs, fd, e1, e2, rfl, rfl⟩ := field?_inv ht
  have h1 := ev_rel hs x
  rw [hx] at h1
  generalize hv : act.eval x = v at *
  cases h1 with
  | agg _ us hl h =>
    have hlt : fd.offset < us.size := by rw [← hl]; exact (List.getElem?_eq_some_iff.1 hc).1
    have e : us[fd.offset]? = some us[fd.offset] := by simp [hlt]
    exact ⟨us[fd.offset], by simp [execOp, ho, hv, Instr.field, asAgg, run_underlying e1, e2, run_part1 hu e], h _ c _ hc e⟩

theorem pure_fields {o : Oper} {σ : St} {x : Operand} {t u : TypeId} {f off n : Nat} {cs : List AV} (ho : o.op = .field t x f) (ht : field? P t f = some (off, u)) (hu : agg? P u = some true) (hn : cells? P u = some n)
    (hx : σ.ev x = .agg cs) (hlen : off + n ≤ cs.length) : PureOp P o σ (.agg ((cs.drop off).take n)) := by
  intro act w p hs _
  obtain ⟨fs, fd, e1, e2, rfl, rfl⟩ := field?_inv ht
  have h1 := ev_rel hs x
  rw [hx] at h1
  generalize hv : act.eval x = v at *
  cases h1 with
  | agg _ us hl h =>
    refine ⟨.agg (us.extract fd.offset (fd.offset + n)), by simp [execOp, ho, hv, Instr.field, asAgg, run_underlying e1, e2, run_parts hu hn], .agg _ _ (by simp; omega) (fun i c v hi hv => ?_)⟩
    rw [List.getElem?_take] at hi
    split at hi
    · rename_i hlt
      rw [List.getElem?_drop] at hi
      rw [Array.getElem?_extract] at hv
      split at hv
      · exact h _ c v hi hv
      · cases hv
    · cases hi

theorem pure_index_str {o : Oper} {σ : St} {x i : Operand} {t : TypeId} {s : ByteArray} {kd : IntKind} {n : Int} {b : UInt8} (ho : o.op = .index t x i) (ht : P.underlying t = some .string)
    (hx : σ.ev x = .s (.string s)) (hi : σ.ev i = .s (.int kd n)) (hn : 0 ≤ n ∧ s.data[n.toNat]? = some b) : PureOp P o σ (.s (.int .u8 b.toNat)) := by
  intro act w p hs _
  obtain ⟨h0, hb⟩ := hn
  have hlt : n.toNat < s.size := (Array.getElem?_eq_some_iff.1 hb).1
  have e : s[n.toNat]? = some b := by
    rw [getElem?_pos s n.toNat hlt]
    obtain ⟨_, h⟩ := Array.getElem?_eq_some_iff.1 hb
    exact congrArg some h
  exact ⟨_, by simp [execOp, ho, ev_s hs hx, ev_s hs hi, Instr.index, asIntOf, run_underlying ht, h0, e], .s _⟩

theorem pure_makeFunc {o : Oper} {σ : St} {f : Nat} {l : List Operand} (ho : o.op = .makeFunc (.func f) #[] l.toArray) : PureOp P o σ (.fn f (l.map σ.ev)) := by
  intro act w p hs _
  refine ⟨.func (.func f) #[] (l.map act.eval).toArray, by simp [execOp, ho, Instr.makeFunc], .fn _ _ _ (by simp) (fun i c v hc hv => ?_)⟩
  rw [List.getElem?_map] at hc
  simp only [List.getElem?_toArray, List.getElem?_map] at hv
  cases hl : l[i]? with
  | none => simp [hl] at hc
  | some x => simp [hl] at hc hv; rw [← hc, ← hv]; exact ev_rel hs x

end Go.Abs
