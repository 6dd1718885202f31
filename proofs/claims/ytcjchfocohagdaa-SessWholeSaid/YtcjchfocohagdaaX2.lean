import Derived.Test.YtcjchfocohagdaaS4
import Derived.Test.YtcjchfocohagdaaX1
import Derived.Test.YtcjchfocohagdaaH2
set_option linter.unusedVariables false
namespace Go.Abs
open Go
theorem ty_se {cs : List AV} (h : Ty (.agg [.int .i64, .str, .int .i64, .int .i64]) cs) : ∃ e : Se, cs = seC e ∧ TS e.1.2 := by
  simp only [Ty, TyL] at h
  obtain ⟨a, b, rfl, ⟨n, rfl, _⟩, a', b', rfl, ⟨u, rfl, hu⟩, a2, b2, rfl, ⟨w, rfl, _⟩, a3, b3, rfl, ⟨m, rfl, _⟩, rfl⟩ := h
  exact ⟨((n, u), (w, m)), rfl, Nat.le_trans hu (by decide)⟩
theorem ty_ses {c : AV} (h : Ty (.sl 40 (.agg [.int .i64, .str, .int .i64, .int .i64])) [c]) : ∃ l : List Se, c = .sl 4 (l.map seC) ∧ l.length * 40 ≤ 140737488351232 ∧ ∀ e ∈ l, TS e.1.2 := by
  simp only [Ty] at h
  obtain ⟨xs, hx, _, hl, hxs⟩ := h
  obtain ⟨l, rfl, hr⟩ := ty_list seC (fun e => TS e.1.2) (d := .agg [.int .i64, .str, .int .i64, .int .i64]) (fun cs h => ty_se h) (xs := xs) (fun x hx => by simp only [Ty]; exact hxs x hx)
  simp only [List.cons.injEq, and_true] at hx
  exact ⟨l, hx, by simpa using hl, hr⟩
theorem ty_ses2 {cs : List AV} (h : Ty (.agg [.sl 40 (.agg [.int .i64, .str, .int .i64, .int .i64]), .sl 40 (.agg [.int .i64, .str, .int .i64, .int .i64])]) cs) : ∃ l m : List Se, cs = [.sl 4 (l.map seC), .sl 4 (m.map seC)] ∧ (l.length * 40 ≤ 140737488351232 ∧ ∀ e ∈ l, TS e.1.2) ∧ (m.length * 40 ≤ 140737488351232 ∧ ∀ e ∈ m, TS e.1.2) := by
  simp only [Ty] at h
  rw [TyL] at h
  obtain ⟨x, y, rfl, h1, h2⟩ := h
  rw [TyL] at h2
  obtain ⟨z, w, rfl, h3, h4⟩ := h2
  have e1 := ty_len h1
  have e2 := ty_len h3
  simp only [TyL] at h4
  subst h4
  match x, e1, z, e2 with
  | [c], _, [d], _ =>
    obtain ⟨l, rfl, hl⟩ := ty_ses h1
    obtain ⟨m, rfl, hm⟩ := ty_ses h3
    exact ⟨l, m, rfl, hl, hm⟩
/-- One is left out. -/
theorem er_ne {l : List Se} {k n : Nat} (hk : k < l.length) (h : k ≠ n) : (l.take (k + 1)).eraseIdx n = (l.take k).eraseIdx n ++ [l[k]] := by
  rw [List.take_succ_eq_append_getElem hk]
  have hl : (l.take k).length = k := by rw [List.length_take]; omega
  by_cases hn : n < k
  · rw [List.eraseIdx_append_of_lt_length (by omega)]
  · rw [List.eraseIdx_of_length_le (by simp only [List.length_append, List.length_cons, List.length_nil]; omega), List.eraseIdx_of_length_le (by omega)]
theorem er_eq {l : List Se} {k : Nat} (hk : k < l.length) : (l.take (k + 1)).eraseIdx k = (l.take k).eraseIdx k := by
  rw [List.take_succ_eq_append_getElem hk]
  have hl : (l.take k).length = k := by rw [List.length_take]; omega
  rw [List.eraseIdx_append_of_length_le (by omega), hl, Nat.sub_self, List.eraseIdx_of_length_le (show (List.take k l).length ≤ k by omega)]
  simp
theorem er_le (l : List Se) (n : Nat) : (l.eraseIdx n).length ≤ l.length := by
  rw [List.length_eraseIdx]; split <;> omega
theorem er_end (l : List Se) (n : Nat) : l.eraseIdx n = l.take n ++ l.drop (n + 1) := List.eraseIdx_eq_take_drop_succ l n
/-- What the three make, in one row each. -/
abbrev opnR (l : List Se) (e : Se) : List Se := if opnS l e = 0 then opnL l e else []
abbrev chgR (l : List Se) (n : Int) (u : ByteArray) (st t : Int) : List Se := if codeS l n u = 0 then chgL l n st t else []
abbrev clsR (l : List Se) (n : Int) (u : ByteArray) : List Se := if codeS l n u = 0 then clsL l n else []
abbrev fndR (l : List Se) (n : Int) (u : ByteArray) : Se := if codeS l n u = 0 then fndL l n else se0
abbrev stR (l : List Se) (n : Int) (u : ByteArray) (t : Int) : Stay := if codeS l n u = 0 then stayOf (fndL l n) t else st0
theorem chg_len (n st t : Int) : ∀ l : List Se, (chgL l n st t).length = l.length
  | [] => rfl
  | e :: l => by rw [chgL]; split <;> simp [chg_len n st t l]
theorem cls_len (n : Int) : ∀ l : List Se, (clsL l n).length ≤ l.length
  | [] => Nat.le_refl _
  | e :: l => by
    rw [clsL]; split
    · simp
    · have := cls_len n l; simp only [List.length_cons]; omega
theorem opnR_len (l : List Se) (e : Se) : (opnR l e).length ≤ l.length + 1 := by
  unfold opnR; split
  · rw [opnL, insG_len]; omega
  · simp
theorem chgR_len (l : List Se) (n : Int) (u : ByteArray) (st t : Int) : (chgR l n u st t).length ≤ l.length := by
  unfold chgR; split
  · rw [chg_len]; omega
  · simp
theorem clsR_len (l : List Se) (n : Int) (u : ByteArray) : (clsR l n u).length ≤ l.length := by
  unfold clsR; split
  · exact cls_len n l
  · simp
theorem fnd_at {l : List Se} {n : Int} {u : ByteArray} {k : Nat} (hk : k < l.length) (h1 : isN n l[k] = true) (h2 : l[k].1.2 = u) (h3 : ∀ (j : Nat) (hj : j < l.length), j < k → isN n l[j] = false) : codeS l n u = 0 ∧ fndL l n = l[k] ∧ l[k].1 = (n, u) := by
  obtain ⟨e1, e2, e3, _⟩ := at_here n u 0 0 l k hk h3 h1
  simp only [isN, decide_eq_true_eq] at h1
  exact ⟨by rw [e3, if_pos h2], e2, Prod.ext h1 h2⟩
theorem aeq_seE {x y : Se} (h : x = y) : aeqL [.int .i64, .str, .int .i64, .int .i64] (seC x) (seC y) = some (true, [], []) := by
  rw [aeq_se, h]; simp
theorem aeq_stE {x y : Stay} (h : x = y) : aeqL [.int .i64, .int .i64, .int .i64, .int .i64] (stC x) (stC y) = some (true, [], []) := by
  rw [aeq_stF, h]; simp
theorem opn_has {l : List Se} {e : Se} (h : opnS l e = 0) : hasN l e.1.1 = false := by
  unfold opnS at h
  split at h
  · omega
  · rename_i hn; simpa using hn
theorem opnR_ts {l : List Se} {e : Se} (ht : ∀ x ∈ l, TS x.1.2) (he : TS e.1.2) : ∀ x ∈ opnR l e, TS x.1.2 := by
  intro x hx
  unfold opnR at hx
  split at hx
  · rcases insG_mem.1 hx with rfl | hx
    · exact he
    · exact ht x hx
  · simp at hx
theorem opn_risR {l : List Se} {e : Se} (h0 : opnS l e = 0) (h : risX l = true) (he : risX [e] = true) : risX (opnR l e) = true := by
  rw [opnR, if_pos h0]; exact opn_ris h he h0
theorem back10 {l : List Se} {e : Se} (h : opnS l e = 0) : clsR (opnR l e) e.1.1 e.1.2 = l ∧ stR (opnR l e) e.1.1 e.1.2 e.2.2 = stayOf e e.2.2 ∧ codeS (opnR l e) e.1.1 e.1.2 = 0 := by
  obtain ⟨e1, e2, e3⟩ := opn_cls (opn_has h)
  rw [opnR, if_pos h]
  exact ⟨by rw [clsR, if_pos e2, e1], by rw [stR, if_pos e2, e3], e2⟩
theorem oth_opnR {l : List Se} {w : Se} {n : Int} {u : ByteArray} (hn : n ≠ w.1.1) (h : opnS l w = 0) : fndR (opnR l w) n u = fndR l n u ∧ codeS (opnR l w) n u = codeS l n u := by
  obtain ⟨e1, e2⟩ := oth_opn (u := u) hn l
  rw [opnR, if_pos h, fndR, fndR, e1, e2]; exact ⟨rfl, rfl⟩
theorem oth_chgR {l : List Se} {m st t : Int} {v : ByteArray} {n : Int} {u : ByteArray} (hn : n ≠ m) (h : codeS l m v = 0) : fndR (chgR l m v st t) n u = fndR l n u ∧ codeS (chgR l m v st t) n u = codeS l n u := by
  obtain ⟨e1, e2⟩ := oth_chg (st := st) (t := t) (u := u) hn l
  rw [chgR, if_pos h, fndR, fndR, e1, e2]; exact ⟨rfl, rfl⟩
theorem oth_clsR {l : List Se} {m : Int} {v : ByteArray} {n : Int} {u : ByteArray} (hn : n ≠ m) (h : codeS l m v = 0) : fndR (clsR l m v) n u = fndR l n u ∧ codeS (clsR l m v) n u = codeS l n u := by
  obtain ⟨e1, e2⟩ := oth_cls (u := u) hn l
  rw [clsR, if_pos h, fndR, fndR, e1, e2]; exact ⟨rfl, rfl⟩
end Go.Abs
