import Derived.Test.YtblbkjdfgpffpaaS4
import Derived.Test.YtblbkjdfgpffpaaU2
set_option linter.unusedVariables false
namespace Go.Abs
open Go
theorem ty_ent {cs : List AV} (h : Ty (.agg [.str, .str, .int .i64, .int .i64]) cs) : ∃ e : En, cs = enC e ∧ (TS e.1.1 ∧ TS e.1.2) := by
  simp only [Ty, TyL] at h
  obtain ⟨a, b, rfl, ⟨w, rfl, hw⟩, a', b', rfl, ⟨u, rfl, hu⟩, a2, b2, rfl, ⟨n, rfl, _⟩, a3, b3, rfl, ⟨m, rfl, _⟩, rfl⟩ := h
  exact ⟨((w, u), (n, m)), rfl, Nat.le_trans hw (by decide), Nat.le_trans hu (by decide)⟩
theorem ty_ents {c : AV} (h : Ty (.sl 48 (.agg [.str, .str, .int .i64, .int .i64])) [c]) : ∃ l : List En, c = .sl 4 (l.map enC) ∧ l.length * 48 ≤ 140737488351232 ∧ ∀ e ∈ l, TS e.1.1 ∧ TS e.1.2 := by
  simp only [Ty] at h
  obtain ⟨xs, hx, _, hl, hxs⟩ := h
  obtain ⟨l, rfl, hr⟩ := ty_list enC (fun e => TS e.1.1 ∧ TS e.1.2) (d := .agg [.str, .str, .int .i64, .int .i64]) (fun cs h => ty_ent h) (xs := xs) (fun x hx => by simp only [Ty]; exact hxs x hx)
  simp only [List.cons.injEq, and_true] at hx
  exact ⟨l, hx, by simpa using hl, hr⟩
theorem ty_pair2 {cs : List AV} (h : Ty (.agg [.agg [.str, .str], .agg [.str, .str]]) cs) : ∃ p q : Pr, cs = prC p ++ prC q ∧ (TS p.1 ∧ TS p.2) ∧ (TS q.1 ∧ TS q.2) := by
  simp only [Ty, TyL] at h
  obtain ⟨_, _, rfl, ⟨_, _, rfl, ⟨a, rfl, ha⟩, _, _, rfl, ⟨b, rfl, hb⟩, rfl⟩, _, _, rfl, ⟨_, _, rfl, ⟨c, rfl, hc⟩, _, _, rfl, ⟨d, rfl, hd⟩, rfl⟩, rfl⟩ := h
  exact ⟨(a, b), (c, d), rfl, ⟨Nat.le_trans ha (by decide), Nat.le_trans hb (by decide)⟩, Nat.le_trans hc (by decide), Nat.le_trans hd (by decide)⟩
end Go.Abs
