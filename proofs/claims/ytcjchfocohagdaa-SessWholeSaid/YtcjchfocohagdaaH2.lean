import Derived.Test.YtcjchfocohagdaaH1
import Derived.Test.YtcjchfocohagdaaU3
import Derived.Test.YtcjchfocohagdaaS4
set_option linter.unusedVariables false
set_option linter.unusedSimpArgs false
namespace Go.Abs
open Go
theorem aeq_stF {x y : Stay} : aeqL [.int .i64, .int .i64, .int .i64, .int .i64] (stC x) (stC y) = some (decide (x = y), [], []) := by
  rw [← stC_eqF]; rfl
theorem ty_st {cs : List AV} (h : Ty (.agg [.int .i64, .int .i64, .int .i64, .int .i64]) cs) : ∃ s : Stay, cs = stC s ∧ True := by
  simp only [Ty, TyL] at h
  obtain ⟨a, b, rfl, ⟨w, rfl, _⟩, a', b', rfl, ⟨u, rfl, _⟩, a2, b2, rfl, ⟨n, rfl, _⟩, a3, b3, rfl, ⟨m, rfl, _⟩, rfl⟩ := h
  exact ⟨((w, u), (n, m)), rfl, trivial⟩
theorem ty_sts {c : AV} (h : Ty (.sl 32 (.agg [.int .i64, .int .i64, .int .i64, .int .i64])) [c]) : ∃ l : List Stay, c = .sl 4 (l.map stC) ∧ l.length * 32 ≤ 140737488351232 := by
  simp only [Ty] at h
  obtain ⟨xs, hx, _, hl, hxs⟩ := h
  obtain ⟨l, rfl, hr⟩ := ty_list stC (fun _ => True) (d := .agg [.int .i64, .int .i64, .int .i64, .int .i64]) (fun cs h => ty_st h) (xs := xs) (fun x hx => by simp only [Ty]; exact hxs x hx)
  simp only [List.cons.injEq, and_true] at hx
  exact ⟨l, hx, by simpa using hl⟩
theorem ty_st2 {cs : List AV} (h : Ty (.agg [.agg [.int .i64, .int .i64, .int .i64, .int .i64], .agg [.int .i64, .int .i64, .int .i64, .int .i64]]) cs) : ∃ a b : Stay, cs = stC a ++ stC b := by
  simp only [Ty] at h
  rw [TyL] at h
  obtain ⟨x, y, rfl, h1, h2⟩ := h
  rw [TyL] at h2
  obtain ⟨z, w, rfl, h3, h4⟩ := h2
  obtain ⟨a, rfl, _⟩ := ty_st h1
  obtain ⟨b, rfl, _⟩ := ty_st h3
  simp only [TyL] at h4
  exact ⟨a, b, by rw [h4, List.append_nil]⟩
theorem ty_sts2 {cs : List AV} (h : Ty (.agg [.sl 32 (.agg [.int .i64, .int .i64, .int .i64, .int .i64]), .sl 32 (.agg [.int .i64, .int .i64, .int .i64, .int .i64])]) cs) : ∃ l m : List Stay, cs = [.sl 4 (l.map stC), .sl 4 (m.map stC)] ∧ l.length * 32 ≤ 140737488351232 ∧ m.length * 32 ≤ 140737488351232 := by
  simp only [Ty] at h
  rw [TyL] at h
  obtain ⟨x, y, rfl, h1, h2⟩ := h
  rw [TyL] at h2
  obtain ⟨z, w, rfl, h3, h4⟩ := h2
  have e1 := ty_len h1
  have e2 := ty_len h3
  simp only [TyL] at h4
  subst h4
  match x, e1, z, e2 with
  | [c], _, [d], _ =>
    obtain ⟨l, rfl, hl⟩ := ty_sts h1
    obtain ⟨m, rfl, hm⟩ := ty_sts h3
    exact ⟨l, m, rfl, hl, hm⟩
end Go.Abs
