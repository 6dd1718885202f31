import Derived.Test.YtcjchfocohagdaaB2
import Derived.Test.YtcjchfocohagdaaS2
namespace Go.Abs
open Go
/-- What reads as two integers is a span's cells. -/
theorem ty_sp {cs : List AV} (h : Ty (.agg [.int .i64, .int .i64]) cs) : ∃ s : Sp, cs = spC s ∧ True := by
  simp only [Ty, TyL] at h
  obtain ⟨a, b, rfl, ⟨n, rfl, _⟩, a', b', rfl, ⟨m, rfl, _⟩, rfl⟩ := h
  exact ⟨(n, m), rfl, trivial⟩
theorem ty_spans {c : AV} (h : Ty (.sl 16 (.agg [.int .i64, .int .i64])) [c]) : ∃ l : List Sp, c = .sl 2 (l.map spC) ∧ l.length * 16 ≤ 140737488351232 := by
  simp only [Ty] at h
  obtain ⟨xs, hx, _, hl, hxs⟩ := h
  obtain ⟨l, rfl, _⟩ := ty_list spC (fun _ => True) (d := .agg [.int .i64, .int .i64]) (fun cs h => ty_sp h) (xs := xs) (fun x hx => by simp only [Ty]; exact hxs x hx)
  simp only [List.cons.injEq, and_true] at hx
  exact ⟨l, hx, by simpa using hl⟩
theorem ty_spanss {c : AV} (h : Ty (.sl 24 (.sl 16 (.agg [.int .i64, .int .i64]))) [c]) : ∃ l : List (List Sp), c = .sl 1 (l.map fun r => [.sl 2 (r.map spC)]) ∧ l.length * 24 ≤ 140737488351232 ∧ ∀ r ∈ l, r.length * 16 ≤ 140737488351232 := by
  simp only [Ty] at h
  obtain ⟨xs, hx, _, hl, hxs⟩ := h
  obtain ⟨l, rfl, hr⟩ := ty_list (fun r : List Sp => [AV.sl 2 (r.map spC)]) (fun r => r.length * 16 ≤ 140737488351232) (d := .sl 16 (.agg [.int .i64, .int .i64])) (fun cs h => by
    have h1 := ty_len h
    match cs, h1 with
    | [c], _ => obtain ⟨l, e, hl⟩ := ty_spans h; exact ⟨l, by rw [e], hl⟩) (xs := xs) (fun x hx => by simp only [Ty]; exact hxs x hx)
  simp only [List.cons.injEq, and_true] at hx
  exact ⟨l, hx, by simpa using hl, hr⟩
theorem ty_int {c : AV} (h : Ty (.int .i64) [c]) : ∃ n : Int, c = .s (.int .i64 n) ∧ -9223372036854775808 ≤ n ∧ n ≤ 9223372036854775807 := by
  simp only [Ty] at h
  obtain ⟨n, hx, hw⟩ := h
  simp only [List.cons.injEq, and_true] at hx
  exact ⟨n, hx, wf_i64 hw⟩
theorem ty_str {c : AV} (h : Ty .str [c]) : ∃ s : ByteArray, c = .s (.string s) ∧ s.size ≤ 140737488351232 := by
  simp only [Ty] at h
  obtain ⟨s, hx, hw⟩ := h
  simp only [List.cons.injEq, and_true] at hx
  exact ⟨s, hx, hw⟩
theorem ty_pair {cs : List AV} (h : Ty (.agg [.str, .str]) cs) : ∃ a b : ByteArray, cs = [.s (.string a), .s (.string b)] ∧ a.size ≤ 140737488351232 ∧ b.size ≤ 140737488351232 := by
  simp only [Ty, TyL] at h
  obtain ⟨a, b, rfl, ⟨n, rfl, hn⟩, a', b', rfl, ⟨m, rfl, hm⟩, rfl⟩ := h
  exact ⟨n, m, rfl, hn, hm⟩
theorem ty_spans2 {cs : List AV} (h : Ty (.agg [.sl 16 (.agg [.int .i64, .int .i64]), .sl 16 (.agg [.int .i64, .int .i64])]) cs) : ∃ l m : List Sp, cs = [.sl 2 (l.map spC), .sl 2 (m.map spC)] ∧ l.length * 16 ≤ 140737488351232 ∧ m.length * 16 ≤ 140737488351232 := by
  simp only [Ty] at h
  rw [TyL] at h
  obtain ⟨x, y, rfl, h1, h2⟩ := h
  rw [TyL] at h2
  obtain ⟨z, w, rfl, h3, h4⟩ := h2
  have e1 := ty_len h1
  have e2 := ty_len h3
  simp only [TyL] at h4
  subst h4
  match x, e1, z, e2 with
  | [c], _, [d], _ =>
    obtain ⟨l, rfl, hl⟩ := ty_spans h1
    obtain ⟨m, rfl, hm⟩ := ty_spans h3
    exact ⟨l, m, rfl, hl, hm⟩
end Go.Abs
