import Derived.Test.YtcjchfocohagdaaS2
set_option linter.unusedSimpArgs false
namespace Go.Abs
theorem flat2 (a b : List Sp) (t : Int) : hasB (List.flatten [a, b]) t = (hasB a t || hasB b t) := by
  simp [hasB_append, hasB_nil]
theorem meet_comm (a b : List Sp) : meetL b a = meetL a b :=
  norm_ext _ _ (meet_spec b a).1 (meet_spec a b).1 fun t => by rw [(meet_spec b a).2, (meet_spec a b).2, Bool.and_comm]
theorem parts_join (a b : List Sp) : normL (List.flatten [meetL a b, lessL a b]) = normL a :=
  norm_congr fun t => by rw [flat2, (meet_spec a b).2, (less_spec a b).2]; cases hasB a t <;> cases hasB b t <;> rfl
theorem parts_none (a b : List Sp) : meetL (lessL a b) b = [] :=
  norm_ext _ _ (meet_spec _ _).1 ⟨by simp, by simp⟩ fun t => by rw [(meet_spec _ _).2, (less_spec _ _).2, hasB_nil]; cases hasB a t <;> cases hasB b t <;> rfl
theorem less_again (a b : List Sp) : lessL (lessL a b) b = lessL a b :=
  norm_ext _ _ (less_spec _ _).1 (less_spec _ _).1 fun t => by rw [(less_spec _ _).2, (less_spec _ _).2]; cases hasB a t <;> cases hasB b t <;> rfl
theorem norm_again (a : List Sp) : normL (normL a) = normL a := norm_congr fun t => (norm_spec a).2 t
theorem spread_meet (a b c : List Sp) : meetL (normL (List.flatten [a, b])) c = normL (List.flatten [meetL a c, meetL b c]) :=
  norm_ext _ _ (meet_spec _ _).1 (norm_spec _).1 fun t => by
    rw [(meet_spec _ _).2, (norm_spec _).2, (norm_spec _).2, flat2, flat2, (meet_spec _ _).2, (meet_spec _ _).2]; cases hasB a t <;> cases hasB b t <;> cases hasB c t <;> rfl
theorem spread_less (a b c : List Sp) : lessL (normL (List.flatten [a, b])) c = normL (List.flatten [lessL a c, lessL b c]) :=
  norm_ext _ _ (less_spec _ _).1 (norm_spec _).1 fun t => by
    rw [(less_spec _ _).2, (norm_spec _).2, (norm_spec _).2, flat2, flat2, (less_spec _ _).2, (less_spec _ _).2]; cases hasB a t <;> cases hasB b t <;> cases hasB c t <;> rfl
theorem less_join (a b c : List Sp) : lessL a (normL (List.flatten [b, c])) = lessL (lessL a b) c :=
  norm_ext _ _ (less_spec _ _).1 (less_spec _ _).1 fun t => by
    rw [(less_spec _ _).2, (less_spec _ _).2, (less_spec _ _).2, (norm_spec _).2, flat2]; cases hasB a t <;> cases hasB b t <;> cases hasB c t <;> rfl
theorem join_rev (rows : List (List Sp)) : normL rows.reverse.flatten = normL rows.flatten :=
  norm_congr fun t => hasB_eq ⟨fun ⟨s, hs, h⟩ => ⟨s, by simpa using hs, h⟩, fun ⟨s, hs, h⟩ => ⟨s, by simpa using hs, h⟩⟩
/-- moved -/
def moveL (d : Int) (l : List Sp) : List Sp := l.map fun s => (s.1 + d, s.2 + d)
theorem move_has (d : Int) (l : List Sp) (t : Int) : hasB (moveL d l) t = hasB l (t - d) := by
  rw [Bool.eq_iff_iff, hasB_iff, hasB_iff]
  constructor
  · rintro ⟨s, hs, h1, h2⟩
    simp only [moveL, List.mem_map] at hs
    obtain ⟨x, hx, rfl⟩ := hs
    simp only at h1 h2
    exact ⟨x, hx, by omega, by omega⟩
  · rintro ⟨s, hs, h1, h2⟩
    exact ⟨(s.1 + d, s.2 + d), List.mem_map.2 ⟨s, hs, rfl⟩, by simp only; omega, by simp only; omega⟩
theorem move_norm {d : Int} {l : List Sp} (h : NormP l) : NormP (moveL d l) := by
  refine ⟨fun s hs => ?_, ?_⟩
  · simp only [moveL, List.mem_map] at hs
    obtain ⟨x, hx, rfl⟩ := hs
    have := h.1 x hx
    simp only; omega
  · rw [moveL, List.pairwise_map]
    exact h.2.imp fun h => by omega
theorem norm_move (d : Int) (l : List Sp) : normL (moveL d l) = moveL d (normL l) :=
  norm_of (move_norm (norm_spec l).1) fun t => by rw [move_has, move_has, (norm_spec l).2]
theorem meet_move (d : Int) (a b : List Sp) : meetL (moveL d a) (moveL d b) = moveL d (meetL a b) :=
  norm_ext _ _ (meet_spec _ _).1 (move_norm (meet_spec _ _).1) fun t => by rw [(meet_spec _ _).2, move_has, move_has, move_has, (meet_spec _ _).2]
theorem less_move (d : Int) (a b : List Sp) : lessL (moveL d a) (moveL d b) = moveL d (lessL a b) :=
  norm_ext _ _ (less_spec _ _).1 (move_norm (less_spec _ _).1) fun t => by rw [(less_spec _ _).2, move_has, move_has, move_has, (less_spec _ _).2]
/-- The ends of what pieces make are ends of what was given. -/
def within (e : List Int) (l : List Sp) : Prop := ∀ s ∈ l, s.1 ∈ e ∧ s.2 ∈ e
theorem glue_within {e : List Int} {out : List Sp} {s : Sp} (h : within e out) (h1 : s.1 ∈ e) (h2 : s.2 ∈ e) : within e (glueL out s) := by
  rcases List.eq_nil_or_concat out with rfl | ⟨i, x, rfl⟩
  · intro y hy; simp [glueL] at hy; subst hy; exact ⟨h1, h2⟩
  · rw [List.concat_eq_append] at *
    have hx := h x (by simp)
    simp only [glueL, List.getLast?_append, List.getLast?_singleton, Option.some_or, List.dropLast_concat]
    split
    · intro y hy
      rcases List.mem_append.1 hy with hy | hy
      · exact h y (by simp [hy])
      · simp at hy; subst hy; exact ⟨hx.1, h2⟩
    · intro y hy
      rcases List.mem_append.1 hy with hy | hy
      · exact h y hy
      · simp at hy; subst hy; exact ⟨h1, h2⟩
theorem pieces_within (p : Int → Bool) {e : List Int} : ∀ (r : List Int) (out : List Sp), (∀ x ∈ r, x ∈ e) → within e out → within e (piecesL p out r)
  | [], out, _, h => h
  | [a], out, _, h => h
  | a :: b :: r, out, hr, h => by
    simp only [piecesL]
    refine pieces_within p (b :: r) _ (fun x hx => hr x (by simp [hx])) ?_
    split
    · exact glue_within h (hr a (by simp)) (hr b (by simp))
    · exact h
theorem norm_within (l : List Sp) : within (endsL l) (normL l) := pieces_within _ _ _ (fun _ h => h) (fun _ h => by simp at h)
theorem meet_within (a b : List Sp) : within (endsL (a ++ b)) (meetL a b) := pieces_within _ _ _ (fun _ h => h) (fun _ h => by simp at h)
theorem less_within (a b : List Sp) : within (endsL (a ++ b)) (lessL a b) := pieces_within _ _ _ (fun _ h => h) (fun _ h => by simp at h)
end Go.Abs
