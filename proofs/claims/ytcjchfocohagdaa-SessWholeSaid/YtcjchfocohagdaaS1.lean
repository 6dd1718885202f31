namespace Go.Abs

/-- A span: from, to. -/
abbrev Sp := Int × Int
/-- Has any of them a time? -/
def hasB (l : List Sp) (t : Int) : Bool := l.any fun s => decide (s.1 ≤ t) && decide (t < s.2)
theorem hasB_iff {l : List Sp} {t : Int} : hasB l t = true ↔ ∃ s ∈ l, s.1 ≤ t ∧ t < s.2 := by
  simp [hasB]
theorem hasB_append (a b : List Sp) (t : Int) : hasB (a ++ b) t = (hasB a t || hasB b t) := by simp [hasB]
theorem hasB_cons (s : Sp) (l : List Sp) (t : Int) : hasB (s :: l) t = ((decide (s.1 ≤ t) && decide (t < s.2)) || hasB l t) := rfl
theorem hasB_nil (t : Int) : hasB [] t = false := rfl
theorem hasB_eq {a b : List Sp} {t : Int} (h : (∃ s ∈ a, s.1 ≤ t ∧ t < s.2) ↔ (∃ s ∈ b, s.1 ≤ t ∧ t < s.2)) : hasB a t = hasB b t := by
  rw [Bool.eq_iff_iff, hasB_iff, hasB_iff]; exact h

/-- They rise, have time, and do not touch. -/
def NormP (l : List Sp) : Prop := (∀ s ∈ l, s.1 < s.2) ∧ l.Pairwise (fun a b => a.2 < b.1)

theorem norm_tail {x : Sp} {l : List Sp} (h : NormP (x :: l)) : NormP l := ⟨fun s hs => h.1 s (by simp [hs]), (List.pairwise_cons.1 h.2).2⟩
theorem norm_head {x : Sp} {l : List Sp} (h : NormP (x :: l)) : x.1 < x.2 ∧ ∀ s ∈ l, x.2 < s.1 := ⟨h.1 x (by simp), (List.pairwise_cons.1 h.2).1⟩
theorem norm_low {x : Sp} {l : List Sp} (h : NormP (x :: l)) {t : Int} (ht : hasB (x :: l) t = true) : x.1 ≤ t := by
  obtain ⟨s, hs, h1, h2⟩ := hasB_iff.1 ht
  rcases List.mem_cons.1 hs with rfl | hs
  · exact h1
  · have := (norm_head h).2 s hs
    have := (norm_head h).1
    omega

theorem norm_ext : ∀ (a b : List Sp), NormP a → NormP b → (∀ t, hasB a t = hasB b t) → a = b
  | [], [], _, _, _ => rfl
  | [], y :: ys, _, hb, h => by
    have h1 := h y.1
    have h2 : hasB (y :: ys) y.1 = true := hasB_iff.2 ⟨y, by simp, Int.le_refl _, (norm_head hb).1⟩
    rw [h2] at h1
    cases h1
  | x :: xs, [], ha, _, h => by
    have h1 := h x.1
    have h2 : hasB (x :: xs) x.1 = true := hasB_iff.2 ⟨x, by simp, Int.le_refl _, (norm_head ha).1⟩
    rw [h2] at h1
    cases h1
  | x :: xs, y :: ys, ha, hb, h => by
    have hx : hasB (x :: xs) x.1 = true := hasB_iff.2 ⟨x, by simp, Int.le_refl _, (norm_head ha).1⟩
    have hy : hasB (y :: ys) y.1 = true := hasB_iff.2 ⟨y, by simp, Int.le_refl _, (norm_head hb).1⟩
    have e1 : x.1 = y.1 := by
      have h1 := norm_low hb (by rw [← h]; exact hx)
      have h2 := norm_low ha (by rw [h]; exact hy)
      omega
    have key : ∀ (x y : Sp) (xs ys : List Sp), NormP (x :: xs) → NormP (y :: ys) → x.1 = y.1 → (∀ t, hasB (x :: xs) t = hasB (y :: ys) t) → ¬ x.2 < y.2 := by
      intro x y xs ys ha hb e h hlt
      have h1 := (norm_head ha).1
      have h2 : hasB (y :: ys) x.2 = true := hasB_iff.2 ⟨y, by simp, by omega, hlt⟩
      rw [← h] at h2
      obtain ⟨s, hs, h3, h4⟩ := hasB_iff.1 h2
      rcases List.mem_cons.1 hs with rfl | hs
      · omega
      · have := (norm_head ha).2 s hs
        omega
    have e2 : x.2 = y.2 := by
      have h1 := key x y xs ys ha hb e1 h
      have h2 := key y x ys xs hb ha e1.symm (fun t => (h t).symm)
      omega
    have exy : x = y := Prod.ext e1 e2
    subst exy
    refine congrArg (x :: ·) (norm_ext xs ys (norm_tail ha) (norm_tail hb) fun t => ?_)
    have low : ∀ l, NormP (x :: l) → t < x.2 → hasB l t = false := by
      intro l hl ht
      cases hq : hasB l t with
      | false => rfl
      | true =>
        obtain ⟨s, hs, h3, h4⟩ := hasB_iff.1 hq
        have := (norm_head hl).2 s hs
        omega
    by_cases ht : t < x.2
    · rw [low xs ha ht, low ys hb ht]
    · have := h t
      simpa [hasB_cons, ht] using this

/-! pieces between ends -/
def glueL (out : List Sp) (s : Sp) : List Sp := match out.getLast? with
  | some x => if x.2 = s.1 then out.dropLast ++ [(x.1, s.2)] else out ++ [s]
  | none => [s]
def piecesL (p : Int → Bool) : List Sp → List Int → List Sp
  | out, a :: b :: r => piecesL p (if p a = true then glueL out (a, b) else out) (b :: r)
  | out, _ => out
def inP (p : Int → Bool) : List Int → Int → Bool
  | a :: b :: r, t => (p a && decide (a ≤ t) && decide (t < b)) || inP p (b :: r) t
  | _, _ => false
def Rises (e : List Int) : Prop := e.Pairwise (· < ·)

theorem glue_ok {out : List Sp} {a b : Int} (h : NormP out) (ha : ∀ s ∈ out, s.2 ≤ a) (hab : a < b) :
    NormP (glueL out (a, b)) ∧ (∀ s ∈ glueL out (a, b), s.2 ≤ b) ∧ ∀ t, hasB (glueL out (a, b)) t = (hasB out t || (decide (a ≤ t) && decide (t < b))) := by
  rcases List.eq_nil_or_concat out with rfl | ⟨i, x, rfl⟩
  · refine ⟨⟨by simp [glueL]; exact hab, by simp [glueL]⟩, by simp [glueL], fun t => by simp [glueL, hasB]⟩
  · rw [List.concat_eq_append] at *
    have hx1 := h.1 x (by simp)
    have hx2 := ha x (by simp)
    have hp := List.pairwise_append.1 h.2
    simp only [glueL, List.getLast?_append, List.getLast?_singleton, Option.some_or, List.dropLast_concat]
    split
    · rename_i e
      refine ⟨⟨fun s hs => ?_, ?_⟩, fun s hs => ?_, fun t => ?_⟩
      · rcases List.mem_append.1 hs with hs | hs
        · exact h.1 s (by simp [hs])
        · simp at hs; subst hs; simp only; omega
      · refine List.pairwise_append.2 ⟨hp.1, by simp, fun s hs y hy => ?_⟩
        simp at hy; subst hy
        exact hp.2.2 s hs x (by simp)
      · rcases List.mem_append.1 hs with hs | hs
        · have := ha s (by simp [hs]); omega
        · simp at hs; subst hs; simp
      · simp only [hasB_append, hasB_cons, hasB_nil, Bool.or_false, Bool.or_assoc]
        congr 1
        rw [Bool.eq_iff_iff]
        simp
        omega
    · refine ⟨⟨fun s hs => ?_, ?_⟩, fun s hs => ?_, fun t => ?_⟩
      · rcases List.mem_append.1 hs with hs | hs
        · exact h.1 s hs
        · simp at hs; subst hs; exact hab
      · refine List.pairwise_append.2 ⟨h.2, by simp, fun s hs y hy => ?_⟩
        simp at hy; subst hy
        rename_i hne
        rcases List.mem_append.1 hs with hs | hs
        · have := hp.2.2 s hs x (by simp); omega
        · simp at hs; subst hs; omega
      · rcases List.mem_append.1 hs with hs | hs
        · have := ha s hs; omega
        · simp at hs; subst hs; simp
      · simp [hasB_append, hasB_cons, hasB_nil, Bool.or_assoc]

theorem pieces_ok (p : Int → Bool) : ∀ (e : List Int) (out : List Sp), Rises e → NormP out → (∀ a, e.head? = some a → ∀ s ∈ out, s.2 ≤ a) →
    NormP (piecesL p out e) ∧ ∀ t, hasB (piecesL p out e) t = (hasB out t || inP p e t)
  | [], out, _, h, _ => ⟨h, fun t => by simp [piecesL, inP]⟩
  | [a], out, _, h, _ => ⟨h, fun t => by simp [piecesL, inP]⟩
  | a :: b :: r, out, he, h, ha => by
    have hab : a < b := (List.pairwise_cons.1 he).1 b (by simp)
    have hr : Rises (b :: r) := (List.pairwise_cons.1 he).2
    have ha' := ha a rfl
    simp only [piecesL, inP]
    by_cases hp : p a = true
    · rw [if_pos hp]
      obtain ⟨g1, g2, g3⟩ := glue_ok h ha' hab
      obtain ⟨i1, i2⟩ := pieces_ok p (b :: r) (glueL out (a, b)) hr g1 (fun c hc s hs => by cases hc; exact g2 s hs)
      refine ⟨i1, fun t => ?_⟩
      rw [i2, g3, hp]
      simp [Bool.or_assoc]
    · rw [if_neg hp]
      obtain ⟨i1, i2⟩ := pieces_ok p (b :: r) out hr h (fun c hc s hs => by cases hc; have := ha' s hs; omega)
      refine ⟨i1, fun t => ?_⟩
      rw [i2]
      simp [hp]

theorem inP_low (p : Int → Bool) : ∀ (e : List Int) (t : Int), Rises e → (∀ a, e.head? = some a → t < a) → inP p e t = false
  | [], t, _, _ => rfl
  | [a], t, _, _ => rfl
  | a :: b :: r, t, he, h => by
    have hab : a < b := (List.pairwise_cons.1 he).1 b (by simp)
    have ht : t < a := h a rfl
    simp only [inP]
    rw [inP_low p (b :: r) t (List.pairwise_cons.1 he).2 (fun c hc => by cases hc; omega)]
    have : ¬ a ≤ t := by omega
    simp [this]

theorem inP_eq (p : Int → Bool) : ∀ (r : List Int) (a : Int), Rises (a :: r) → (∀ t t', a ≤ t → t ≤ t' → (∀ x ∈ r, ¬ (t < x ∧ x ≤ t')) → p t = p t') → (∀ t, (∀ x ∈ a :: r, x ≤ t) → p t = false) →
    ∀ t, a ≤ t → inP p (a :: r) t = p t
  | [], a, _, _, h2, t, ht => by rw [h2 t (by simpa using ht)]; rfl
  | b :: r, a, he, h1, h2, t, ht => by
    have hab : a < b := (List.pairwise_cons.1 he).1 b (by simp)
    have hr : Rises (b :: r) := (List.pairwise_cons.1 he).2
    simp only [inP]
    by_cases htb : t < b
    · rw [inP_low p (b :: r) t hr (fun c hc => by cases hc; exact htb)]
      have : p a = p t := h1 a t (Int.le_refl _) ht (fun x hx h => by
        rcases List.mem_cons.1 hx with rfl | hx
        · omega
        · have := (List.pairwise_cons.1 hr).1 x hx
          omega)
      simp [this, ht, htb]
    · rw [inP_eq p r b hr (fun t t' ht' htt hx => h1 t t' (by omega) htt (fun x hx' h => by
        rcases List.mem_cons.1 hx' with rfl | hx'
        · omega
        · exact hx x hx' h)) (fun t ht' => h2 t (fun x hx => by
        rcases List.mem_cons.1 hx with rfl | hx
        · have := ht' b (by simp); omega
        · exact ht' x hx)) t (by omega)]
      simp [htb]

/-! ends -/
def putN : List Int → Int → List Int
  | [], n => [n]
  | x :: r, n => if n < x then n :: x :: r else if x = n then x :: r else x :: putN r n
theorem putN_mem : ∀ (l : List Int) (n x : Int), x ∈ putN l n ↔ x = n ∨ x ∈ l
  | [], n, x => by simp [putN]
  | y :: r, n, x => by
    simp only [putN]
    split
    · simp
    · split
      · rename_i h; subst h; simp
      · simp only [List.mem_cons, putN_mem r n x]
        constructor
        · rintro (h | h | h)
          · exact .inr (.inl h)
          · exact .inl h
          · exact .inr (.inr h)
        · rintro (h | h | h)
          · exact .inr (.inl h)
          · exact .inl h
          · exact .inr (.inr h)
theorem putN_rises : ∀ (l : List Int) (n : Int), Rises l → Rises (putN l n)
  | [], n, _ => by simp [putN, Rises]
  | y :: r, n, h => by
    have h1 := List.pairwise_cons.1 h
    simp only [putN]
    split
    · rename_i hn
      refine List.pairwise_cons.2 ⟨fun x hx => ?_, h⟩
      rcases List.mem_cons.1 hx with rfl | hx
      · exact hn
      · have := h1.1 x hx; omega
    · split
      · exact h
      · refine List.pairwise_cons.2 ⟨fun x hx => ?_, putN_rises r n h1.2⟩
        rcases (putN_mem r n x).1 hx with rfl | hx
        · omega
        · exact h1.1 x hx
def endsL (l : List Sp) : List Int := l.foldl (fun out s => putN (putN out s.1) s.2) []
theorem ends_aux : ∀ (l : List Sp) (out : List Int), Rises out → Rises (l.foldl (fun out s => putN (putN out s.1) s.2) out) ∧ ∀ x, x ∈ l.foldl (fun out s => putN (putN out s.1) s.2) out ↔ x ∈ out ∨ ∃ s ∈ l, x = s.1 ∨ x = s.2
  | [], out, h => ⟨h, by simp⟩
  | s :: l, out, h => by
    obtain ⟨i1, i2⟩ := ends_aux l (putN (putN out s.1) s.2) (putN_rises _ _ (putN_rises _ _ h))
    refine ⟨i1, fun x => ?_⟩
    rw [List.foldl_cons, i2, putN_mem, putN_mem]
    simp only [List.mem_cons, exists_eq_or_imp]
    constructor
    · rintro ((h | h | h) | h)
      · exact .inr (.inl (.inr h))
      · exact .inr (.inl (.inl h))
      · exact .inl h
      · exact .inr (.inr h)
    · rintro (h | (h | h) | h)
      · exact .inl (.inr (.inr h))
      · exact .inl (.inr (.inl h))
      · exact .inl (.inl h)
      · exact .inr h
theorem ends_rises (l : List Sp) : Rises (endsL l) := (ends_aux l [] (by simp [Rises])).1
theorem ends_mem (l : List Sp) (x : Int) : x ∈ endsL l ↔ ∃ s ∈ l, x = s.1 ∨ x = s.2 := by
  have := (ends_aux l [] (by simp [Rises])).2 x
  simpa [endsL] using this

/-- What changes at the ends of some spans alone, and has no time outside of them. -/
theorem pieces_eq (l : List Sp) (p : Int → Bool) (h : ∀ t t', (∀ s ∈ l, (s.1 ≤ t ↔ s.1 ≤ t') ∧ (s.2 ≤ t ↔ s.2 ≤ t')) → p t = p t') (h0 : ∀ t, p t = true → ∃ s ∈ l, s.1 ≤ t ∧ t < s.2) :
    NormP (piecesL p [] (endsL l)) ∧ ∀ t, hasB (piecesL p [] (endsL l)) t = p t := by
  obtain ⟨h1, h2⟩ := pieces_ok p (endsL l) [] (ends_rises l) ⟨by simp, by simp⟩ (by simp)
  refine ⟨h1, fun t => ?_⟩
  rw [h2, hasB_nil, Bool.false_or]
  have hm := ends_mem l
  have hr := ends_rises l
  have hhi : ∀ t, (∀ x ∈ endsL l, x ≤ t) → p t = false := by
    intro t ht
    cases hq : p t with
    | false => rfl
    | true =>
      obtain ⟨s, hs, h3, h4⟩ := h0 t hq
      have := ht s.2 ((hm _).2 ⟨s, hs, .inr rfl⟩)
      omega
  generalize endsL l = e at *
  cases e with
  | nil =>
    rw [hhi t (by simp)]; rfl
  | cons a r =>
    by_cases hta : a ≤ t
    · refine inP_eq p r a hr (fun t t' ht htt hx => h t t' fun s hs => ?_) hhi t hta
      have hh : ∀ x, x ∈ a :: r → (x ≤ t ↔ x ≤ t') := by
        intro x hxm
        constructor
        · intro h; omega
        · intro h'
          rcases List.mem_cons.1 hxm with rfl | hxm
          · exact ht
          · have := hx x hxm; omega
      exact ⟨hh _ ((hm _).2 ⟨s, hs, .inl rfl⟩), hh _ ((hm _).2 ⟨s, hs, .inr rfl⟩)⟩
    · rw [inP_low p (a :: r) t hr (fun c hc => by cases hc; omega)]
      cases hq : p t with
      | false => rfl
      | true =>
        exfalso
        obtain ⟨s, hs, h3, h4⟩ := h0 t hq
        have h5 := (hm s.1).2 ⟨s, hs, .inl rfl⟩
        rcases List.mem_cons.1 h5 with e | h5
        · omega
        · have := (List.pairwise_cons.1 hr).1 _ h5; omega

def normL (l : List Sp) : List Sp := piecesL (hasB l) [] (endsL l)
def meetL (a b : List Sp) : List Sp := piecesL (fun t => hasB a t && hasB b t) [] (endsL (a ++ b))
def lessL (a b : List Sp) : List Sp := piecesL (fun t => hasB a t && !hasB b t) [] (endsL (a ++ b))

theorem hasB_same {l m : List Sp} {t t' : Int} (hl : ∀ s ∈ l, s ∈ m) (h : ∀ s ∈ m, (s.1 ≤ t ↔ s.1 ≤ t') ∧ (s.2 ≤ t ↔ s.2 ≤ t')) : hasB l t = hasB l t' := by
  rw [Bool.eq_iff_iff, hasB_iff, hasB_iff]
  constructor
  · rintro ⟨s, hs, h1, h2⟩
    have := h s (hl s hs)
    exact ⟨s, hs, by omega, by omega⟩
  · rintro ⟨s, hs, h1, h2⟩
    have := h s (hl s hs)
    exact ⟨s, hs, by omega, by omega⟩
theorem norm_spec (l : List Sp) : NormP (normL l) ∧ ∀ t, hasB (normL l) t = hasB l t :=
  pieces_eq l (hasB l) (fun _ _ h => hasB_same (fun _ h => h) h) (fun _ h => hasB_iff.1 h)
theorem meet_spec (a b : List Sp) : NormP (meetL a b) ∧ ∀ t, hasB (meetL a b) t = (hasB a t && hasB b t) :=
  pieces_eq (a ++ b) _ (fun t t' h => by
      have h1 := hasB_same (l := a) (t := t) (t' := t') (by simp +contextual) h
      have h2 := hasB_same (l := b) (t := t) (t' := t') (by simp +contextual) h
      rw [h1, h2])
    (fun _ h => by
      simp only [Bool.and_eq_true] at h
      obtain ⟨s, hs, h⟩ := hasB_iff.1 h.1
      exact ⟨s, by simp [hs], h⟩)
theorem less_spec (a b : List Sp) : NormP (lessL a b) ∧ ∀ t, hasB (lessL a b) t = (hasB a t && !hasB b t) :=
  pieces_eq (a ++ b) _ (fun t t' h => by
      have h1 := hasB_same (l := a) (t := t) (t' := t') (by simp +contextual) h
      have h2 := hasB_same (l := b) (t := t) (t' := t') (by simp +contextual) h
      rw [h1, h2])
    (fun _ h => by
      simp only [Bool.and_eq_true] at h
      obtain ⟨s, hs, h⟩ := hasB_iff.1 h.1
      exact ⟨s, by simp [hs], h⟩)

/-! the program's way -/
def mergeStep (out : List Sp) (s : Sp) : List Sp := match out.getLast? with
  | some x => if s.1 ≤ x.2 then out.dropLast ++ [(x.1, max x.2 s.2)] else out ++ [s]
  | none => [s]
theorem merge_ok : ∀ (l out : List Sp), NormP out → (∀ s ∈ l, s.1 < s.2) → l.Pairwise (fun a b => a.1 ≤ b.1) → (∀ x ∈ out, ∀ s ∈ l, x.1 ≤ s.1) →
    NormP (l.foldl mergeStep out) ∧ ∀ t, hasB (l.foldl mergeStep out) t = (hasB out t || hasB l t)
  | [], out, h, _, _, _ => ⟨h, fun t => by simp [hasB_nil]⟩
  | s :: l, out, h, hn, hs, hx => by
    have hs1 := List.pairwise_cons.1 hs
    have hns := hn s (by simp)
    have step : NormP (mergeStep out s) ∧ (∀ x ∈ mergeStep out s, x.1 ≤ s.1) ∧ ∀ t, hasB (mergeStep out s) t = (hasB out t || (decide (s.1 ≤ t) && decide (t < s.2))) := by
      rcases List.eq_nil_or_concat out with rfl | ⟨i, x, rfl⟩
      · refine ⟨⟨by simpa [mergeStep] using hns, by simp [mergeStep]⟩, by simp [mergeStep], fun t => by simp [mergeStep, hasB]⟩
      · rw [List.concat_eq_append] at *
        have hx1 := h.1 x (by simp)
        have hxs := hx x (by simp) s (by simp)
        have hp := List.pairwise_append.1 h.2
        simp only [mergeStep, List.getLast?_append, List.getLast?_singleton, Option.some_or, List.dropLast_concat]
        split
        · rename_i e
          refine ⟨⟨fun y hy => ?_, ?_⟩, fun y hy => ?_, fun t => ?_⟩
          · rcases List.mem_append.1 hy with hy | hy
            · exact h.1 y (by simp [hy])
            · simp at hy; subst hy; simp only; omega
          · refine List.pairwise_append.2 ⟨hp.1, by simp, fun y hy z hz => ?_⟩
            simp at hz; subst hz
            exact hp.2.2 y hy x (by simp)
          · rcases List.mem_append.1 hy with hy | hy
            · exact hx y (by simp [hy]) s (by simp)
            · simp at hy; subst hy; exact hxs
          · simp only [hasB_append, hasB_cons, hasB_nil, Bool.or_false, Bool.or_assoc]
            congr 1
            rw [Bool.eq_iff_iff]
            simp
            omega
        · rename_i e
          refine ⟨⟨fun y hy => ?_, ?_⟩, fun y hy => ?_, fun t => ?_⟩
          · rcases List.mem_append.1 hy with hy | hy
            · exact h.1 y hy
            · simp at hy; subst hy; exact hns
          · refine List.pairwise_append.2 ⟨h.2, by simp, fun y hy z hz => ?_⟩
            simp at hz; subst hz
            rcases List.mem_append.1 hy with hy | hy
            · have := hp.2.2 y hy x (by simp); omega
            · simp at hy; subst hy; omega
          · rcases List.mem_append.1 hy with hy | hy
            · exact hx y hy s (by simp)
            · simp at hy; subst hy; exact Int.le_refl _
          · simp [hasB_append, hasB_cons, hasB_nil, Bool.or_assoc]
    obtain ⟨i1, i2⟩ := merge_ok l (mergeStep out s) step.1 (fun y hy => hn y (by simp [hy])) hs1.2 (fun x hx' y hy => Int.le_trans (step.2.1 x hx') (hs1.1 y hy))
    refine ⟨i1, fun t => ?_⟩
    rw [List.foldl_cons, i2, step.2.2, hasB_cons, Bool.or_assoc]

def hasTime (s : Sp) : Bool := decide (s.1 < s.2)
theorem hasB_filter (l : List Sp) (t : Int) : hasB (l.filter hasTime) t = hasB l t := by
  refine hasB_eq ⟨fun ⟨s, hs, h⟩ => ⟨s, (List.mem_filter.1 hs).1, h⟩, fun ⟨s, hs, h⟩ => ⟨s, List.mem_filter.2 ⟨hs, by simp [hasTime]; omega⟩, h⟩⟩
theorem hasB_perm {a b : List Sp} (h : a.Perm b) (t : Int) : hasB a t = hasB b t :=
  hasB_eq ⟨fun ⟨s, hs, k⟩ => ⟨s, h.mem_iff.1 hs, k⟩, fun ⟨s, hs, k⟩ => ⟨s, h.mem_iff.2 hs, k⟩⟩
/-- Sorted by their beginnings, and merged. -/
theorem merge_norm {l s : List Sp} (hp : s.Perm (l.filter hasTime)) (hs : s.Pairwise (fun a b => a.1 ≤ b.1)) : s.foldl mergeStep [] = normL l := by
  obtain ⟨h1, h2⟩ := merge_ok s [] ⟨by simp, by simp⟩ (fun x hx => by
    have := (List.mem_filter.1 (hp.mem_iff.1 hx)).2
    simpa [hasTime] using this) hs (by simp)
  refine norm_ext _ _ h1 (norm_spec l).1 fun t => ?_
  rw [h2, hasB_nil, Bool.false_or, hasB_perm hp, hasB_filter, (norm_spec l).2]
theorem norm_congr {a b : List Sp} (h : ∀ t, hasB a t = hasB b t) : normL a = normL b :=
  norm_ext _ _ (norm_spec a).1 (norm_spec b).1 fun t => by rw [(norm_spec a).2, (norm_spec b).2, h]
theorem norm_of {a b : List Sp} (hb : NormP b) (h : ∀ t, hasB a t = hasB b t) : normL a = b :=
  norm_ext _ _ (norm_spec a).1 hb fun t => by rw [(norm_spec a).2, h]

def meet1 (x y : Sp) : Sp := (max x.1 y.1, min x.2 y.2)
def meetsL (a b : List Sp) : List Sp := a.flatMap fun x => b.map fun y => meet1 x y
theorem meets_norm (a b : List Sp) : normL (meetsL a b) = meetL a b := by
  refine norm_of (meet_spec a b).1 fun t => ?_
  rw [(meet_spec a b).2, Bool.eq_iff_iff, Bool.and_eq_true, hasB_iff, hasB_iff, hasB_iff]
  constructor
  · rintro ⟨s, hs, h1, h2⟩
    simp only [meetsL, List.mem_flatMap, List.mem_map] at hs
    obtain ⟨x, hx, y, hy, rfl⟩ := hs
    simp only [meet1] at h1 h2
    exact ⟨⟨x, hx, by omega, by omega⟩, ⟨y, hy, by omega, by omega⟩⟩
  · rintro ⟨⟨x, hx, h1, h2⟩, ⟨y, hy, h3, h4⟩⟩
    refine ⟨meet1 x y, ?_, ?_, ?_⟩
    · simp only [meetsL, List.mem_flatMap, List.mem_map]
      exact ⟨x, hx, y, hy, rfl⟩
    · simp only [meet1]; omega
    · simp only [meet1]; omega
def less1 (y x : Sp) : List Sp := [(x.1, min x.2 y.1), (max x.1 y.2, x.2)]
def lessStep (out : List Sp) (y : Sp) : List Sp := if y.2 ≤ y.1 then out else (out.flatMap (less1 y)).filter hasTime
theorem lessStep_has (out : List Sp) (y : Sp) (t : Int) : hasB (lessStep out y) t = (hasB out t && !(decide (y.1 ≤ t) && decide (t < y.2))) := by
  unfold lessStep
  split
  · rename_i h
    have : (decide (y.1 ≤ t) && decide (t < y.2)) = false := by
      simp; omega
    simp [this]
  · rename_i h
    rw [hasB_filter, Bool.eq_iff_iff]
    simp only [Bool.and_eq_true, hasB_iff, List.mem_flatMap, less1, List.mem_cons, List.not_mem_nil, or_false, Bool.not_eq_true', Bool.and_eq_false_imp, decide_eq_true_eq, decide_eq_false_iff_not]
    constructor
    · rintro ⟨s, ⟨x, hx, rfl | rfl⟩, h1, h2⟩
      · simp only at h1 h2
        exact ⟨⟨x, hx, by omega, by omega⟩, by omega⟩
      · simp only at h1 h2
        exact ⟨⟨x, hx, by omega, by omega⟩, by omega⟩
    · rintro ⟨⟨x, hx, h1, h2⟩, h3⟩
      by_cases h4 : y.1 ≤ t
      · exact ⟨_, ⟨x, hx, .inr rfl⟩, by simp only; omega, by simp only; omega⟩
      · exact ⟨_, ⟨x, hx, .inl rfl⟩, by simp only; omega, by simp only; omega⟩
theorem lesses_has : ∀ (b out : List Sp) (t : Int), hasB (b.foldl lessStep out) t = (hasB out t && !hasB b t)
  | [], out, t => by simp [hasB_nil]
  | y :: b, out, t => by
    rw [List.foldl_cons, lesses_has b, lessStep_has, hasB_cons, Bool.not_or, Bool.and_assoc]
theorem lesses_norm (a b : List Sp) : normL (b.foldl lessStep (normL a)) = lessL a b := by
  refine norm_of (less_spec a b).1 fun t => ?_
  rw [lesses_has, (less_spec a b).2, (norm_spec a).2]

/-! how long rows may be -/
theorem putN_len (l : List Int) (n : Int) : (putN l n).length ≤ l.length + 1 := by
  induction l with
  | nil => simp [putN]
  | cons x r ih =>
    simp only [putN]
    split
    · simp
    · split
      · simp
      · simp only [List.length_cons]; omega
theorem ends_len_aux : ∀ (l : List Sp) (out : List Int), (l.foldl (fun out s => putN (putN out s.1) s.2) out).length ≤ out.length + 2 * l.length
  | [], out => by simp
  | s :: l, out => by
    have h1 := ends_len_aux l (putN (putN out s.1) s.2)
    have h2 := putN_len (putN out s.1) s.2
    have h3 := putN_len out s.1
    simp only [List.foldl_cons, List.length_cons]; omega
theorem ends_len (l : List Sp) : (endsL l).length ≤ 2 * l.length := by
  have := ends_len_aux l []
  simpa [endsL] using this
theorem glue_len (out : List Sp) (s : Sp) : (glueL out s).length ≤ out.length + 1 := by
  rcases List.eq_nil_or_concat out with rfl | ⟨i, x, rfl⟩
  · simp [glueL]
  · rw [List.concat_eq_append]
    simp only [glueL, List.getLast?_append, List.getLast?_singleton, Option.some_or, List.dropLast_concat]
    split <;> simp
theorem pieces_len (p : Int → Bool) : ∀ (e : List Int) (out : List Sp), (piecesL p out e).length ≤ out.length + e.length
  | [], out => by simp [piecesL]
  | [a], out => by simp [piecesL]
  | a :: b :: r, out => by
    simp only [piecesL]
    have h1 := pieces_len p (b :: r) (if p a = true then glueL out (a, b) else out)
    have h2 := glue_len out (a, b)
    simp only [List.length_cons] at h1 ⊢
    split at h1 <;> simp_all <;> omega
theorem norm_len (l : List Sp) : (normL l).length ≤ 2 * l.length := by
  have h1 := pieces_len (hasB l) (endsL l) []
  have h2 := ends_len l
  simp only [List.length_nil, Nat.zero_add] at h1
  exact Nat.le_trans h1 h2
theorem meet_len (a b : List Sp) : (meetL a b).length ≤ 2 * (a.length + b.length) := by
  have h1 := pieces_len (fun t => hasB a t && hasB b t) (endsL (a ++ b)) []
  have h2 := ends_len (a ++ b)
  simp only [List.length_nil, Nat.zero_add, List.length_append] at h1 h2
  exact Nat.le_trans h1 h2
theorem less_len (a b : List Sp) : (lessL a b).length ≤ 2 * (a.length + b.length) := by
  have h1 := pieces_len (fun t => hasB a t && !hasB b t) (endsL (a ++ b)) []
  have h2 := ends_len (a ++ b)
  simp only [List.length_nil, Nat.zero_add, List.length_append] at h1 h2
  exact Nat.le_trans h1 h2

/-- Apart from each other, and rising. -/
def ApartP (l : List Sp) : Prop := l.Pairwise fun a b => a.2 ≤ b.1
theorem lessPieces_low {y : Sp} : ∀ (l : List Sp), (∀ s ∈ l, y.1 ≤ s.1) → ((l.flatMap (less1 y)).filter hasTime).length ≤ l.length
  | [], _ => by simp
  | x :: l, h => by
    have h1 := h x (by simp)
    have h2 := lessPieces_low l (fun s hs => h s (by simp [hs]))
    simp only [List.flatMap_cons, List.filter_append, List.length_append, List.length_cons, less1]
    have : hasTime (x.1, min x.2 y.1) = false := by simp [hasTime]; omega
    simp only [List.filter_cons, this, List.filter_nil, Bool.false_eq_true, if_false]
    split <;> simp only [List.length_cons, List.length_nil] <;> omega
theorem lessPieces_len {y : Sp} (hy : y.1 < y.2) : ∀ (l : List Sp), ApartP l → ((l.flatMap (less1 y)).filter hasTime).length ≤ l.length + 1
  | [], _ => by simp
  | x :: l, h => by
    have h1 := List.pairwise_cons.1 h
    have h2 := lessPieces_len hy l h1.2
    simp only [List.flatMap_cons, List.filter_append, List.length_append, List.length_cons, less1, List.filter_cons, List.filter_nil]
    by_cases a : hasTime (x.1, min x.2 y.1) = true
    · by_cases b : hasTime (max x.1 y.2, x.2) = true
      · have h3 := lessPieces_low (y := y) l (fun s hs => by
          have := h1.1 s hs
          simp only [hasTime, decide_eq_true_eq] at b
          omega)
        rw [if_pos a, if_pos b]; simp only [List.length_cons, List.length_nil]; omega
      · rw [if_pos a, if_neg b]; simp only [List.length_cons, List.length_nil]; omega
    · rw [if_neg a]
      split <;> simp only [List.length_cons, List.length_nil] <;> omega
theorem lessPieces_apart {y : Sp} (hy : y.1 < y.2) : ∀ (l : List Sp), ApartP l → ApartP ((l.flatMap (less1 y)).filter hasTime)
  | [], _ => by simp [ApartP]
  | x :: l, h => by
    have h1 := List.pairwise_cons.1 h
    have h2 := lessPieces_apart hy l h1.2
    simp only [List.flatMap_cons, List.filter_append]
    refine List.pairwise_append.2 ⟨?_, h2, ?_⟩
    · refine List.Pairwise.filter _ ?_
      simp only [less1, List.pairwise_cons, List.mem_singleton, forall_eq, List.not_mem_nil, false_implies, implies_true, List.Pairwise.nil, and_true]
      omega
    · intro s hs t ht
      have hs' := (List.mem_filter.1 hs).1
      have ht' := (List.mem_filter.1 ht).1
      obtain ⟨z, hz, ht'⟩ := List.mem_flatMap.1 ht'
      have := h1.1 z hz
      simp only [less1, List.mem_cons, List.not_mem_nil, or_false] at hs' ht'
      rcases hs' with rfl | rfl <;> rcases ht' with rfl | rfl <;> simp only <;> omega
theorem lesses_bound : ∀ (b out : List Sp), ApartP out → ApartP (b.foldl lessStep out) ∧ (b.foldl lessStep out).length ≤ out.length + b.length
  | [], out, h => ⟨h, by simp⟩
  | y :: b, out, h => by
    have key : ApartP (lessStep out y) ∧ (lessStep out y).length ≤ out.length + 1 := by
      unfold lessStep
      split
      · exact ⟨h, by omega⟩
      · exact ⟨lessPieces_apart (by omega) out h, lessPieces_len (by omega) out h⟩
    have := lesses_bound b (lessStep out y) key.1
    refine ⟨this.1, ?_⟩
    have h2 := this.2
    simp only [List.foldl_cons, List.length_cons]; omega
theorem norm_apart {l : List Sp} (h : NormP l) : ApartP l := h.2.imp fun h => Int.le_of_lt h
theorem lessAt_len (a b : List Sp) (k : Nat) : ((b.take k).foldl lessStep (normL a)).length ≤ 2 * a.length + b.length := by
  have h1 := (lesses_bound (b.take k) (normL a) (norm_apart (norm_spec a).1)).2
  have h2 := norm_len a
  have h3 : (b.take k).length ≤ b.length := by simp; omega
  omega
end Go.Abs
