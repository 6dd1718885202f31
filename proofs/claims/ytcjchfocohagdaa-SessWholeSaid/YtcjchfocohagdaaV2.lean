import Derived.Test.YtcjchfocohagdaaT2
set_option linter.unusedVariables false
set_option linter.unusedSimpArgs false
namespace Go.Abs
variable {α : Type} {enc : α → List AV} {c : α → α → Int}
-- cells of a slice, told by what stands there
theorem own_takeQ {l : List α} {k i z : Nat} {x : α} (hi : i = z) (h : l[z]? = some x) (hc : (enc x).length = k) : ((AM.buf k (l.map enc)).at k i 0).take k = enc x := by
  obtain ⟨hz, rfl⟩ := List.getElem?_eq_some_iff.1 h
  exact own_take hi hz hc
theorem own_bleQ {l : List α} {k i z : Nat} {x : α} (hi : i = z) (h : l[z]? = some x) (hc : (enc x).length = k) : Nat.ble k ((AM.buf k (l.map enc)).at k i 0).length = true := by
  obtain ⟨hz, rfl⟩ := List.getElem?_eq_some_iff.1 h
  exact own_ble hi hz hc
theorem own_storeQ {l : List α} {k i z : Nat} {v : α} {rs : List AV} (hi : i = z) (h : z < l.length) (hr : rs = enc v) (hv : (enc v).length = k) (hl : (enc l[z]).length = k) : (AM.buf k (l.map enc)).store k i 0 rs = some (.buf k ((l.set z v).map enc)) := by
  subst hr
  exact own_store hi h (by simp [splice, hv, hl]) (by omega)
def Srt (c : α → α → Int) (l : List α) : Prop := l.Pairwise fun x y => c x y ≤ 0
theorem at0 {p q : List α} {x : α} : (p ++ x :: q)[p.length]? = some x := by simp
theorem at1 {p q : List α} {x y : α} : (p ++ x :: y :: q)[p.length + 1]? = some y := by simp
theorem atQ {l p q : List α} {x : α} {z : Nat} (h : l = p ++ x :: q) (hz : z = p.length) : l[z]? = some x := by subst h; subst hz; exact at0
theorem swap_down {l p q : List α} {x y : α} {i j : Nat} (h : l = p ++ x :: y :: q) (hi : i = p.length + 1) (hj : j = p.length) : (l.set i x).set j y = p ++ y :: x :: q := by
  subst h; subst hi; subst hj; simp
theorem swap_up {l p q : List α} {x y : α} {i j : Nat} (h : l = p ++ x :: y :: q) (hi : i = p.length) (hj : j = p.length + 1) : (l.set i y).set j x = p ++ y :: x :: q := by
  subst h; subst hi; subst hj; simp
theorem Srt.append {a b : List α} (ha : Srt c a) (hb : Srt c b) (h : ∀ x ∈ a, ∀ y ∈ b, c x y ≤ 0) : Srt c (a ++ b) := List.pairwise_append.2 ⟨ha, hb, h⟩
theorem Srt.left {a b : List α} (h : Srt c (a ++ b)) : Srt c a := (List.pairwise_append.1 h).1
theorem Srt.right {a b : List α} (h : Srt c (a ++ b)) : Srt c b := (List.pairwise_append.1 h).2.1
theorem Srt.perm_mem {a b : List α} (h : a.Perm b) {x : α} : x ∈ a ↔ x ∈ b := h.mem_iff
/-- One more, put where it belongs. -/
theorem ins_done (hc : Tri c) {u v : List α} {e : α} (h : Srt c (u ++ v)) (hv : ∀ y ∈ v, c e y ≤ 0) (hu : ∀ z, u.getLast? = some z → c z e ≤ 0) : Srt c (u ++ e :: v) := by
  obtain ⟨h1, h2, h3⟩ := List.pairwise_append.1 h
  refine Srt.append h1 (List.pairwise_cons.2 ⟨hv, h2⟩) fun x hx y hy => ?_
  rcases List.mem_cons.1 hy with rfl | hy
  · rcases List.eq_nil_or_concat u with rfl | ⟨u', z, rfl⟩
    · simp at hx
    · have hz := hu z (by simp)
      rw [List.concat_eq_append] at hx h1
      rcases List.mem_append.1 hx with hx | hx
      · exact hc.tr x z y ((List.pairwise_append.1 h1).2.2 x hx z (by simp)) hz
      · simp only [List.mem_singleton] at hx; subst hx; exact hz
  · exact h3 x hx y hy
theorem srt_le {l : List α} (h : Srt c l) (hc : Tri c) {i j : Nat} (hi : i < l.length) (hj : j < l.length) (hij : i ≤ j) : c l[i] l[j] ≤ 0 := by
  rcases Nat.lt_or_eq_of_le hij with e | rfl
  · exact List.pairwise_iff_getElem.1 h i j hi hj e
  · have := hc.self l[i]; omega
theorem take_le {l : List α} (h : Srt c l) (hc : Tri c) {k : Nat} (hk : k < l.length) : (∀ x ∈ l.take (k + 1), c x l[k] ≤ 0) ∧ ∀ x ∈ l.drop k, c l[k] x ≤ 0 := by
  refine ⟨fun x hx => ?_, fun x hx => ?_⟩
  · obtain ⟨i, hi, rfl⟩ := List.mem_iff_getElem.1 hx
    simp only [List.length_take] at hi
    rw [List.getElem_take]
    exact srt_le h hc _ hk (by omega)
  · obtain ⟨i, hi, rfl⟩ := List.mem_iff_getElem.1 hx
    simp only [List.length_drop] at hi
    rw [List.getElem_drop]
    exact srt_le h hc hk _ (by omega)
/-- One, put into a sorted row. -/
theorem put_srt (hc : Tri c) {s : List α} {x : α} {i : Nat} (h : Srt c s) (hi : i ≤ s.length) (h1 : ∀ h0 : 0 < i, c (s[i - 1]'(by omega)) x ≤ 0) (h2 : ∀ h0 : i < s.length, c x s[i] ≤ 0) : Srt c (s.take i ++ x :: s.drop i) := by
  refine ins_done hc (by rw [List.take_append_drop]; exact h) (fun y hy => ?_) (fun z hz => ?_)
  · by_cases h0 : i < s.length
    · exact hc.tr x s[i] y (h2 h0) ((take_le h hc h0).2 y hy)
    · rw [List.drop_eq_nil_of_le (by omega)] at hy; simp at hy
  · rcases Nat.eq_zero_or_pos i with rfl | h0
    · simp at hz
    · have : (s.take i).getLast? = some (s[i - 1]'(by omega)) := by
        rw [List.getLast?_eq_getElem?, List.length_take, List.getElem?_take, if_pos (by omega), Nat.min_eq_left hi, List.getElem?_eq_getElem]
      rw [this] at hz; cases hz
      exact h1 h0
/-- Both halves stand apart. -/
theorem sym_sep (hc : Tri c) {s1 s2 : List α} {S K : Nat} (h1 : Srt c s1) (h2 : Srt c s2) (hS : S ≤ s1.length) (hK : K ≤ s2.length)
    (hA : ∀ (h0 : 0 < S) (h3 : K < s2.length), c (s1[S - 1]'(by omega)) s2[K] ≤ 0) (hB : ∀ (h0 : 0 < K) (h3 : S < s1.length), c (s2[K - 1]'(by omega)) s1[S] ≤ 0) :
    ∀ x ∈ s1.take S ++ s2.take K, ∀ y ∈ s1.drop S ++ s2.drop K, c x y ≤ 0 := by
  have e1 : Srt c (s1.take S ++ s1.drop S) := by rw [List.take_append_drop]; exact h1
  have e2 : Srt c (s2.take K ++ s2.drop K) := by rw [List.take_append_drop]; exact h2
  intro x hx y hy
  rcases List.mem_append.1 hx with hx | hx <;> rcases List.mem_append.1 hy with hy | hy
  · exact (List.pairwise_append.1 e1).2.2 x hx y hy
  · rcases Nat.eq_zero_or_pos S with rfl | h0
    · simp at hx
    · by_cases h3 : K < s2.length
      · have q1 := (take_le h1 hc (show S - 1 < s1.length by omega)).1 x (by rw [show S - 1 + 1 = S by omega]; exact hx)
        exact hc.tr _ _ _ (hc.tr _ _ _ q1 (hA h0 h3)) ((take_le h2 hc h3).2 y hy)
      · rw [List.drop_eq_nil_of_le (by omega)] at hy; simp at hy
  · rcases Nat.eq_zero_or_pos K with rfl | h0
    · simp at hx
    · by_cases h3 : S < s1.length
      · have q1 := (take_le h2 hc (show K - 1 < s2.length by omega)).1 x (by rw [show K - 1 + 1 = K by omega]; exact hx)
        exact hc.tr _ _ _ (hc.tr _ _ _ q1 (hB h0 h3)) ((take_le h1 hc h3).2 y hy)
      · rw [List.drop_eq_nil_of_le (by omega)] at hy; simp at hy
  · exact (List.pairwise_append.1 e2).2.2 x hx y hy
theorem Srt.take {l : List α} (h : Srt c l) (k : Nat) : Srt c (l.take k) := Srt.left (b := l.drop k) (by rw [List.take_append_drop]; exact h)
theorem Srt.drop {l : List α} (h : Srt c l) (k : Nat) : Srt c (l.drop k) := Srt.right (a := l.take k) (by rw [List.take_append_drop]; exact h)
theorem sep_perm {a b a' b' : List α} (ha : a'.Perm a) (hb : b'.Perm b) (h : ∀ x ∈ a, ∀ y ∈ b, c x y ≤ 0) : ∀ x ∈ a', ∀ y ∈ b', c x y ≤ 0 :=
  fun x hx y hy => h x (ha.mem_iff.1 hx) y (hb.mem_iff.1 hy)
theorem halves_perm {s1 s2 l r : List α} {S K : Nat} (hl : l.Perm (s1.take S ++ s2.take K)) (hr : r.Perm (s1.drop S ++ s2.drop K)) : (l ++ r).Perm (s1 ++ s2) := by
  refine (hl.append hr).trans ?_
  have e : (s1 ++ s2).Perm ((s1.take S ++ s1.drop S) ++ (s2.take K ++ s2.drop K)) := by rw [List.take_append_drop, List.take_append_drop]
  refine List.Perm.trans ?_ e.symm
  rw [List.append_assoc, List.append_assoc]
  refine List.Perm.append_left _ ?_
  rw [← List.append_assoc, ← List.append_assoc]
  exact List.Perm.append_right _ List.perm_append_comm
/-- Rows of sorted chunks: all of that length .. -/
inductive Fu (c : α → α → Int) (k : Nat) : List α → Prop
  | nil : Fu c k []
  | cons {d s : List α} (h : Fu c k d) (hs : Srt c s) (hl : s.length = k) : Fu c k (d ++ s)
/-- .. but the last, which may be shorter. -/
inductive Ch (c : α → α → Int) (k : Nat) : List α → Prop
  | last {s : List α} (hs : Srt c s) (hl : s.length ≤ k) : Ch c k s
  | cons {s r : List α} (hs : Srt c s) (hl : s.length = k) (h : Ch c k r) : Ch c k (s ++ r)
theorem Fu.ch {k : Nat} {d : List α} (h : Fu c k d) : ∀ {r : List α}, Ch c k r → Ch c k (d ++ r) := by
  induction h with
  | nil => intro r hr; exact hr
  | cons h hs hl ih => intro r hr; rw [List.append_assoc]; exact ih (.cons hs hl hr)
theorem Ch.split {k : Nat} {l : List α} (h : Ch c k l) (hl : k < l.length) : ∃ s r, l = s ++ r ∧ Srt c s ∧ s.length = k ∧ Ch c k r := by
  cases h with
  | last hs h1 => omega
  | cons hs h1 h2 => exact ⟨_, _, rfl, hs, h1, h2⟩
theorem Ch.short {k : Nat} {l : List α} (h : Ch c k l) (hl : l.length ≤ k) : Srt c l := by
  cases h with
  | last hs h1 => exact hs
  | @cons s r hs h1 h2 =>
    have : r = [] := by
      rw [List.length_append] at hl
      exact List.eq_nil_of_length_eq_zero (by omega)
    rw [this, List.append_nil]; exact hs
/-- Two chunks from the front: the second one may be the last. -/
theorem Ch.two {k : Nat} {l : List α} (h : Ch c k l) (hl : k < l.length) : ∃ s t r, l = s ++ (t ++ r) ∧ Srt c s ∧ s.length = k ∧ Srt c t ∧ 0 < t.length ∧ ((t.length = k ∧ Ch c k r) ∨ (t.length ≤ k ∧ r = [])) := by
  obtain ⟨s, r, rfl, hs, h1, h2⟩ := h.split hl
  rw [List.length_append] at hl
  cases h2 with
  | last ht h3 => exact ⟨s, r, [], by simp, hs, h1, ht, by omega, .inr ⟨h3, rfl⟩⟩
  | @cons t r' ht h3 h4 =>
    rcases Nat.eq_zero_or_pos k with rfl | h0
    · have : t = [] := List.eq_nil_of_length_eq_zero h3
      subst this
      simp only [List.nil_append] at hl ⊢
      exact ⟨s, r', [], by simp, hs, h1, (h4.short (by
        exfalso
        revert hl
        have : ∀ l : List α, Ch c 0 l → l.length = 0 := by
          intro l hl
          induction hl with
          | last hs hl => omega
          | cons hs hl h ih => rw [List.length_append, hl, ih]
        have := this r' h4
        omega)), by omega, .inr ⟨by
        have : ∀ l : List α, Ch c 0 l → l.length = 0 := by
          intro l hl
          induction hl with
          | last hs hl => omega
          | cons hs hl h ih => rw [List.length_append, hl, ih]
        rw [this r' h4]; exact Nat.zero_le _, rfl⟩⟩
    · exact ⟨s, t, r', rfl, hs, h1, ht, by omega, .inl ⟨h3, h4⟩⟩
end Go.Abs
namespace Go.Abs
variable {α : Type} {enc : α → List AV} {c : α → α → Int}
/-- Two stretches, swapped so far. -/
def swr (A u B v C : List α) (i : Nat) : List α := A ++ ((v.take i ++ u.drop i) ++ (B ++ ((u.take i ++ v.drop i) ++ C)))
theorem swr_len {A u B v C : List α} {i : Nat} (h : v.length = u.length) : (swr A u B v C i).length = A.length + u.length + B.length + v.length + C.length := by
  simp only [swr, List.length_append, List.length_take, List.length_drop]; omega
theorem swr_split {A u B v C : List α} {i : Nat} (h : v.length = u.length) (hi : i < u.length) :
    swr A u B v C i = (A ++ v.take i) ++ u[i] :: ((u.drop (i + 1) ++ B ++ u.take i) ++ (v[i]'(by omega)) :: (v.drop (i + 1) ++ C)) := by
  rw [swr, List.drop_eq_getElem_cons hi, List.drop_eq_getElem_cons (show i < v.length by omega)]; simp only [List.append_assoc, List.cons_append]
theorem swr_at1 {A u B v C : List α} {i : Nat} (h : v.length = u.length) (hi : i < u.length) : (swr A u B v C i)[A.length + i]? = some u[i] := by
  rw [swr_split h hi]
  exact atQ rfl (by simp; omega)
theorem swr_at2 {A u B v C : List α} {i : Nat} (h : v.length = u.length) (hi : i < u.length) : (swr A u B v C i)[A.length + u.length + B.length + i]? = some (v[i]'(by omega)) := by
  rw [swr_split h hi]
  exact atQ (p := (A ++ v.take i) ++ u[i] :: (u.drop (i + 1) ++ B ++ u.take i)) (q := v.drop (i + 1) ++ C) (by simp) (by simp; omega)
theorem set_at {p q : List α} {x y : α} {i : Nat} (hi : i = p.length) : (p ++ x :: q).set i y = p ++ y :: q := by subst hi; simp
theorem swr_step {A u B v C : List α} {i : Nat} (h : v.length = u.length) (hi : i < u.length) : ((swr A u B v C i).set (A.length + i) (v[i]'(by omega))).set (A.length + u.length + B.length + i) u[i] = swr A u B v C (i + 1) := by
  rw [swr_split h hi, set_at (by simp; omega)]
  rw [show (A ++ v.take i) ++ (v[i]'(by omega)) :: ((u.drop (i + 1) ++ B ++ u.take i) ++ (v[i]'(by omega)) :: (v.drop (i + 1) ++ C)) = ((A ++ v.take i) ++ (v[i]'(by omega)) :: (u.drop (i + 1) ++ B ++ u.take i)) ++ (v[i]'(by omega)) :: (v.drop (i + 1) ++ C) from by simp]
  rw [set_at (by simp; omega), swr, ← List.take_append_getElem hi, ← List.take_append_getElem (show i < v.length by omega)]
  simp only [List.append_assoc, List.cons_append, List.nil_append]
theorem srt_one {l : List α} (h : l.length ≤ 1) : Srt c l := by
  match l, h with
  | [], _ => exact List.Pairwise.nil
  | [x], _ => exact List.pairwise_singleton _ _
theorem last_of {u : List α} (h : 0 < u.length) : ∃ u' z, u = u' ++ [z] := by
  rcases List.eq_nil_or_concat u with rfl | ⟨u', z, rfl⟩
  · simp at h
  · exact ⟨u', z, by simp⟩
theorem slot_int {x y : Int} (h : x = y) : (some (AV.s (.int .i64 x)) : Option AV) = some (AV.s (.int .i64 y)) := by rw [h]
end Go.Abs
namespace Go.Abs
variable {α : Type} {enc : α → List AV} {c : α → α → Int}
theorem ins_perm {u v s3 s1 s0 : List α} {e : α} (huv : u ++ v = s1) (h : (s1 ++ e :: s3).Perm s0) : ((u ++ e :: v) ++ s3).Perm s0 := by
  refine List.Perm.trans ?_ h
  subst huv
  rw [List.append_assoc, List.append_assoc]
  exact List.Perm.append_left u List.perm_middle.symm
theorem atM {p s1 s2 q : List α} {h : Nat} (hh : h < s2.length) : (p ++ (s1 ++ (s2 ++ q)))[p.length + s1.length + h]? = some s2[h] := by
  rw [List.getElem?_append_right (by omega), List.getElem?_append_right (by omega), List.getElem?_append_left (by omega), List.getElem?_eq_getElem (by omega)]
  congr 2; omega
theorem atL {p s1 r : List α} {h : Nat} (hh : h < s1.length) : (p ++ (s1 ++ r))[p.length + h]? = some s1[h] := by
  rw [List.getElem?_append_right (by omega), List.getElem?_append_left (by omega), List.getElem?_eq_getElem (by omega)]
  congr 2; omega
theorem sym_skip {p s1 s2 q : List α} {S K : Nat} (h : s1.length ≤ S ∨ K = 0) : p ++ (s1 ++ (s2 ++ q)) = p ++ ((s1.take S ++ s2.take K) ++ ((s1.drop S ++ s2.drop K) ++ q)) := by
  rcases h with h | rfl
  · rw [List.take_of_length_le h, List.drop_eq_nil_of_le h, List.nil_append, List.append_assoc, ← List.append_assoc (s2.take K), List.take_append_drop]
  · rw [List.take_zero, List.drop_zero, List.append_nil, List.append_assoc, ← List.append_assoc (s1.take S), List.take_append_drop]
theorem sym_open {p s1 s2 q : List α} (S K : Nat) : p ++ (s1 ++ (s2 ++ q)) = (p ++ s1.take S) ++ (s1.drop S ++ (s2.take K ++ (s2.drop K ++ q))) := by
  rw [List.append_assoc, ← List.append_assoc (s1.take S), List.take_append_drop, ← List.append_assoc (s2.take K), List.take_append_drop]
theorem srt_left {s1 s2 : List α} {S K : Nat} (h1 : Srt c s1) (h2 : Srt c s2) (h : S = 0 ∨ K = 0) : Srt c (s1.take S ++ s2.take K) := by
  rcases h with rfl | rfl
  · rw [List.take_zero, List.nil_append]; exact h2.take K
  · rw [List.take_zero, List.append_nil]; exact h1.take S
theorem srt_right {s1 s2 : List α} {S K : Nat} (h1 : Srt c s1) (h2 : Srt c s2) (h : s1.length ≤ S ∨ s2.length ≤ K) : Srt c (s1.drop S ++ s2.drop K) := by
  rcases h with h | h
  · rw [List.drop_eq_nil_of_le h, List.nil_append]; exact h2.drop K
  · rw [List.drop_eq_nil_of_le h, List.append_nil]; exact h1.drop S
theorem put_perm {s : List α} {x : α} {i : Nat} : (s.take i ++ x :: s.drop i).Perm (x :: s) := by
  refine List.perm_middle.trans ?_
  rw [List.take_append_drop]
theorem put_srtQ (hc : Tri c) {s : List α} {x : α} {i : Nat} (h : Srt c s) (hi : i ≤ s.length) (h1 : ∀ z, s[i - 1]? = some z → 0 < i → c z x ≤ 0) (h2 : ∀ z, s[i]? = some z → c x z ≤ 0) : Srt c (s.take i ++ x :: s.drop i) :=
  put_srt hc h hi (fun h0 => h1 _ (List.getElem?_eq_getElem (by omega)) h0) (fun h0 => h2 _ (List.getElem?_eq_getElem h0))
theorem Ch.pair {k : Nat} {l : List α} (h : Ch c k l) (h0 : 0 < k) (hl : 2 * k ≤ l.length) : ∃ s t r, l = s ++ (t ++ r) ∧ Srt c s ∧ s.length = k ∧ Srt c t ∧ t.length = k ∧ Ch c k r := by
  obtain ⟨s, t, r, rfl, h1, h2, h3, h4, h5⟩ := h.two (by omega)
  simp only [List.length_append] at hl
  rcases h5 with ⟨h5, h6⟩ | ⟨h5, rfl⟩
  · exact ⟨s, t, r, rfl, h1, h2, h3, h5, h6⟩
  · simp only [List.length_nil] at hl
    exact ⟨s, t, [], rfl, h1, h2, h3, by omega, .last List.Pairwise.nil (by simp)⟩
theorem Ch.rest {k : Nat} {l : List α} (h : Ch c k l) (hl : k < l.length) (hl2 : l.length < 2 * k) : ∃ s t, l = s ++ t ∧ Srt c s ∧ s.length = k ∧ Srt c t ∧ 0 < t.length := by
  obtain ⟨s, t, r, rfl, h1, h2, h3, h4, h5⟩ := h.two hl
  simp only [List.length_append] at hl2
  rcases h5 with ⟨h5, h6⟩ | ⟨h5, rfl⟩
  · omega
  · exact ⟨s, t, by simp, h1, h2, h3, h4⟩
end Go.Abs
