import Derived.Test.YtpicjibfbghonaaA10
set_option linter.unusedVariables false
set_option linter.unusedSimpArgs false
namespace Go.Abs
open Go Go.RowKit
variable {P : Program} {w0 : World} {p0 : Hp}

mutual
/-- It names only what is ok. -/
def AV.clean (ok : Nat → Bool) : AV → Bool
  | .s _ => true
  | .sl _ _ => true
  | .adr _ => true
  | .bad => true
  | .own g _ _ _ => ok g
  | .ref g _ _ _ => ok g
  | .agg cs => cleanL ok cs
  | .tup cs => cleanL ok cs
  | .fn _ cs => cleanL ok cs
def cleanL (ok : Nat → Bool) : List AV → Bool
  | [] => true
  | c :: cs => c.clean ok && cleanL ok cs
end

theorem cleanL_mem {ok : Nat → Bool} : ∀ {cs : List AV}, cleanL ok cs = true → ∀ c ∈ cs, c.clean ok = true
  | [], _, _, hc => by simp at hc
  | x :: cs, h, c, hc => by
    simp only [cleanL, Bool.and_eq_true] at h
    rcases List.mem_cons.1 hc with rfl | hc
    · exact h.1
    · exact cleanL_mem h.2 c hc

theorem AV.clean_of_leaf {ok : Nat → Bool} {c : AV} (h : c.leaf = true) : c.clean ok = true := by cases c <;> first | rfl | (simp [AV.leaf] at h)

theorem RelV.move {w : World} {p : Hp} {w' : World} {q : Hp} {ok : Nat → Bool} (hs : ∀ b, Stable w p b → Stable w' q b ∧ w'.heap[b]? = w.heap[b]?)
    (hn : ∀ g x, ok g = true → p.o g = some x → q.o g = some x ∧ ∀ b, x = some b → ∀ cur T, w.heap[b]? = some (.cells cur T (0, 0)) → ∃ cur', w'.heap[b]? = some (.cells cur' T (0, 0)) ∧ cur'.size = cur.size)
    {a : AV} {v : Value} (h : RelV w p a v) : a.clean ok = true → RelV w' q a v := by
  induction h with
  | s v => exact fun _ => .s v
  | agg cs vs hl _ ih => exact fun hc => .agg cs vs hl fun i c v h1 h2 => ih i c v h1 h2 (cleanL_mem hc c (List.mem_of_getElem? h1))
  | tup cs vs hl _ ih => exact fun hc => .tup cs vs hl fun i c v h1 h2 => ih i c v h1 h2 (cleanL_mem hc c (List.mem_of_getElem? h1))
  | sln k a cap hcap => exact fun _ => .sln k a cap hcap
  | slc k xs b off cap f hb hn' hcap hkk hc _ ih =>
    intro _
    have h1 := hs b hb
    exact .slc k xs b off cap f h1.1 hn' hcap hkk (fun j x i c hj hi => by rw [World.cell?_of_block (w := w) h1.2]; exact hc j x i c hj hi)
      (fun j x i c hj hi => ih j x i c hj hi (AV.clean_of_leaf ((hkk x (List.mem_of_getElem? hj)).2 c (List.mem_of_getElem? hi))))
  | ownn g k hg => exact fun hc => .ownn g k (hn g _ hc hg).1
  | own g k off n b cap cur T hg hn' hcap hh hsz =>
    intro hc
    obtain ⟨h1, h2⟩ := hn g _ hc hg
    obtain ⟨cur', h3, h4⟩ := h2 b rfl cur T hh
    exact .own g k off n b cap cur' T h1 hn' hcap h3 (by omega)
  | own0 g k off b a hg => exact fun hc => .own0 g k off b a (hn g _ hc hg).1
  | adr cs b off f hb hkk hc _ ih =>
    intro _
    have h1 := hs b hb
    exact .adr cs b off f h1.1 hkk (fun i c hi => by rw [World.cell?_of_block (w := w) h1.2]; exact hc i c hi) (fun i c hi => ih i c hi (AV.clean_of_leaf (hkk c (List.mem_of_getElem? hi))))
  | ref g k j f b hg => exact fun hc => .ref g k j f b (hn g _ hc hg).1
  | fn f cs vs hl _ ih => exact fun hc => .fn f cs vs hl fun i c v h1 h2 => ih i c v h1 h2 (cleanL_mem hc c (List.mem_of_getElem? h1))
  | bad v => exact fun _ => .bad v

mutual
/-- The value as it reads once the names are given up. -/
def AV.conv (mem : Mem) : AV → AV
  | .own g k off n => match look mem g with
    | some (.buf k' xs) => if (k = k' ∨ n = 0) ∧ off + n ≤ xs.length then .sl k ((xs.drop off).take n) else .bad
    | _ => .bad
  | .ref g k j f => match look mem g with
    | some m => if (m.at k j f).all AV.leaf then .adr (m.at k j f) else .bad
    | none => .bad
  | .agg cs => .agg (convL mem cs)
  | .tup cs => .tup (convL mem cs)
  | .fn f cs => .fn f (convL mem cs)
  | .s v => .s v
  | .sl k xs => .sl k xs
  | .adr cs => .adr cs
  | .bad => .bad
def convL (mem : Mem) : List AV → List AV
  | [] => []
  | c :: cs => c.conv mem :: convL mem cs
end
theorem convL_eq (mem : Mem) : ∀ cs, convL mem cs = cs.map (AV.conv mem)
  | [] => rfl
  | c :: cs => by simp [convL, convL_eq mem cs]

theorem AV.conv_leaf {mem : Mem} {c : AV} (h : c.leaf = true) : c.conv mem = c := by cases c <;> first | rfl | (simp [AV.leaf] at h)

/-- The same world, no names any more. -/
def Hp.bare (p : Hp) : Hp := { o := fun _ => none, A := p.A }

theorem MemRel.bare {w : World} {p : Hp} {mem : Mem} (hm : MemRel w p mem) {g b : Nat} (hg : p.o g = some (some b)) : Stable w p.bare b :=
  ⟨hm.lt hg, (fun _ h => by cases h), hm.avoid g b hg⟩
theorem Stable.bare {w : World} {p : Hp} {b : Nat} (h : Stable w p b) : Stable w p.bare b := ⟨h.1, (fun _ h => by cases h), h.2.2⟩

theorem RelV.leaf_bare {w : World} {p : Hp} {c : AV} {v : Value} (h : RelV w p c v) (hc : c.leaf = true) : RelV w p.bare c v :=
  h.move (ok := fun _ => false) (fun b hb => ⟨hb.bare, rfl⟩) (fun g x h _ => by cases h) (AV.clean_of_leaf hc)

theorem RelV.conv {w : World} {p : Hp} {mem : Mem} (hm : MemRel w p mem) {a : AV} {v : Value} (h : RelV w p a v) : RelV w p.bare (a.conv mem) v := by
  induction h with
  | s v => exact .s v
  | agg cs vs hl _ ih =>
    simp only [AV.conv, convL_eq]
    refine .agg _ vs (by simpa using hl) fun i c v h1 h2 => ?_
    rw [List.getElem?_map] at h1
    cases hi : cs[i]? with
    | none => simp [hi] at h1
    | some c' => simp [hi] at h1; subst h1; exact ih i c' v hi h2
  | tup cs vs hl _ ih =>
    simp only [AV.conv, convL_eq]
    refine .tup _ vs (by simpa using hl) fun i c v h1 h2 => ?_
    rw [List.getElem?_map] at h1
    cases hi : cs[i]? with
    | none => simp [hi] at h1
    | some c' => simp [hi] at h1; subst h1; exact ih i c' v hi h2
  | fn f cs vs hl _ ih =>
    simp only [AV.conv, convL_eq]
    refine .fn f _ vs (by simpa using hl) fun i c v h1 h2 => ?_
    rw [List.getElem?_map] at h1
    cases hi : cs[i]? with
    | none => simp [hi] at h1
    | some c' => simp [hi] at h1; subst h1; exact ih i c' v hi h2
  | sln k a cap hcap => exact .sln k a cap hcap
  | slc k xs b off cap f hb hn' hcap hkk hc hr ih =>
    exact .slc k xs b off cap f hb.bare hn' hcap hkk hc (fun j x i c hj hi => by
      have := ih j x i c hj hi
      rwa [AV.conv_leaf ((hkk x (List.mem_of_getElem? hj)).2 c (List.mem_of_getElem? hi))] at this)
  | adr cs b off f hb hkk hc hr ih =>
    exact .adr cs b off f hb.bare hkk hc (fun i c hi => by
      have := ih i c hi
      rwa [AV.conv_leaf (hkk c (List.mem_of_getElem? hi))] at this)
  | bad v => exact .bad v
  | ownn g k hg =>
    simp only [AV.conv]
    split
    · split
      · simp only [Nat.zero_add, List.drop_zero, List.take_zero] at *
        exact .sln k none 0 (by simp)
      · exact .bad _
    · exact .bad _
  | own0 g k off b a hg =>
    simp only [AV.conv]
    split
    · split
      · simp only [List.take_zero]
        exact .sln k _ 0 (by simp)
      · exact .bad _
    · exact .bad _
  | own g k off n b cap cur T hg hn' hcap hh hsz =>
    simp only [AV.conv]
    split
    · rename_i k' xs hl
      split
      · rename_i hc
        obtain ⟨hk, hlen⟩ := hc
        by_cases hn0 : n = 0
        · subst hn0
          simp only [List.take_zero]
          exact .sln k _ cap hcap
        · have hk' : k = k' := by rcases hk with h | h; exact h; exact absurd h hn0
          subst hk'
          rcases hm.holds g _ hl with ⟨rfl, _⟩ | ⟨b', cur', T', e1, e2, e3, e4, e5⟩
          · simp at hlen; omega
          · rw [hg] at e1; cases e1
            rw [hh] at e2; cases e2
            have hlen' : ((xs.drop off).take n).length = n := by simp; omega
            have hget : ∀ j x, ((xs.drop off).take n)[j]? = some x → xs[off + j]? = some x := fun j x h => by
              rw [List.getElem?_take] at h
              split at h
              · rwa [List.getElem?_drop] at h
              · cases h
            have key := RelV.slc (w := w) (p := p.bare) k ((xs.drop off).take n) b (off * k) cap (fun j i => (cur[(off + j) * k + i]?).getD undef) (hm.bare hg) (by rw [hlen']; exact hn') hcap
              (fun x hx => e4 x (List.mem_of_mem_drop (List.mem_of_mem_take hx)))
              (fun j x i c hj hi => by
                obtain ⟨u, hu, _⟩ := e5 _ x i c (hget j x hj) hi
                have e : off * k + j * k + i = (off + j) * k + i := by rw [Nat.add_mul]
                rw [cell_of_heap hh, e, hu]; rfl)
              (fun j x i c hj hi => by
                obtain ⟨u, hu, hr⟩ := e5 _ x i c (hget j x hj) hi
                rw [hu]
                exact hr.leaf_bare ((e4 x (List.mem_of_getElem? (hget j x hj))).2 c (List.mem_of_getElem? hi)))
            rwa [hlen'] at key
      · exact .bad _
    · exact .bad _
  | ref g k j f b hg =>
    simp only [AV.conv]
    split
    · rename_i m hl
      split
      · rename_i hall
        have hall' : ∀ c ∈ m.at k j f, c.leaf = true := by simpa using hall
        exact .adr (m.at k j f) b (j * k + f) (fun i => (w.cell? ⟨b, j * k + f + i, none⟩).getD undef) (hm.bare hg) hall'
          (fun i c hi => by obtain ⟨u, hu, _⟩ := (hm.holds g m hl).at hg i c hi; rw [hu]; rfl)
          (fun i c hi => by
            obtain ⟨u, hu, hr⟩ := (hm.holds g m hl).at hg i c hi
            rw [hu]; exact hr.leaf_bare (hall' c (List.mem_of_getElem? hi)))
      · exact .bad _
    · exact .bad _

end Go.Abs
