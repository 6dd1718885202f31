import Derived.Test.YtpicjibfbghonaaA13
set_option linter.unusedVariables false
set_option linter.unusedSimpArgs false
namespace Go.Abs
open Go Go.RowKit
variable {P : Program} {w0 : World} {p0 : Hp}

mutual
/-- The value as it reads once all names but those that are ok are given up. -/
def AV.only (ok : Nat → Bool) (mem : Mem) : AV → AV
  | .own g k off n => if ok g then .own g k off n else match look mem g with
    | some (.buf k' xs) => if (k = k' ∨ n = 0) ∧ off + n ≤ xs.length then .sl k ((xs.drop off).take n) else .bad
    | _ => .bad
  | .ref g k j f => if ok g then .ref g k j f else match look mem g with
    | some m => if (m.at k j f).all AV.leaf then .adr (m.at k j f) else .bad
    | none => .bad
  | .agg cs => .agg (onlyL ok mem cs)
  | .tup cs => .tup (onlyL ok mem cs)
  | .fn f cs => .fn f (onlyL ok mem cs)
  | .s v => .s v
  | .sl k xs => .sl k xs
  | .adr cs => .adr cs
  | .bad => .bad
def onlyL (ok : Nat → Bool) (mem : Mem) : List AV → List AV
  | [] => []
  | c :: cs => c.only ok mem :: onlyL ok mem cs
end
theorem onlyL_eq (ok : Nat → Bool) (mem : Mem) : ∀ cs, onlyL ok mem cs = cs.map (AV.only ok mem)
  | [] => rfl
  | c :: cs => by simp [onlyL, onlyL_eq ok mem cs]
theorem AV.only_leaf {ok : Nat → Bool} {mem : Mem} {c : AV} (h : c.leaf = true) : c.only ok mem = c := by cases c <;> first | rfl | (simp [AV.leaf] at h)

def Hp.only (ok : Nat → Bool) (p : Hp) : Hp := { o := fun g => if ok g then p.o g else none, A := p.A }
def Mem.only (ok : Nat → Bool) (mem : Mem) : Mem → Mem
  | [] => []
  | (g, m) :: r => if ok g then (g, match m with | .box cs => .box (onlyL ok mem cs) | m => m) :: Mem.only ok mem r else Mem.only ok mem r
def St.only (ok : Nat → Bool) (σ : St) : St := { n := σ.n, slots := σ.slots.map fun x => (x.1, x.2.only ok σ.mem), mem := Mem.only ok σ.mem σ.mem }

theorem Stable.only {w : World} {p : Hp} {ok : Nat → Bool} {b : Nat} (h : Stable w p b) : Stable w (p.only ok) b :=
  ⟨h.1, (fun g hg => by simp only [Hp.only] at hg; split at hg; exact h.2.1 g hg; cases hg), h.2.2⟩
theorem MemRel.only_stable {w : World} {p : Hp} {mem : Mem} (hm : MemRel w p mem) {ok : Nat → Bool} {g b : Nat} (hg : p.o g = some (some b)) (hok : ok g = false) : Stable w (p.only ok) b :=
  ⟨hm.lt hg, (fun g' h => by
    simp only [Hp.only] at h
    split at h
    · rename_i h2
      have := hm.inj g g' b hg h
      subst this; rw [hok] at h2; cases h2
    · cases h), hm.avoid g b hg⟩

theorem RelV.leaf_only {w : World} {p : Hp} {ok : Nat → Bool} {c : AV} {v : Value} (h : RelV w p c v) (hc : c.leaf = true) : RelV w (p.only ok) c v :=
  h.move (ok := fun _ => false) (fun b hb => ⟨hb.only, rfl⟩) (fun g x h _ => by cases h) (AV.clean_of_leaf hc)

theorem RelV.only {w : World} {p : Hp} {mem : Mem} (hm : MemRel w p mem) (ok : Nat → Bool) {a : AV} {v : Value} (h : RelV w p a v) : RelV w (p.only ok) (a.only ok mem) v := by
  induction h with
  | s v => exact .s v
  | agg cs vs hl _ ih =>
    simp only [AV.only, onlyL_eq]
    refine .agg _ vs (by simpa using hl) fun i c v h1 h2 => ?_
    rw [List.getElem?_map] at h1
    cases hi : cs[i]? with
    | none => simp [hi] at h1
    | some c' => simp [hi] at h1; subst h1; exact ih i c' v hi h2
  | tup cs vs hl _ ih =>
    simp only [AV.only, onlyL_eq]
    refine .tup _ vs (by simpa using hl) fun i c v h1 h2 => ?_
    rw [List.getElem?_map] at h1
    cases hi : cs[i]? with
    | none => simp [hi] at h1
    | some c' => simp [hi] at h1; subst h1; exact ih i c' v hi h2
  | fn f cs vs hl _ ih =>
    simp only [AV.only, onlyL_eq]
    refine .fn f _ vs (by simpa using hl) fun i c v h1 h2 => ?_
    rw [List.getElem?_map] at h1
    cases hi : cs[i]? with
    | none => simp [hi] at h1
    | some c' => simp [hi] at h1; subst h1; exact ih i c' v hi h2
  | sln k a cap hcap => exact .sln k a cap hcap
  | slc k xs b off cap f hb hn' hcap hkk hc hr ih =>
    exact .slc k xs b off cap f hb.only hn' hcap hkk hc (fun j x i c hj hi => by
      have := ih j x i c hj hi
      rwa [AV.only_leaf ((hkk x (List.mem_of_getElem? hj)).2 c (List.mem_of_getElem? hi))] at this)
  | adr cs b off f hb hkk hc hr ih =>
    exact .adr cs b off f hb.only hkk hc (fun i c hi => by
      have := ih i c hi
      rwa [AV.only_leaf (hkk c (List.mem_of_getElem? hi))] at this)
  | bad v => exact .bad v
  | ownn g k hg =>
    simp only [AV.only]
    split
    · rename_i hok; exact .ownn g k (by simp [Hp.only, hok, hg])
    · split
      · split
        · simp only [List.drop_zero, List.take_zero] at *
          exact .sln k none 0 (by simp)
        · exact .bad _
      · exact .bad _
  | own0 g k off b a hg =>
    simp only [AV.only]
    split
    · rename_i hok; exact .own0 g k off b a (by simp [Hp.only, hok, hg])
    · split
      · split
        · simp only [List.take_zero]
          exact .sln k _ 0 (by simp)
        · exact .bad _
      · exact .bad _
  | own g k off n b cap cur T hg hn' hcap hh hsz =>
    simp only [AV.only]
    split
    · rename_i hok; exact .own g k off n b cap cur T (by simp [Hp.only, hok, hg]) hn' hcap hh hsz
    · rename_i hok
      split
      · rename_i k' xs hl
        split
        · rename_i hc
          obtain ⟨hk, hlen⟩ := hc
          by_cases hn0 : n = 0
          · subst hn0
            simp only [List.take_zero]
            exact .sln k _ cap hcap
          · have hk' : k = k' := by rcases hk with h | h; exact h; exact absurd h hn0
            subst hk'
            rcases hm.holds g _ hl with ⟨rfl, _⟩ | ⟨b', cur', T', e1, e2, e3, e4, e5⟩
            · simp at hlen; omega
            · rw [hg] at e1; cases e1
              rw [hh] at e2; cases e2
              have hlen' : ((xs.drop off).take n).length = n := by simp; omega
              have hget : ∀ j x, ((xs.drop off).take n)[j]? = some x → xs[off + j]? = some x := fun j x h => by
                rw [List.getElem?_take] at h
                split at h
                · rwa [List.getElem?_drop] at h
                · cases h
              have key := RelV.slc (w := w) (p := p.only ok) k ((xs.drop off).take n) b (off * k) cap (fun j i => (cur[(off + j) * k + i]?).getD undef) (hm.only_stable hg (by simpa using hok)) (by rw [hlen']; exact hn') hcap
                (fun x hx => e4 x (List.mem_of_mem_drop (List.mem_of_mem_take hx)))
                (fun j x i c hj hi => by
                  obtain ⟨u, hu, _⟩ := e5 _ x i c (hget j x hj) hi
                  have e : off * k + j * k + i = (off + j) * k + i := by rw [Nat.add_mul]
                  rw [cell_of_heap hh, e, hu]; rfl)
                (fun j x i c hj hi => by
                  obtain ⟨u, hu, hr⟩ := e5 _ x i c (hget j x hj) hi
                  rw [hu]
                  exact hr.leaf_only ((e4 x (List.mem_of_getElem? (hget j x hj))).2 c (List.mem_of_getElem? hi)))
              rwa [hlen'] at key
        · exact .bad _
      · exact .bad _
  | ref g k j f b hg =>
    simp only [AV.only]
    split
    · rename_i hok; exact .ref g k j f b (by simp [Hp.only, hok, hg])
    · rename_i hok
      split
      · rename_i m hl
        split
        · rename_i hall
          have hall' : ∀ c ∈ m.at k j f, c.leaf = true := by simpa using hall
          exact .adr (m.at k j f) b (j * k + f) (fun i => (w.cell? ⟨b, j * k + f + i, none⟩).getD undef) (hm.only_stable hg (by simpa using hok)) hall'
            (fun i c hi => by obtain ⟨u, hu, _⟩ := (hm.holds g m hl).at hg i c hi; rw [hu]; rfl)
            (fun i c hi => by
              obtain ⟨u, hu, hr⟩ := (hm.holds g m hl).at hg i c hi
              rw [hu]; exact hr.leaf_only (hall' c (List.mem_of_getElem? hi)))
        · exact .bad _
      · exact .bad _

theorem look_memOnly (ok : Nat → Bool) (mem : Mem) : ∀ (l : Mem) (g : Nat), look (Mem.only ok mem l) g = if ok g then (look l g).map (fun m => match m with | .box cs => .box (onlyL ok mem cs) | m => m) else none
  | [], g => by simp [Mem.only, look]
  | (d, m) :: r, g => by
    simp only [Mem.only]
    by_cases hd : ok d = true
    · rw [if_pos hd]
      simp only [look]
      by_cases e : d = g
      · subst e; simp [hd]
      · rw [if_neg e, if_neg e]; exact look_memOnly ok mem r g
    · rw [if_neg hd, look_memOnly ok mem r g]
      simp only [look]
      by_cases e : d = g
      · subst e; simp [hd]
      · rw [if_neg e]

theorem look_map (f : AV → AV) : ∀ (l : List (Nat × AV)) (t : Nat), look (l.map fun x => (x.1, f x.2)) t = (look l t).map f
  | [], _ => rfl
  | (d, a) :: r, t => by
    simp only [List.map_cons, look]
    split
    · rfl
    · exact look_map f r t

theorem Le.only (ok : Nat → Bool) (σ : St) : Le σ (σ.only ok) := by
  intro w0 p0 a w ⟨h1, h2, p, hE, hs, hm⟩
  refine ⟨h1, h2, p.only ok, ⟨hE.os, hE.tape, hE.output, hE.size, hE.A, fun b hb => ⟨(hE.stab b hb).1.only, (hE.stab b hb).2⟩, hE.others, fun g x hx => ?_⟩, fun t b hb => ?_, ?_⟩
  · by_cases hok : ok g = true
    · rcases hE.name g x hx with h | h
      · exact .inl (by simp [Hp.only, h])
      · exact .inr ⟨by simp [Hp.only, hok, h.1], h.2⟩
    · exact .inl (by simp [Hp.only, hok])
  · simp only [St.only, look_map] at hb
    cases hl : look σ.slots t with
    | none => simp [hl] at hb
    | some c =>
      simp [hl] at hb; subst hb
      obtain ⟨v, hv, hr⟩ := hs t c hl
      exact ⟨v, hv, hr.only hm ok⟩
  · refine ⟨fun g hl => ?_, fun g m hl => ?_, fun g g' b e1 e2 => ?_, fun g b e => ?_⟩
    · simp only [St.only, look_memOnly] at hl
      by_cases hok : ok g = true
      · simp [hok] at hl
        simp [Hp.only, hm.dom g hl]
      · simp [Hp.only, hok]
    · simp only [St.only, look_memOnly] at hl
      by_cases hok : ok g = true
      · rw [if_pos hok] at hl
        cases hl' : look σ.mem g with
        | none => simp [hl'] at hl
        | some m' =>
          rw [hl'] at hl
          have := hm.holds g m' hl'
          cases m' with
          | box cs =>
            simp at hl; subst hl
            obtain ⟨b, cur, T, e1, e2, e3, e4⟩ := this
            refine ⟨b, cur, T, by simp [Hp.only, hok, e1], e2, by simpa [onlyL_eq] using e3, fun i c hc => ?_⟩
            rw [onlyL_eq, List.getElem?_map] at hc
            cases hi : cs[i]? with
            | none => simp [hi] at hc
            | some c' =>
              simp [hi] at hc; subst hc
              obtain ⟨v, hv, hr⟩ := e4 i c' hi
              exact ⟨v, hv, hr.only hm ok⟩
          | buf k xs =>
            simp at hl; subst hl
            rcases this with ⟨e0, e1⟩ | ⟨b, cur, T, e1, e2, e3, e4, e5⟩
            · exact .inl ⟨e0, by simp [Hp.only, hok, e1]⟩
            · exact .inr ⟨b, cur, T, by simp [Hp.only, hok, e1], e2, e3, e4, fun j x i c hx hc => by
                obtain ⟨v, hv, hr⟩ := e5 j x i c hx hc
                exact ⟨v, hv, hr.leaf_only ((e4 x (List.mem_of_getElem? hx)).2 c (List.mem_of_getElem? hc))⟩⟩
      · simp [hok] at hl
    · simp only [Hp.only] at e1 e2
      split at e1
      · split at e2
        · exact hm.inj g g' b e1 e2
        · cases e2
      · cases e1
    · simp only [Hp.only] at e
      split at e
      · exact hm.avoid g b e
      · cases e

/-- Fewer slots say less. -/
def covers (f : Nat → Option AV) : List (Nat × AV) → Prop
  | [] => True
  | (t, a) :: r => f t = some a ∧ covers f r
theorem covers_look {f : Nat → Option AV} : ∀ {l : List (Nat × AV)}, covers f l → ∀ t a, look l t = some a → f t = some a
  | [], _, _, _, h => by simp [look] at h
  | (d, b) :: r, hc, t, a, h => by
    simp only [look] at h
    split at h
    · rename_i e; subst e; cases h; exact hc.1
    · exact covers_look hc.2 t a h
theorem Le.cover {σ σ' : St} (hn : σ'.n = σ.n) (hm : σ'.mem = σ.mem) (hs : covers (look σ.slots) σ'.slots) : Le σ σ' := by
  intro w0 p0 a w ⟨h1, h2, p, hE, hsl, hmem⟩
  exact ⟨h1, by rw [hn]; exact h2, p, hE, fun t b hb => hsl t b (covers_look hs t b hb), by rw [hm]; exact hmem⟩

end Go.Abs
