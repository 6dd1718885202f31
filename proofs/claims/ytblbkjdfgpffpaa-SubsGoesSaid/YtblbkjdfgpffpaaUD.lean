import Derived.Test.YtblbkjdfgpffpaaF
import Derived.Deep.RegionLaw
import Derived.WalkKit
import Derived.Deep.LoopGhost
set_option linter.unusedVariables false
namespace Go.Proofs.Ytblbkjdfgpffpaa
open Go Go.Abs Go.RowKit Go.Lib Go.Sort
theorem step_append_roomT {P : Program} {ops : Array Oper} {o : Oper} {a : Act} {w : World} {K : Act → World → Prop} {Q : Exit → Act → World → Prop} {E : Prop}
    (hg : o.guard = none) (s x : Operand) (t : TypeId) (hop : o.op = Op.call { callee := Callee.builtin Builtin.append, args := #[s, x], argTypes := #[t, t] })
    {e k : Nat} (ht : elem? P t = some e) (hk : cells? P e = some k) {T : TypeId} (g n cap : Nat) (hs : a.eval s = .slice (some ⟨g, 0, none⟩) n cap)
    (cur : Array Value) (hg0 : w.heap[g]? = some (.cells cur T (0, 0))) (ad : Addr) (m c : Nat) (news : List Value) (hx : a.eval x = .slice (some ad) m c) (hl : news.length = m * k)
    (hnews : ∀ j u, news[j]? = some u → w.cell? (ad.add j) = some u) (h1 : ∀ u ∈ news, u.oneCell' = true) (hroom : n + m ≤ cap) (hfit : n * k + news.length ≤ cur.size)
    (hK : K (a.put o.dst (.slice (some ⟨g, 0, none⟩) (n + m) cap)) (w.setRow g (cur.toList.take (n * k) ++ news ++ cur.toList.drop (n * k + news.length)).toArray)) :
    if Region.wanted o (yielded ops a.tmps) = true then Oper.wp P o a w K Q else E := by
  have hw : Region.wanted o (yielded ops a.tmps) = true := by simp [Region.wanted, hg]
  rw [if_pos hw]
  have hrun := run_append_roomT (P := P) (t := t) (ty := o.type) ht hk g n cap cur hg0 ad m c news hl hnews h1 hroom hfit
  unfold Oper.wp
  have he : (execOp a.eval o).run P w = ((Builtin.append_ #[t, t] o.type #[a.eval s, a.eval x]).run P w).andThen fun v w' => .ok (.value v) w' := by
    simp [execOp, hop, resolve, invoke, builtin]
  rw [he, hs, hx, hrun]
  exact hK
theorem setRow_twice (w : World) (b : Nat) (c1 c2 : Array Value) : (w.setRow b c1).setRow b c2 = w.setRow b c2 := by
  unfold World.setRow
  congr 1
  apply Array.ext
  · simp
  · intro i h1 h2
    simp only [Array.getElem_modify]
    split
    · generalize w.heap[i]'(by simpa using h2) = x
      cases x <;> rfl
    · rfl
set_option maxHeartbeats 4000000 in
set_option maxRecDepth 1000000 in
theorem delete_calls (b cap n i j : Nat) (cur : Array Value) (T : TypeId) (w : World) (hh : w.heap[b]? = some (.cells cur T (0, 0))) (hsz : cap * 4 ≤ cur.size) (hn : n ≤ cap) (hm : cap ≤ 9223372036854775807) (hij : j = i + 1) (hi : i < n)
    (hone : ∀ (j : Nat) (v : Value), j < n * 4 → cur[j]? = some v → v.oneCell' = true) :
    Calls Try.prog 44 #[.slice (some ⟨b, 0, none⟩) n cap, .int .i64 i, .int .i64 ((j : Nat) : Int)] w fun e w' => e = .returned (.slice (some ⟨b, 0, none⟩) (n - 1) cap) ∧
      ∃ cs, w' = w.drew.setRow b cs ∧ cs.size = cur.size ∧ ∀ q, q < (n - 1) * 4 → cs[q]? = if q < i * 4 then cur[q]? else cur[q + 4]? := by
  have hh' : w.drew.heap[b]? = some (.cells cur T (0, 0)) := hh
  have hcell : ∀ j, j < cap * 4 → w.drew.cell? ⟨b, j, none⟩ = cur[j]? := fun j hj => by simp [World.cell?, hh']
  obtain ⟨news, hnews⟩ : ∃ news, news = (cur.toList.drop (j * 4)).take ((n - j) * 4) := ⟨_, rfl⟩
  have hlen : news.length = (n - j) * 4 := by
    rw [hnews]; simp only [List.length_take, List.length_drop, Array.length_toList]; omega
  have hget : ∀ t, t < (n - j) * 4 → news[t]? = cur[j * 4 + t]? := fun t ht => by
    rw [hnews, List.getElem?_take, if_pos ht, List.getElem?_drop, Array.getElem?_toList]
  obtain ⟨A, hA, hsrc⟩ : ∃ A : Addr, (if cap = j then some (⟨b, 0, none⟩ : Addr) else some ⟨b, j * 4, none⟩) = some A ∧ Hid (∀ t u, news[t]? = some u → w.drew.cell? (A.add t) = some u) := by
    by_cases h : cap = j
    · refine ⟨⟨b, 0, none⟩, by simp [h], fun t u hu => ?_⟩
      have h0 : news.length = 0 := by rw [hlen]; omega
      rw [List.length_eq_zero_iff.1 h0] at hu
      simp at hu
    · refine ⟨⟨b, j * 4, none⟩, by simp [h], fun t u hu => ?_⟩
      have ht : t < (n - j) * 4 := by
        have := (List.getElem?_eq_some_iff.1 hu).1
        rwa [hlen] at this
      rw [hget t ht] at hu
      rw [Addr.add_lit]
      exact (hcell _ (by omega)).trans hu
  obtain ⟨he, hck, hk0, i0, z, hi0, hzz, hik, hby, hzc⟩ := appT?_inv Try.ap26
  have s1 : Hid (news.length = (n - j) * 4) := hlen
  have s2 : Hid (∀ u ∈ news, u.oneCell' = true) := by
    intro u hu
    obtain ⟨t, ht⟩ := List.getElem?_of_mem hu
    have ht2 := (List.getElem?_eq_some_iff.1 ht).1
    rw [hlen] at ht2
    rw [hget t ht2] at ht
    exact hone _ _ (by omega) ht
  have s3 : Hid (i * 4 + news.length ≤ cur.size) := by show i * 4 + news.length ≤ cur.size; rw [hlen]; omega
  have s4 : Hid (w.drew.heap[b]? = some (.cells cur T (0, 0))) := hh'
  obtain ⟨cs1, hcs1⟩ : ∃ cs1, cs1 = (cur.toList.take (i * 4) ++ news ++ cur.toList.drop (i * 4 + news.length)).toArray := ⟨_, rfl⟩
  have hc1s : cs1.size = cur.size := by
    rw [hcs1]; simp only [List.size_toArray, List.length_append, List.length_take, List.length_drop, Array.length_toList, hlen]; omega
  obtain ⟨W1, hW1⟩ : ∃ W1, W1 = w.drew.setRow b cs1 := ⟨_, rfl⟩
  have hb1 : W1.heap[b]? = some (.cells cs1 T (0, 0)) := by rw [hW1]; exact setRow_heap _ b cur cs1 T _ hh'
  have hW : Hid (W1 = w.drew.setRow b (cur.toList.take (i * 4) ++ news ++ cur.toList.drop (i * 4 + news.length)).toArray) := by rw [← hcs1]; exact hW1
  have hrz : (zeroValue 63).run Try.prog W1 = .ok z W1 := by simp [zeroValue, typeInfo, hi0, hzz]
  have hz1 : ∀ u ∈ z.cells.toList, u.oneCell' = true := by
    have hz := Try.z63
    unfold zeros? at hz
    simp [hi0, hzz] at hz
    intro u hu
    rw [hz] at hu
    simp at hu
    rcases hu with rfl | rfl <;> rfl
  have hzl : (Builtin.zeroCells z.cells (n - (i + (n - j)))).toList.length = 4 := by rw [Array.length_toList, size_zeroCells, hzc]; omega
  have hst := run_storeCells_at Try.prog b ((i + (n - j)) * 4) T (Builtin.zeroCells z.cells (n - (i + (n - j)))).toList 0 cs1 W1 hb1 (by rw [hzl, hc1s]; omega) (fun u hu => hz1 u (mem_zeroCells (by rw [hzc]; exact hk0) hu))
  simp only [Nat.add_zero] at hst
  obtain ⟨cs2, hcs2⟩ : ∃ cs2, cs2 = (cs1.toList.take ((i + (n - j)) * 4) ++ (Builtin.zeroCells z.cells (n - (i + (n - j)))).toList ++ cs1.toList.drop ((i + (n - j)) * 4 + (Builtin.zeroCells z.cells (n - (i + (n - j)))).toList.length)).toArray := ⟨_, rfl⟩
  rw [← hcs2] at hst
  have hcl : ∀ ty, (Builtin.clear_ #[26] ty #[.slice (some ⟨b, (i + (n - j)) * 4, none⟩) (n - (i + (n - j))) (cap - (i + (n - j)))]).run Try.prog W1 = .ok (.tuple #[]) (W1.setRow b cs2) := fun ty => by
    have h0 : ¬ (n - (i + (n - j)) = 0) := by omega
    simp [Builtin.clear_, run_underlying (elem?_inv he), h0, hrz, hst]
  have hlt : i < j := by omega
  have hjn : j ≤ n := by omega
  have hic : i ≤ cap := by omega
  have hjc : j ≤ cap := by omega
  have hfin : W1.setRow b cs2 = w.drew.setRow b cs2 ∧ cs2.size = cur.size ∧ ∀ q, q < (n - 1) * 4 → cs2[q]? = if q < i * 4 then cur[q]? else cur[q + 4]? := by
    have hnj : (i + (n - j)) * 4 = (n - 1) * 4 := by rw [hij]; omega
    refine ⟨?_, ?_, ?_⟩
    · rw [hW1]; exact setRow_twice _ _ _ _
    · rw [hcs2]; simp only [List.size_toArray, List.length_append, List.length_take, List.length_drop, hzl, Array.length_toList, hc1s]; omega
    · intro q hq
      have e2 : cs2[q]? = cs1[q]? := by
        rw [hcs2, List.getElem?_toArray, List.append_assoc, List.getElem?_append_left (by simp only [List.length_take, Array.length_toList]; omega), List.getElem?_take, if_pos (by omega), Array.getElem?_toList]
      rw [e2, hcs1, List.getElem?_toArray, List.append_assoc]
      by_cases h : q < i * 4
      · rw [if_pos h, List.getElem?_append_left (by simp only [List.length_take, Array.length_toList]; omega), List.getElem?_take, if_pos h, Array.getElem?_toList]
      · have hlt : (cur.toList.take (i * 4)).length = i * 4 := by simp only [List.length_take, Array.length_toList]; omega
        rw [if_neg h, List.getElem?_append_right (by omega), hlt, List.getElem?_append_left (by rw [hlen]; omega), hget _ (by omega)]
        congr 1
        omega
  have hfin' := show Hid _ from hfin
  clear hW1 hb1 hcs1 hcs2 hst hnews hget hfin hh' hcell hh hone hc1s hzl
  have hij2 : Hid (j = i + 1) := hij
  clear hij
  go_enter Try.func44, Try.ntmps44
  go_wp2_with fail
  go_region_law (refine step_append_roomT rfl (.tmp 22) (.tmp 25) 26 rfl he hck b i cap (by simp [Act.eval, Act.put]) cur s4.out A (n - j) (cap - j) news (by simp [Act.eval, Act.put]) s1.out hsrc.out s2.out (by omega) s3.out ?_; rw [← hW.out])
  go_wp2
  go_ret
  have h1 : j = i + 1 := hij2
  refine ⟨?_, cs2, hfin'⟩
  rw [show n - 1 = i + (n - j) by omega]
  rfl

theorem delete_denM (xs : List (List AV)) (n i : Nat) (z : Int) (hz : z = ((i + 1 : Nat) : Int)) (hn : n = xs.length) (hi : i < n) : DenM Try.prog 44 [.own E0 4 0 n, .s (.int .i64 (i : Nat)), .s (.int .i64 z)] 4 xs (fun r ys => r = .own E0 4 0 (n - 1) ∧ ys = xs.take i ++ xs.drop (i + 1)) := by
  subst hz
  intro A w x vals hA hx hr hb
  obtain ⟨v0, v1, v2, rfl⟩ : ∃ v0 v1 v2, vals = [v0, v1, v2] := by
    have := hr.1
    match vals, this with
    | [a, b, c], _ => exact ⟨a, b, c, rfl⟩
  have r0 := hr.2 0 _ v0 rfl rfl
  have r1 := hr.2 1 _ v1 rfl rfl
  have r2 := hr.2 2 _ v2 rfl rfl
  cases r1
  cases r2
  rcases hb with ⟨hb, _⟩ | ⟨b, cur, T, hbE, hh, hcs, hck, hcell⟩
  · rw [hb] at hn; simp at hn; omega
  have hxb := (one0_o hbE).2
  subst hxb
  have hbs : b < w.heap.size := (Array.getElem?_eq_some_iff.1 hh).1
  obtain ⟨cap, hcap, hcm, hsz, rfl⟩ : ∃ cap, n ≤ cap ∧ cap ≤ 9223372036854775807 ∧ cap * 4 ≤ cur.size ∧ v0 = .slice (some ⟨b, 0, none⟩) n cap := by
    cases r0 with
    | ownn _ _ _ => omega
    | own _ _ _ _ b' cap cur' T' hg h1 h2 h3 h4 =>
      have := (one0_o hg).2; cases this
      rw [hh] at h3; cases h3
      exact ⟨cap, h1, by simpa [maxLen] using h2, by omega, by simp⟩
    | own0 _ _ _ _ _ _ => omega
  have hleaf : ∀ (j : Nat) (y : List AV) (q : Nat) (a : AV), xs[j]? = some y → y[q]? = some a → a.leaf = true ∧ q < 4 := fun j y q a hy ha =>
    ⟨(hck y (List.mem_of_getElem? hy)).2 a (List.mem_of_getElem? ha), by rw [← (hck y (List.mem_of_getElem? hy)).1]; exact (List.getElem?_eq_some_iff.1 ha).1⟩
  have hone : ∀ (j : Nat) (v : Value), j < n * 4 → cur[j]? = some v → v.oneCell' = true := fun j v hj hv => by
    have hj4 : j / 4 < xs.length := by rw [← hn]; omega
    have hy : xs[j / 4]? = some xs[j / 4] := List.getElem?_eq_getElem hj4
    have hl := (hck _ (List.mem_of_getElem? hy)).1
    obtain ⟨u, hu, hru⟩ := hcell (j / 4) _ (j % 4) _ hy (List.getElem?_eq_getElem (by rw [hl]; omega))
    rw [show j / 4 * 4 + j % 4 = j by omega, hv] at hu
    cases hu
    exact hru.one (AV.one_of_leaf (hleaf _ _ (j % 4) _ hy (List.getElem?_eq_getElem (by rw [hl]; omega))).1)
  refine (delete_calls b cap n i (i + 1) cur T w hh hsz hcap hcm rfl hi hone).mono ?_
  rintro e w' ⟨rfl, cs, rfl, hcsz, hget⟩
  have hb' : (w.drew.setRow b cs).heap[b]? = some (.cells cs T (0, 0)) := setRow_heap _ b cur cs T _ hh
  have hoth : ∀ b', b' ≠ b → (w.drew.setRow b cs).heap[b']? = w.heap[b']? := fun b' hne => setRow_other w.drew b b' cs hne
  have hwsz : (w.drew.setRow b cs).heap.size = w.heap.size := by
    show (w.drew.setRow b cs).heap.size = w.drew.heap.size
    simp [World.setRow]
  have hne : ∀ b', Stable w (one0 (some b) A) b' → b' ≠ b := fun b' hb' h => hb'.2.1 E0 (by rw [one0_E0, h])
  have hstab : ∀ b', Stable w (one0 (some b) A) b' → Stable (w.drew.setRow b cs) (one0 (some b) A) b' := fun b' hb' => ⟨by rw [hwsz]; exact hb'.1, hb'.2⟩
  have hmv : ∀ (a : AV) (v : Value), a.leaf = true → RelV w (one0 (some b) A) a v → RelV (w.drew.setRow b cs) (one0 (some b) A) a v :=
    fun a v hlf h => h.move (ok := fun _ => false) (fun b' hb' => ⟨hstab b' hb', hoth b' (hne b' hb')⟩) (fun _ _ h _ => by cases h) (AV.clean_of_leaf hlf)
  have hl2 : (xs.take i ++ xs.drop (i + 1)).length = n - 1 := by simp only [List.length_append, List.length_take, List.length_drop]; omega
  refine ⟨_, .own E0 4 0 (n - 1), xs.take i ++ xs.drop (i + 1), rfl, ⟨rfl, rfl⟩, ?_, ?_, ?_⟩
  · refine ⟨rfl, ⟨rfl, Nat.le_add_right _ _⟩, rfl, by rw [hwsz]; omega, rfl, fun b' hb' => ⟨hstab b' hb', hoth b' (hne b' hb')⟩, fun b' hb' hAb => hoth b' (fun h => hx b' (by rw [h]) hAb), fun g' x hg' => ?_⟩
    have := one0_o hg'
    obtain ⟨rfl, rfl⟩ := this
    refine .inr ⟨one0_E0 _ _, fun b' hb' cur' T' hh' => ?_⟩
    cases hb'
    rw [hh] at hh'; cases hh'
    exact ⟨_, by assumption, hcsz⟩
  · refine .inr ⟨b, cs, T, one0_E0 _ _, hb', ?_, ?_, ?_⟩
    · rw [hl2, hcsz]; omega
    · intro y hy
      rcases List.mem_append.1 hy with hy | hy
      · exact hck y (List.mem_of_mem_take hy)
      · exact hck y (List.mem_of_mem_drop hy)
    · intro j y q a hy ha
      have hj : j < n - 1 := by rw [← hl2]; exact (List.getElem?_eq_some_iff.1 hy).1
      by_cases h : j < i
      · rw [List.getElem?_append_left (by simp only [List.length_take]; omega), List.getElem?_take, if_pos h] at hy
        obtain ⟨hlf, hq⟩ := hleaf j y q a hy ha
        obtain ⟨u, hu, hru⟩ := hcell j y q a hy ha
        refine ⟨u, ?_, hmv _ _ hlf hru⟩
        rw [hget _ (by omega), if_pos (by omega)]; exact hu
      · have htl : (xs.take i).length = i := by simp only [List.length_take]; omega
        rw [List.getElem?_append_right (by omega), htl, List.getElem?_drop, show i + 1 + (j - i) = j + 1 by omega] at hy
        obtain ⟨hlf, hq⟩ := hleaf (j + 1) y q a hy ha
        obtain ⟨u, hu, hru⟩ := hcell (j + 1) y q a hy ha
        refine ⟨u, ?_, hmv _ _ hlf hru⟩
        rw [hget _ (by omega), if_neg (by omega), ← hu]
        congr 1; omega
  · have := RelV.own (w := w.drew.setRow b cs) (p := one0 (some b) A) E0 4 0 (n - 1) b cap cs T (one0_E0 _ _) (by omega) (by simpa [maxLen] using hcm) hb' (by omega)
    simpa using this
end Go.Proofs.Ytblbkjdfgpffpaa
