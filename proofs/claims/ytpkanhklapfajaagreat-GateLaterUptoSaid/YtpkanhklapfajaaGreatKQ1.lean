import Derived.WalkKit
import Derived.WalkSpells
import Derived.WalkLawsBesides
import Derived.Deep.LoopGhost
import Derived.ChangeKeysEq
import Derived.Still
import Derived.Lib.AppendZeros
import Derived.Laws.StructEq
import Derived.OpenShut
import Derived.Scope
import Derived.Shelf.SlSortCmp.Kit1
import Derived.Shelf.SlSortCmp.InsertionK
import Derived.Lib.SlicesCompact
import Derived.ProofKit
import Derived.ChangeSame
import Derived.Carry
import Derived.SliceStrings
import Derived.ChangeMaps5
import Derived.Deep.Slices
import Derived.Test.YtpkanhklapfajaaGreatRows
import Derived.Shelf.Abstract
import Derived.Shelf.SlSortCmp.WholeK
import Derived.Shelf.SlSortCmp.Whole1
import Derived.Shelf.SlSortCmp.NoneTotal
import Derived.Deep.RegionLaw
import Derived.Lib.Walk
import Derived.Lib.Overlaps
import Derived.Lib.AppendZerosOnto
import Derived.Laws.CopyRow
set_option maxRecDepth 20000
set_option maxHeartbeats 16000000
namespace Go.Abs
open Go Go.RowKit
inductive AV where
  | s (v:Value)
  | agg (cs:List AV)
  | tup (vs:List AV)
  | sl (k:Nat) (xs:List (List AV))
  | own (g k off n:Nat)
  | adr (cs:List AV)
  | ref (g k j f:Nat)
  | fn (f:Nat) (cap:List AV)
  | bad
  deriving Inhabited
def AV.still:AV→Bool
  | .s _=>true
  | .sl _ _=>true
  | .adr _=>true
  | _=>false
def AV.leaf:AV→Bool
  | .s v=>v.oneCell'
  | .sl _ _=>true
  | .fn _ cs=>cs.all AV.still
  | _=>false
abbrev aJ6:=Nat→Option (Option Nat)
structure Hp where
  o:aJ6
  A:Nat→Prop
def Stable (w:World) (h:Hp) (b:Nat):Prop:=b<w.heap.size∧(∀ g,h.o g≠some (some b))∧¬ h.A b
inductive RelV (w:World) (p:Hp):AV→Value→Prop where
  | s (v:Value):RelV w p (.s v) v
  | agg (cs:List AV) (vs:Array Value) (hl:cs.length=vs.size) (h:∀ (i:Nat) c v,cs[i]?=some c→vs[i]?=some v→RelV w p c v):RelV w p (.agg cs) (.agg vs)
  | tup (cs:List AV) (vs:Array Value) (hl:cs.length=vs.size) (h:∀ (i:Nat) c v,cs[i]?=some c→vs[i]?=some v→RelV w p c v):RelV w p (.tup cs) (.tuple vs)
  | sln (k:Nat) (a:Option Addr) (cap:Nat) (hcap:cap≤maxLen):RelV w p (.sl k []) (.slice a 0 cap)
  | slc (k:Nat) (xs:List (List AV)) (b off cap:Nat) (f:Nat→Nat→Value) (hb:Stable w p b) (hn:xs.length≤cap) (hcap:cap≤maxLen)
      (hk:∀ x∈xs,x.length=k∧∀ c∈x,c.leaf=true)
      (hc:∀ (j:Nat) x (i:Nat) c,xs[j]?=some x→x[i]?=some c→w.cell? ⟨b,off+j*k+i,none⟩=some (f j i))
      (hr:∀ (j:Nat) x (i:Nat) c,xs[j]?=some x→x[i]?=some c→RelV w p c (f j i)) :
      RelV w p (.sl k xs) (.slice (some ⟨b,off,none⟩) xs.length cap)
  | ownn (g k:Nat) (hg:p.o g=some none):RelV w p (.own g k 0 0) (.slice none 0 0)
  | own (g k off n b cap:Nat) (cur:Array Value) (T:TypeId) (hg:p.o g=some (some b)) (hn:n≤cap) (hcap:cap≤maxLen)
      (hh:w.heap[b]?=some (.cells cur T (0,0))) (hs:off*k+cap*k≤cur.size):RelV w p (.own g k off n) (.slice (some ⟨b,off*k,none⟩) n cap)
  | own0 (g k off b a:Nat) (hg:p.o g=some (some b)):RelV w p (.own g k off 0) (.slice (some ⟨b,a,none⟩) 0 0)
  | adr (cs:List AV) (b off:Nat) (f:Nat→Value) (hb:Stable w p b) (hk:∀ c∈cs,c.leaf=true)
      (hc:∀ (i:Nat) c,cs[i]?=some c→w.cell? ⟨b,off+i,none⟩=some (f i))
      (hr:∀ (i:Nat) c,cs[i]?=some c→RelV w p c (f i)):RelV w p (.adr cs) (.pointer (some ⟨b,off,none⟩))
  | ref (g k j f b:Nat) (hg:p.o g=some (some b)):RelV w p (.ref g k j f) (.pointer (some ⟨b,j*k+f,none⟩))
  | fn (f:Nat) (cs:List AV) (vs:Array Value) (hl:cs.length=vs.size) (h:∀ (i:Nat) c v,cs[i]?=some c→vs[i]?=some v→RelV w p c v):RelV w p (.fn f cs) (.func (.func f) #[] vs)
  | bad (v:Value):RelV w p .bad v
structure Keeps (w:World) (p:Hp) (w':World) (q:Hp):Prop where
  stab:∀ b,Stable w p b→Stable w' q b∧w'.heap[b]?=w.heap[b]?
  name:∀ g x,p.o g=some x→q.o g=some x
  shape:∀ g b,p.o g=some (some b)→∀ cur T,w.heap[b]?=some (.cells cur T (0,0))→∃ cur',w'.heap[b]?=some (.cells cur' T (0,0))∧cur'.size=cur.size
theorem Keeps.refl (w:World) (p:Hp):Keeps w p w p:=⟨fun _ h=>⟨h,rfl⟩,fun _ _ h=>h,fun _ _ _ cur _ h=>⟨cur,h,rfl⟩⟩
theorem Keeps.trans {w p w1 p1 w2 p2} (h:Keeps w p w1 p1) (k:Keeps w1 p1 w2 p2):Keeps w p w2 p2:=by
  refine⟨fun b hb=>?_,fun g x hg=>k.name g x (h.name g x hg),fun g b hg cur T hh=>?_⟩
  · have h1:=h.stab b hb
    have h2:=k.stab b h1.1
    exact⟨h2.1,h2.2.trans h1.2⟩
  · obtain ⟨c1,e1,s1⟩:=h.shape g b hg cur T hh
    obtain ⟨c2,e2,s2⟩:=k.shape g b (h.name g _ hg) c1 T e1
    exact⟨c2,e2,s2.trans s1⟩
theorem RelV.keep {w p w' q} (hk:Keeps w p w' q) {a:AV} {v:Value} (h:RelV w p a v):RelV w' q a v:=by
  induction h with
  | s v=>exact .s v
  | agg cs vs hl _ ih=>exact .agg cs vs hl ih
  | tup cs vs hl _ ih=>exact .tup cs vs hl ih
  | sln k a cap hcap=>exact .sln k a cap hcap
  | slc k xs b off cap f hb hn hcap hkk hc _ ih =>
    have h1:=hk.stab b hb
    exact .slc k xs b off cap f h1.1 hn hcap hkk (fun j x i c hj hi=>by rw[World.cell?_of_block (w:=w) h1.2]; exact hc j x i c hj hi) ih
  | ownn g k hg=>exact .ownn g k (hk.name _ _ hg)
  | own g k off n b cap cur T hg hn hcap hh hs =>
    obtain ⟨cur',h1,h2⟩:=hk.shape g b hg cur T hh
    exact .own g k off n b cap cur' T (hk.name _ _ hg) hn hcap h1 (by omega)
  | own0 g k off b a hg=>exact .own0 g k off b a (hk.name _ _ hg)
  | adr cs b off f hb hkk hc _ ih =>
    have h1:=hk.stab b hb
    exact .adr cs b off f h1.1 hkk (fun i c hi=>by rw[World.cell?_of_block (w:=w) h1.2]; exact hc i c hi) ih
  | ref g k j f b hg=>exact .ref g k j f b (hk.name _ _ hg)
  | fn f cs vs hl _ ih=>exact .fn f cs vs hl ih
  | bad v=>exact .bad v
inductive AM where
  | box (cs:List AV)
  | buf (k:Nat) (xs:List (List AV))
  deriving Inhabited
abbrev Mem:=List (Nat×AM)
def bL {α:Type}:List (Nat×α)→Nat→Option α
  | [],_=>none
  | (d,a)::r,t=>if d=t then some a else bL r t
def AMRel (w:World) (p:Hp) (g:Nat):AM→Prop
  | .box cs=>∃ b cur T,p.o g=some (some b)∧w.heap[b]?=some (.cells cur T (0,0))∧cs.length=cur.size ∧
      ∀ (i:Nat) c,cs[i]?=some c→∃ v,cur[i]?=some v∧RelV w p c v
  | .buf k xs=>(xs=[]∧p.o g=some none)∨∃ b cur T,p.o g=some (some b)∧w.heap[b]?=some (.cells cur T (0,0))∧xs.length*k≤cur.size∧(∀ x∈xs,x.length=k∧∀ c∈x,c.leaf=true) ∧
      ∀ (j:Nat) x (i:Nat) c,xs[j]?=some x→x[i]?=some c→∃ v,cur[j*k+i]?=some v∧RelV w p c v
structure MemRel (w:World) (p:Hp) (mem:Mem):Prop where
  dom:∀ g,bL mem g=none→p.o g=none
  holds:∀ g m,bL mem g=some m→AMRel w p g m
  inj:∀ g g' b,p.o g=some (some b)→p.o g'=some (some b)→g=g'
  avoid:∀ g b,p.o g=some (some b)→¬ p.A b
structure St where
  n:Nat
  slots:List (Nat×AV)
  mem:Mem
def SlotsRel (w:World) (p:Hp) (slots:List (Nat×AV)) (tmps:Array Value):Prop :=
  ∀ t a,bL slots t=some a→∃ v,tmps[t]?=some v∧RelV w p a v
structure Ext (w:World) (p:Hp) (w':World) (q:Hp):Prop where
  os:w'.os=w.os
  tape:w'.tape=w.tape∧w.drawn≤w'.drawn
  output:w'.output=w.output
  size:w.heap.size≤w'.heap.size
  A:q.A=p.A
  stab:∀ b,Stable w p b→Stable w' q b∧w'.heap[b]?=w.heap[b]?
  others:∀ b,b<w.heap.size→p.A b→w'.heap[b]?=w.heap[b]?
  name:∀ g x,p.o g=some x→q.o g=none∨(q.o g=some x∧∀ b,x=some b→∀ cur T,w.heap[b]?=some (.cells cur T (0,0))→∃ cur',w'.heap[b]?=some (.cells cur' T (0,0))∧cur'.size=cur.size)
def Rel (w0:World) (p0:Hp) (σ:St) (a:Act) (w:World):Prop :=
  a.defers=[]∧a.tmps.size=σ.n∧∃ p,Ext w0 p0 w p∧SlotsRel w p σ.slots a.tmps∧MemRel w p σ.mem
end Go.Abs
namespace Go.Abs
open Go Go.RowKit
variable {P:Program} {w0:World} {p0:Hp}
def AW (P:Program) (w0:World) (p0:Hp) (c:Code) (σ:St) (Q:Exit→St→Prop):Prop :=
  ∀ a w,Rel w0 p0 σ a w→c.wp P (fun e a' w'=>∃ σ',Q e σ'∧Rel w0 p0 σ' a' w') a w
def Le (σ σ':St):Prop:=∀ w0 p0 a w,Rel w0 p0 σ a w→Rel w0 p0 σ' a w
theorem Le.refl (σ:St):Le σ σ:=fun _ _ _ _ h=>h
theorem Le.trans {a b c:St} (h:Le a b) (k:Le b c):Le a c:=fun _ _ _ _ x=>k _ _ _ _ (h _ _ _ _ x)
theorem AW.mono {c:Code} {σ:St} {Q Q':Exit→St→Prop} (h:AW P w0 p0 c σ Q) (hq:∀ e σ',Q e σ'→Q' e σ'):AW P w0 p0 c σ Q' :=
  fun a w hr=>wp_mono (h a w hr) fun _ _ _ ⟨σ',h1,h2⟩=>⟨σ',hq _ _ h1,h2⟩
theorem AW.le {c:Code} {σ σ':St} {Q:Exit→St→Prop} (hl:Le σ σ') (h:AW P w0 p0 c σ' Q):AW P w0 p0 c σ Q :=
  fun a w hr=>h a w (hl _ _ _ _ hr)
theorem aN {σ:St} {Q:Exit→St→Prop} (h:Q .normal σ):AW P w0 p0 .skip σ Q :=
  fun _ _ hr=>wp_skip ⟨σ,h,hr⟩
theorem bF {id:Nat} {σ:St} {Q:Exit→St→Prop} (h:Q (.exit id) σ):AW P w0 p0 (.exit id) σ Q :=
  fun _ _ hr=>wp_exit ⟨σ,h,hr⟩
theorem aJ {σ:St} {Q:Exit→St→Prop} (h:Q .ret σ):AW P w0 p0 .ret σ Q :=
  fun _ _ hr=>wp_ret ⟨σ,h,hr⟩
def aMg (K:St→Prop) (Q:Exit→St→Prop):Exit→St→Prop
  | .normal,σ=>K σ
  | e,σ=>Q e σ
def aX0 (id:Nat) (Q:Exit→St→Prop):Exit→St→Prop
  | .exit id',σ=>if id'=id then Q .normal σ else Q (.exit id') σ
  | e,σ=>Q e σ
theorem aX2 {x y:Code} {σ:St} {Q:Exit→St→Prop} (h:AW P w0 p0 x σ (aMg (fun σ'=>AW P w0 p0 y σ' Q) Q)):AW P w0 p0 (.seq x y) σ Q:=by
  intro a w hr
  refine wp_seq (wp_mono (h a w hr) ?_)
  rintro e a' w' ⟨σ',h1,h2⟩
  cases e <;> first | exact h1 a' w' h2 | exact⟨σ',h1,h2⟩
theorem aP {id:Nat} {c:Code} {σ:St} {Q:Exit→St→Prop} (h:AW P w0 p0 c σ (aX0 id Q)):AW P w0 p0 (.block id c) σ Q:=by
  intro a w hr
  refine wp_block (wp_mono (h a w hr) ?_)
  rintro e a' w' ⟨σ',h1,h2⟩
  cases e with
  | exit id' =>
    simp only[aX0] at h1
    simp only[Exit.inBlock]
    split at h1 <;> rename_i hid
    · rw[if_pos hid]; exact⟨σ',h1,h2⟩
    · rw[if_neg hid]; exact⟨σ',h1,h2⟩
  | _=>exact⟨σ',h1,h2⟩
theorem bT {ι:Type} {c:Code} {σ:St} {Q:Exit→St→Prop} (I:ι→St) (C:ι→Prop) (μ:ι→Nat) (i0:ι) (hc:C i0) (h0:Le σ (I i0))
    (round:∀ i,C i→AW P w0 p0 c (I i) (aMg (fun σ'=>∃ i',C i'∧μ i'<μ i∧Le σ' (I i')) Q)):AW P w0 p0 (.loop c) σ Q:=by
  intro a w hr
  refine wp_loop_ghost (fun n a w=>∃ i,C i∧μ i=n∧Rel w0 p0 (I i) a w) (μ i0) ⟨i0,hc,rfl,h0 _ _ _ _ hr⟩ ?_
  rintro n a w ⟨i,hci,rfl,hri⟩
  refine wp_mono (round i hci a w hri) ?_
  rintro e a' w' ⟨σ',h1,h2⟩
  cases e with
  | normal=>obtain ⟨i',hc',hm,hle⟩:=h1; exact⟨μ i',hm,i',hc',rfl,hle _ _ _ _ h2⟩
  | _=>exact⟨σ',h1,h2⟩
theorem SlotsRel.get {w:World} {p:Hp} {l:List (Nat×AV)} {tmps:Array Value} (h:SlotsRel w p l tmps) {t:Nat} {a:AV} (ha:bL l t=some a) :
    ∃ v,tmps[t]?=some v∧RelV w p a v:=h t a ha
theorem SlotsRel.put {w:World} {p:Hp} {l:List (Nat×AV)} {tmps:Array Value} (h:SlotsRel w p l tmps) {d:Nat} (hd:d<tmps.size) {a:AV} {v:Value} (hv:RelV w p a v) :
    SlotsRel w p ((d,a)::l) (tmps.setIfInBounds d v):=by
  intro t b hb
  simp only[bL] at hb
  split at hb
  · rename_i hdt; subst hdt
    cases hb
    exact⟨v,by simp [hd],hv⟩
  · rename_i hdt
    obtain ⟨u,h1,h2⟩:=h t b hb
    exact⟨u,by rw[Array.getElem?_setIfInBounds_ne (by omega)]; exact h1,h2⟩
theorem SlotsRel.keep {w:World} {p:Hp} {w':World} {q:Hp} (hk:Keeps w p w' q) {l:List (Nat×AV)} {tmps:Array Value} (h:SlotsRel w p l tmps):SlotsRel w' q l tmps :=
  fun t a ha=>let ⟨v,h1,h2⟩:=h t a ha; ⟨v,h1,h2.keep hk⟩
def St.get (σ:St) (t:Nat):AV:=(bL σ.slots t).getD .bad
def St.ev (σ:St):Operand→AV
  | .tmp t=>σ.get t
  | .const (.agg cs)=>.agg (cs.toList.map .s)
  | .const v=>.s v
  | .func f=>.fn f []
  | .global _=>.bad
def St.put (σ:St) (d:Nat) (a:AV):St:={ σ with slots:=(d,a)::σ.slots }
def St.putO (σ:St):Option Nat→AV→St
  | some d,a=>σ.put d a
  | none,_=>σ
theorem dW {σ:St} {a:Act} {w:World} {p:Hp} (hs:SlotsRel w p σ.slots a.tmps) (x:Operand):RelV w p (σ.ev x) (a.eval x):=by
  cases x with
  | tmp t =>
    simp only[St.ev,St.get,Act.eval]
    cases hl:bL σ.slots t with
    | none=>exact .bad _
    | some b =>
      obtain ⟨v,h1,h2⟩:=hs t b hl
      simpa [Array.getD_eq_getD_getElem?,h1] using h2
  | const v =>
    cases v with
    | agg cs =>
      refine .agg _ _ (by simp) (fun i c u hc hu=>?_)
      simp only[List.getElem?_map,Array.getElem?_toList] at hc
      simp only[hu,Option.map_some,Option.some.injEq] at hc
      subst hc; exact .s u
    | _=>exact .s _
  | func f=>exact .fn f [] #[] rfl (by simp)
  | global g=>exact .bad _
end Go.Abs
set_option linter.unusedVariables false
namespace Go.Abs
open Go Go.RowKit
variable {P:Program} {w0:World} {p0:Hp}
def AOp (P:Program) (w0:World) (p0:Hp) (o:Oper) (σ:St) (K:St→Prop):Prop :=
  ∀ (a:Act) (w:World) (next:Act→World→Prop) (Q:Exit→Act→World→Prop),Rel w0 p0 σ a w →
    (∀ σ' a' w',K σ'→Rel w0 p0 σ' a' w'→next a' w')→o.wp P a w next Q
def fL (P:Program) (w0:World) (p0:Hp) (ops:Array Oper) (rest:List Oper) (σ:St) (Q:Exit→St→Prop):Prop :=
  ∀ a w,Rel w0 p0 σ a w→wpList P ops (fun e a' w'=>∃ σ',Q e σ'∧Rel w0 p0 σ' a' w') rest a w
theorem aB {id:Nat} {l:List Oper} {σ:St} {Q:Exit→St→Prop} (h:fL P w0 p0 l.toArray l σ Q):AW P w0 p0 (.region id l.toArray false) σ Q :=
  fun a w hr=>wp_region_lit (h a w hr)
theorem bS {ops:Array Oper} {σ:St} {Q:Exit→St→Prop} (h:Q .normal σ):fL P w0 p0 ops [] σ Q :=
  fun _ _ hr=>wpList_nil ⟨σ,h,hr⟩
theorem gD {ops:Array Oper} {o:Oper} {rest:List Oper} {σ:St} {Q:Exit→St→Prop} (hg:o.guard=none)
    (h:AOp P w0 p0 o σ (fun σ'=>fL P w0 p0 ops rest σ' Q)):fL P w0 p0 ops (o::rest) σ Q :=
  fun a w hr=>wpList_plain hg fun K hK=>h a w K _ hr fun σ' a' w' h1 h2=>hK _ _ (h1 a' w' h2)
theorem Rel.putO {σ:St} {a:Act} {w:World} (hr:Rel w0 p0 σ a w) (d:Option Nat) (hd:∀ x,d=some x→x<σ.n) (av:AV) (v:Value)
    (hv:∀ p,Ext w0 p0 w p→SlotsRel w p σ.slots a.tmps→MemRel w p σ.mem→RelV w p av v):Rel w0 p0 (σ.putO d av) (a.put d v) w:=by
  obtain ⟨h1,h2,p,hE,hs,hm⟩:=hr
  cases d with
  | none=>exact⟨h1,h2,p,hE,hs,hm⟩
  | some d =>
    exact⟨h1,by simpa [Act.put,St.putO,St.put] using h2,p,hE,hs.put (by rw[h2]; exact hd d rfl) (hv p hE hs hm),hm⟩
theorem aX9 {o:Oper} {σ:St} {K:St→Prop} (hd:∀ d,o.dst=some d→d<σ.n) (av:AV)
    (h:∀ (act:Act) w p,SlotsRel w p σ.slots act.tmps→MemRel w p σ.mem→∃ v,(execOp act.eval o).run P w=.ok (.value v) w∧RelV w p av v)
    (hk:K (σ.putO o.dst av)):AOp P w0 p0 o σ K:=by
  intro a w next Q hr hn
  obtain ⟨h1,h2,p,hE,hs,hm⟩:=hr
  obtain ⟨v,hv,hrel⟩:=h a w p hs hm
  unfold Oper.wp
  rw[hv]
  have hr:Rel w0 p0 σ a w:=⟨h1,h2,p,hE,hs,hm⟩
  refine hn _ _ _ hk ?_
  cases ho:o.dst with
  | none=>exact⟨h1,h2,p,hE,hs,hm⟩
  | some d=>exact⟨h1,by simpa [Act.put,St.putO,St.put] using h2,p,hE,hs.put (by rw[h2]; exact hd d ho) hrel,hm⟩
theorem aR1 {ops:Array Oper} {o:Oper} {rest:List Oper} {σ:St} {Q:Exit→St→Prop} {j:Nat} {b t:Bool} {d:Nat} (hg:o.guard=some (j,b))
    (hj:(ops[j]?).bind (·.dst)=some d) (hd:bL σ.slots d=some (.s (.bool t))) (hdst:∀ x,o.dst=some x→x<σ.n)
    (h1:t=b→AOp P w0 p0 o σ (fun σ'=>fL P w0 p0 ops rest σ' Q)) (h2:t≠b→fL P w0 p0 ops rest (σ.putO o.dst (.s undef)) Q):fL P w0 p0 ops (o::rest) σ Q:=by
  intro a w hr
  have hy:yielded ops a.tmps j=some t:=by
    obtain ⟨_,_,p,_,hs,_⟩:=hr
    obtain ⟨v,hv1,hv2⟩:=hs d _ hd
    cases hv2
    simp [yielded,hj,hv1]
  refine wpList_step fun K hK=>?_
  by_cases htb:t=b
  · have hw:Region.wanted o (yielded ops a.tmps)=true:=by simp [Region.wanted,hg,hy,htb]
    rw[if_pos hw]
    exact h1 htb a w K _ hr fun σ' a' w' h1 h2=>hK _ _ (h1 a' w' h2)
  · have hw:¬ Region.wanted o (yielded ops a.tmps)=true:=by simp [Region.wanted,hg,hy,htb]
    rw[if_neg hw]
    exact hK _ _ (h2 htb _ w (hr.putO o.dst hdst _ _ fun _ _ _ _=>.s _))
theorem aLp {x y:Code} {c:Operand} {σ:St} {Q:Exit→St→Prop} {t:Bool} (hc:σ.ev c=.s (.bool t))
    (h1:t=true→AW P w0 p0 x σ Q) (h2:t=false→AW P w0 p0 y σ Q):AW P w0 p0 (.cond c x y) σ Q:=by
  intro a w hr
  have he:a.eval c=.bool t:=by
    obtain ⟨_,_,p,_,hs,_⟩:=hr
    have:=dW hs c
    rw[hc] at this
    generalize a.eval c=v at *
    cases this
    rfl
  refine wp_cond he ?_
  cases t
  · exact h2 rfl a w hr
  · exact h1 rfl a w hr
end Go.Abs
set_option linter.unusedVariables false
namespace Go.Abs
open Go Go.RowKit
variable {P:Program}
def cH (P:Program) (o:Oper) (σ:St) (av:AV):Prop :=
  ∀ (act:Act) (w:World) (p:Hp),SlotsRel w p σ.slots act.tmps→MemRel w p σ.mem→∃ v,(execOp act.eval o).run P w=.ok (.value v) w∧RelV w p av v
theorem RelV.s_inv {w:World} {p:Hp} {u v:Value} (h:RelV w p (.s u) v):v=u:=by cases h; rfl
theorem oL {σ:St} {act:Act} {w:World} {p:Hp} (hs:SlotsRel w p σ.slots act.tmps) {x:Operand} {u:Value} (h:σ.ev x=.s u):act.eval x=u :=
  RelV.s_inv (h ▸ dW hs x)
theorem aI7 {o:Oper} {σ:St} {x:Operand} (ho:o.op=.move x):cH P o σ (σ.ev x) :=
  fun act w p hs _=>⟨act.eval x,by simp [execOp,ho],dW hs x⟩
theorem aCx {o:Oper} {σ:St} {x:Operand} (ho:o.op=.assign x):cH P o σ (σ.ev x) :=
  fun act w p hs _=>⟨act.eval x,by simp [execOp,ho],dW hs x⟩
theorem aI6 {o:Oper} {σ:St} {c a b:Operand} {t:Bool} (ho:o.op=.pick c a b) (hc:σ.ev c=.s (.bool t)):cH P o σ (if t then σ.ev a else σ.ev b):=by
  intro act w p hs _
  have:=oL hs hc
  refine⟨if t then act.eval a else act.eval b,?_,?_⟩
  · simp [execOp,ho,this,asBool]
  · cases t
    · exact dW hs b
    · exact dW hs a
def aCh (op:BinOp) (k:IntKind) (a b:Int):Option Value :=
  match op with
  | .add=>some (.int k (k.wrap (a+b)))
  | .sub=>some (.int k (k.wrap (a - b)))
  | .mul=>some (.int k (k.wrap (a*b)))
  | .quo=>if b=0 then none else some (.int k (k.wrap (a.tdiv b)))
  | .rem=>if b=0 then none else some (.int k (a.tmod b))
  | .eql=>some (.bool (a == b))
  | .neq=>some (.bool (a != b))
  | .lss=>some (.bool (a<b))
  | .leq=>some (.bool (a≤b))
  | .gtr=>some (.bool (a > b))
  | .geq=>some (.bool (a≥b))
  | _=>none
def astr (op:BinOp) (x y:ByteArray):Option Value :=
  match op with
  | .eql=>some (.bool (x.toList == y.toList))
  | .neq=>some (.bool (!(x.toList == y.toList)))
  | .lss=>some (.bool (Op.bytesLess x.toList y.toList))
  | .leq=>some (.bool (Op.bytesLess x.toList y.toList||x.toList == y.toList))
  | .gtr=>some (.bool (!(Op.bytesLess x.toList y.toList||x.toList == y.toList)))
  | .geq=>some (.bool (!Op.bytesLess x.toList y.toList))
  | _=>none
def uW (P:Program) (op:BinOp) (t:TypeId) (x y:Value):Option Value :=
  match x,y with
  | .int k a,.int k' b=>if k=k' then aCh op k a b else none
  | .string a,.string b=>astr op a b
  | .bool a,.bool b=>match P.underlying t,op with | some .bool,.eql=>some (.bool (a == b)) | some .bool,.neq=>some (.bool (!(a == b))) | _,_=>none
  | _,_=>none
theorem tF (d:Nat) {t:TypeId} (ht:P.underlying t=some .bool) (a b:Bool) (w:World):(Op.equalIn (d+1) t (.bool a) (.bool b)).run P w=.ok (a == b) w:=by
  simp [Op.equalIn,run_underlying ht]
theorem wB {t:TypeId} (ht:P.underlying t=some .bool) (a b:Bool) (w:World):(Op.equal t (.bool a) (.bool b)).run P w=.ok (a == b) w :=
  tF 9999 ht a b w
theorem aOw {op:BinOp} {t:TypeId} {x y r:Value} (h:uW P op t x y=some r) (xo yo:Operand) (w:World) :
    Sem.run P (do eqGuard op t xo yo x y; binOp op t x y) w=.ok r w:=by
  unfold uW at h
  split at h
  · rename_i k a k' b
    split at h
    · rename_i hk; subst hk
      cases op <;> simp_all[aCh,eqGuard,binOp,Op.intArith,Op.intDiv,Op.intCmp]
    · cases h
  · rename_i a b
    cases op <;> simp_all[astr,eqGuard,binOp,Op.stringOp]
  · rename_i a b
    split at h
    · rename_i ht
      cases h
      simp [eqGuard,binOp,wB ht]
    · rename_i ht
      cases h
      simp [eqGuard,binOp,wB ht]
    · cases h
  · cases h
theorem aW3 {o:Oper} {σ:St} {op:BinOp} {t yt:TypeId} {x y:Operand} {u v r:Value} (ho:o.op=.binOp op t x y yt) (hx:σ.ev x=.s u) (hy:σ.ev y=.s v)
    (h:uW P op t u v=some r):cH P o σ (.s r):=by
  intro act w p hs _
  refine⟨r,?_,.s r⟩
  have e1:=oL hs hx
  have e2:=oL hs hy
  have:=aOw (P:=P) h x y w
  simp only[execOp,ho,e1,e2]
  rw[Sem.run_bind,this]
  simp
theorem aM8 {o:Oper} {σ:St} {t:TypeId} {x:Operand} {b:Bool} (ho:o.op=.unOp .not t x) (hx:σ.ev x=.s (.bool b)):cH P o σ (.s (.bool !b)):=by
  intro act w p hs _
  exact⟨_,by simp [execOp,ho,oL hs hx,Op.unary],.s _⟩
end Go.Abs
set_option linter.unusedVariables false
set_option linter.unusedSimpArgs false
namespace Go.Abs
open Go Go.RowKit
variable {P:Program}
def cells? (P:Program) (t:TypeId):Option Nat:=(P.info? t).map (·.size)
def agg? (P:Program) (t:TypeId):Option Bool:=(P.underlying t).map fun | .struct _=>true | .array _ _=>true | _=>false
def elem? (P:Program) (t:TypeId):Option TypeId:=match P.underlying t with | some (.slice e)=>some e | _=>none
def field? (P:Program) (t:TypeId) (f:Nat):Option (Nat×TypeId):=match P.underlying t with | some (.struct fs)=>(fs[f]?).map fun x=>(x.offset,x.type) | _=>none
theorem elem?_inv {t e:TypeId} (h:elem? P t=some e):P.underlying t=some (.slice e):=by
  unfold elem? at h; split at h <;> simp_all
theorem eI {t:TypeId} {n:Nat} (h:cells? P t=some n) (w:World):(sizeOf t).run P w=.ok n w:=by
  unfold cells? at h
  cases hi:P.info? t with
  | none=>simp [hi] at h
  | some i=>simp [hi] at h; simp [sizeOf,typeInfo,hi,h]
theorem uJ {t:TypeId} {b:Bool} (h:agg? P t=some b) (w:World):(isAgg t).run P w=.ok b w:=by
  unfold agg? at h
  cases hi:P.underlying t with
  | none=>simp [hi] at h
  | some d=>simp [hi] at h; unfold isAgg; rw[Sem.run_bind,run_underlying hi]; cases d <;> simp_all
theorem kA (b off n:Nat):(⟨b,off,none⟩:Addr).add n=⟨b,off+n,none⟩:=by
  unfold Addr.add; split <;> simp_all
theorem aKn {o:Oper} {σ:St} {x:Operand} {t:TypeId} {s:ByteArray} (ho:o.op=.call { callee:=.builtin .len,args:=#[x],argTypes:=#[t] })
    (ht:P.underlying t=some .string) (hx:σ.ev x=.s (.string s)):cH P o σ (.s (.int .i64 s.size)):=by
  intro act w p hs _
  exact⟨_,by simp [execOp,ho,resolve,invoke,builtin,Builtin.len_,oL hs hx,run_underlying ht,goInt],.s _⟩
theorem RelV.sl_inv {w:World} {p:Hp} {k:Nat} {xs:List (List AV)} {v:Value} (h:RelV w p (.sl k xs) v):∃ a cap,v=.slice a xs.length cap:=by
  cases h with
  | sln k a cap=>exact⟨a,cap,rfl⟩
  | slc k xs b off cap f=>exact⟨_,cap,rfl⟩
theorem RelV.own_inv {w:World} {p:Hp} {g k off n:Nat} {v:Value} (h:RelV w p (.own g k off n) v):∃ a cap,v=.slice a n cap:=by
  cases h with
  | ownn=>exact⟨_,_,rfl⟩
  | own=>exact⟨_,_,rfl⟩
  | own0=>exact⟨_,_,rfl⟩
theorem aCv {o:Oper} {σ:St} {x:Operand} {t e:TypeId} {av:AV} {n:Nat} (ho:o.op=.call { callee:=.builtin .len,args:=#[x],argTypes:=#[t] })
    (ht:elem? P t=some e) (hx:σ.ev x=av) (hl:∀ w p v,RelV w p av v→∃ a cap,v=.slice a n cap):cH P o σ (.s (.int .i64 n)):=by
  intro act w p hs _
  obtain ⟨a,cap,hv⟩:=hl w p _ (hx ▸ dW hs x)
  exact⟨_,by simp [execOp,ho,resolve,invoke,builtin,Builtin.len_,hv,run_underlying (elem?_inv ht),goInt],.s _⟩
theorem aM9 {o:Oper} {σ:St} {x:Operand} {t e:TypeId} {k:Nat} {xs:List (List AV)} (ho:o.op=.call { callee:=.builtin .len,args:=#[x],argTypes:=#[t] })
    (ht:elem? P t=some e) (hx:σ.ev x=.sl k xs):cH P o σ (.s (.int .i64 xs.length)):=aCv ho ht hx fun _ _ _ h=>h.sl_inv
theorem aKo {o:Oper} {σ:St} {x:Operand} {t e:TypeId} {g k off n:Nat} (ho:o.op=.call { callee:=.builtin .len,args:=#[x],argTypes:=#[t] })
    (ht:elem? P t=some e) (hx:σ.ev x=.own g k off n):cH P o σ (.s (.int .i64 n)):=aCv ho ht hx fun _ _ _ h=>h.own_inv
theorem aW1 {o:Oper} {σ:St} {x y:Operand} {t1 t2:TypeId} {k k':IntKind} {a b:Int} (ho:o.op=.call { callee:=.builtin .min,args:=#[x,y],argTypes:=#[t1,t2] })
    (hx:σ.ev x=.s (.int k a)) (hy:σ.ev y=.s (.int k' b)):cH P o σ (.s (.int k (min a b))):=by
  intro act w p hs _
  refine⟨.int k (if b<a then b else a),by simp [execOp,ho,resolve,invoke,builtin,Builtin.min_,Builtin.min2,oL hs hx,oL hs hy],?_⟩
  have:min a b=if b<a then b else a:=by split <;> omega
  rw[this]; exact .s _
theorem aW2 {o:Oper} {σ:St} {x y:Operand} {t1 t2:TypeId} {k k':IntKind} {a b:Int} (ho:o.op=.call { callee:=.builtin .max,args:=#[x,y],argTypes:=#[t1,t2] })
    (hx:σ.ev x=.s (.int k a)) (hy:σ.ev y=.s (.int k' b)):cH P o σ (.s (.int k (max a b))):=by
  intro act w p hs _
  refine⟨.int k (if b > a then b else a),by simp [execOp,ho,resolve,invoke,builtin,Builtin.max_,Builtin.max2,oL hs hx,oL hs hy],?_⟩
  have:max a b=if b > a then b else a:=by split <;> omega
  rw[this]; exact .s _
theorem aKp {o:Oper} {σ:St} {x:Operand} {i:Nat} {vs:List AV} {c:AV} (ho:o.op=.extract x i) (hx:σ.ev x=.tup vs) (hi:vs[i]?=some c):cH P o σ c:=by
  intro act w p hs _
  have:=dW hs x
  rw[hx] at this
  generalize hv:act.eval x=v at *
  cases this with
  | tup cs us hl h =>
    have hlt:i<us.size:=by rw[← hl]; exact(List.getElem?_eq_some_iff.1 hi).1
    have e:us[i]?=some us[i]:=by simp [hlt]
    exact⟨us[i],by simp [execOp,ho,hv,Instr.extract,e],h i c _ hi e⟩
theorem aAl {o:Oper} {σ:St} {x i:Operand} {t e:TypeId} {k:Nat} {xs:List (List AV)} {c:List AV} {kd:IntKind} {n:Int} (ho:o.op=.indexAddr t x i) (ht:elem? P t=some e) (hk:cells? P e=some k)
    (hx:σ.ev x=.sl k xs) (hi:σ.ev i=.s (.int kd n)) (hn:0≤n∧xs[n.toNat]?=some c):cH P o σ (.adr c):=by
  intro act w p hs _
  have h1:=dW hs x
  rw[hx] at h1
  have e2:=oL hs hi
  obtain ⟨h0,hc⟩:=hn
  have hlt:n.toNat<xs.length:=(List.getElem?_eq_some_iff.1 hc).1
  generalize hv:act.eval x=v at *
  cases h1 with
  | sln=>simp at hlt
  | slc _ _ b off cap f hb hn' hcap hkk hcc hr =>
    refine⟨.pointer (some ⟨b,off+n.toNat*k,none⟩),?_,.adr c b (off+n.toNat*k) (f n.toNat) hb ((hkk c (List.mem_of_getElem? hc)).2) (fun j y hy=>?_) (fun j y hy=>hr _ _ j y hc hy)⟩
    · have:n<(xs.length:Int):=by omega
      simp [execOp,ho,hv,e2,Instr.indexAt,asIntOf,run_underlying (elem?_inv ht),h0,this,eI hk,kA]
    · exact hcc _ _ j y hc hy
theorem aH9 {o:Oper} {σ:St} {x:Operand} {t:TypeId} {cs:List AV} {c:AV} (ho:o.op=.load t x) (ht:agg? P t=some false) (hx:σ.ev x=.adr cs) (hc:cs[0]?=some c):cH P o σ c:=by
  intro act w p hs _
  have h1:=dW hs x
  rw[hx] at h1
  generalize hv:act.eval x=v at *
  cases h1 with
  | adr _ b off f hb hkk hcc hr =>
    refine⟨f 0,?_,hr 0 c hc⟩
    have:=hcc 0 c hc
    simp only[Nat.add_zero] at this
    simp [execOp,ho,hv,Instr.loadAt,Instr.sureAddr,loadVar,uJ ht,this]
theorem aFz {o:Oper} {σ:St} {x:Operand} {t:TypeId} {cs:List AV} {n:Nat} (ho:o.op=.load t x) (ht:agg? P t=some true) (hk:cells? P t=some n) (hx:σ.ev x=.adr cs) (hn:n≤cs.length) :
    cH P o σ (.agg (cs.take n)):=by
  intro act w p hs _
  have h1:=dW hs x
  rw[hx] at h1
  generalize hv:act.eval x=v at *
  cases h1 with
  | adr _ b off f hb hkk hcc hr =>
    have hall:∀ j,j<n→w.cell? ((⟨b,off,none⟩:Addr).add j)=some (f j):=fun j hj=>by
      rw[kA]; exact hcc j cs[j] (by simp)
    refine⟨.agg ((List.range n).map f).toArray,?_,.agg _ _ (by simp; omega) (fun i c u hi hu=>?_)⟩
    · have:=run_loadCells (P:=P) (w:=w) (⟨b,off,none⟩:Addr) n f hall
      simp [execOp,ho,hv,Instr.loadAt,Instr.sureAddr,loadVar,uJ ht,eI hk,this]
    · rw[List.getElem?_take] at hi
      split at hi
      · rename_i hlt
        simp [hlt] at hu
        rw[← hu]; exact hr i c hi
      · cases hi
theorem field?_inv {t:TypeId} {f off:Nat} {u:TypeId} (h:field? P t f=some (off,u)):∃ fs fd,P.underlying t=some (.struct fs)∧fs[f]?=some fd∧fd.offset=off∧fd.type=u:=by
  unfold field? at h
  split at h
  · rename_i fs hu
    cases hf:fs[f]? with
    | none=>simp [hf] at h
    | some fd=>simp [hf] at h; exact⟨fs,fd,hu,hf,h.1,h.2⟩
  · cases h
theorem nT {fd:Field} {n:Nat} (hn:cells? P fd.type=some n) (h0:n≠0) (a:Addr) (w:World):(fieldPlace a fd).run P w=.ok (a.add fd.offset) w:=by
  simp [fieldPlace,eI hn,h0]
theorem zF {o:Oper} {σ:St} {x:Operand} {t u:TypeId} {f off n:Nat} {cs:List AV} (ho:o.op=.fieldAddr t x f) (ht:field? P t f=some (off,u)) (hu:cells? P u=some n) (h0:n≠0)
    (hx:σ.ev x=.adr cs):cH P o σ (.adr (cs.drop off)):=by
  intro act w p hs _
  obtain ⟨fs,fd,e1,e2,rfl,rfl⟩:=field?_inv ht
  have h1:=dW hs x
  rw[hx] at h1
  generalize hv:act.eval x=v at *
  cases h1 with
  | adr _ b off f hb hkk hcc hr =>
    refine⟨.pointer (some ⟨b,off+fd.offset,none⟩),by simp [execOp,ho,hv,Instr.fieldAt,Instr.sureAddr,run_underlying e1,e2,nT hu h0,kA],.adr _ b _ (fun i=>f (fd.offset+i)) hb (fun c hc=>hkk c (List.mem_of_mem_drop hc)) (fun i c hi=>?_) (fun i c hi=>?_)⟩
    · rw[List.getElem?_drop] at hi
      rw[Nat.add_assoc]; exact hcc _ c hi
    · rw[List.getElem?_drop] at hi
      exact hr _ c hi
theorem rG {o:Oper} {σ:St} {x:Operand} {t u:TypeId} {f off n:Nat} {g k j i:Nat} (ho:o.op=.fieldAddr t x f) (ht:field? P t f=some (off,u)) (hu:cells? P u=some n) (h0:n≠0)
    (hx:σ.ev x=.ref g k j i):cH P o σ (.ref g k j (i+off)):=by
  intro act w p hs _
  obtain ⟨fs,fd,e1,e2,rfl,rfl⟩:=field?_inv ht
  have h1:=dW hs x
  rw[hx] at h1
  generalize hv:act.eval x=v at *
  cases h1 with
  | ref _ _ _ _ b hg =>
    refine⟨.pointer (some ⟨b,j*k+(i+fd.offset),none⟩),by simp [execOp,ho,hv,Instr.fieldAt,Instr.sureAddr,run_underlying e1,e2,nT hu h0,kA,Nat.add_assoc],.ref _ _ _ _ b hg⟩
theorem rF {o:Oper} {σ:St} {x i:Operand} {t e:TypeId} {g k off m:Nat} {kd:IntKind} {n:Int} (ho:o.op=.indexAddr t x i) (ht:elem? P t=some e) (hk:cells? P e=some k)
    (hx:σ.ev x=.own g k off m) (hi:σ.ev i=.s (.int kd n)) (hn:0≤n∧n<m):cH P o σ (.ref g k (off+n.toNat) 0):=by
  intro act w p hs _
  have h1:=dW hs x
  rw[hx] at h1
  have e2:=oL hs hi
  obtain ⟨h0,hlt⟩:=hn
  generalize hv:act.eval x=v at *
  cases h1 with
  | ownn=>omega
  | own0=>omega
  | own _ _ _ _ b cap cur T hg hnc hcap hh hsz =>
    refine⟨.pointer (some ⟨b,off*k+n.toNat*k,none⟩),?_,?_⟩
    · simp [execOp,ho,hv,e2,Instr.indexAt,asIntOf,run_underlying (elem?_inv ht),h0,hlt,eI hk,kA]
    · have:off*k+n.toNat*k=(off+n.toNat)*k+0:=by rw[Nat.add_mul]; rfl
      rw[this]; exact .ref _ _ _ _ b hg
theorem aIz {t:TypeId} (ht:agg? P t=some false) {cs:Array Value} {off:Nat} {v:Value} (hv:cs[off]?=some v) (w:World):(part t cs off).run P w=.ok v w:=by
  simp [part,uJ ht,hv]
theorem aIy {t:TypeId} {n:Nat} (ht:agg? P t=some true) (hn:cells? P t=some n) (cs:Array Value) (off:Nat) (w:World):(part t cs off).run P w=.ok (.agg (cs.extract off (off+n))) w:=by
  simp [part,uJ ht,eI hn]
theorem aCw {o:Oper} {σ:St} {x:Operand} {t u:TypeId} {f off:Nat} {cs:List AV} {c:AV} (ho:o.op=.field t x f) (ht:field? P t f=some (off,u)) (hu:agg? P u=some false)
    (hx:σ.ev x=.agg cs) (hc:cs[off]?=some c):cH P o σ c:=by
  intro act w p hs _
  obtain ⟨fs,fd,e1,e2,rfl,rfl⟩:=field?_inv ht
  have h1:=dW hs x
  rw[hx] at h1
  generalize hv:act.eval x=v at *
  cases h1 with
  | agg _ us hl h =>
    have hlt:fd.offset<us.size:=by rw[← hl]; exact(List.getElem?_eq_some_iff.1 hc).1
    have e:us[fd.offset]?=some us[fd.offset]:=by simp [hlt]
    exact⟨us[fd.offset],by simp [execOp,ho,hv,Instr.field,asAgg,run_underlying e1,e2,aIz hu e],h _ c _ hc e⟩
theorem aNa {o:Oper} {σ:St} {x:Operand} {t u:TypeId} {f off n:Nat} {cs:List AV} (ho:o.op=.field t x f) (ht:field? P t f=some (off,u)) (hu:agg? P u=some true) (hn:cells? P u=some n)
    (hx:σ.ev x=.agg cs) (hlen:off+n≤cs.length):cH P o σ (.agg ((cs.drop off).take n)):=by
  intro act w p hs _
  obtain ⟨fs,fd,e1,e2,rfl,rfl⟩:=field?_inv ht
  have h1:=dW hs x
  rw[hx] at h1
  generalize hv:act.eval x=v at *
  cases h1 with
  | agg _ us hl h =>
    refine⟨.agg (us.extract fd.offset (fd.offset+n)),by simp [execOp,ho,hv,Instr.field,asAgg,run_underlying e1,e2,aIy hu hn],.agg _ _ (by simp; omega) (fun i c v hi hv=>?_)⟩
    rw[List.getElem?_take] at hi
    split at hi
    · rename_i hlt
      rw[List.getElem?_drop] at hi
      rw[Array.getElem?_extract] at hv
      split at hv
      · exact h _ c v hi hv
      · cases hv
    · cases hi
theorem aF0 {o:Oper} {σ:St} {x i:Operand} {t:TypeId} {s:ByteArray} {kd:IntKind} {n:Int} {b:UInt8} (ho:o.op=.index t x i) (ht:P.underlying t=some .string)
    (hx:σ.ev x=.s (.string s)) (hi:σ.ev i=.s (.int kd n)) (hn:0≤n∧s.data[n.toNat]?=some b):cH P o σ (.s (.int .u8 b.toNat)):=by
  intro act w p hs _
  obtain ⟨h0,hb⟩:=hn
  have hlt:n.toNat<s.size:=(Array.getElem?_eq_some_iff.1 hb).1
  have e:s[n.toNat]?=some b:=by
    rw[getElem?_pos s n.toNat hlt]
    obtain ⟨_,h⟩:=Array.getElem?_eq_some_iff.1 hb
    exact congrArg some h
  exact⟨_,by simp [execOp,ho,oL hs hx,oL hs hi,Instr.index,asIntOf,run_underlying ht,h0,e],.s _⟩
theorem aH7 {o:Oper} {σ:St} {f:Nat} {l:List Operand} (ho:o.op=.makeFunc (.func f) #[] l.toArray):cH P o σ (.fn f (l.map σ.ev)):=by
  intro act w p hs _
  refine⟨.func (.func f) #[] (l.map act.eval).toArray,by simp [execOp,ho,Instr.makeFunc],.fn _ _ _ (by simp) (fun i c v hc hv=>?_)⟩
  rw[List.getElem?_map] at hc
  simp only[List.getElem?_toArray,List.getElem?_map] at hv
  cases hl:l[i]? with
  | none=>simp [hl] at hc
  | some x=>simp [hl] at hc hv; rw[← hc,← hv]; exact dW hs x
end Go.Abs
set_option linter.unusedVariables false
set_option linter.unusedSimpArgs false
namespace Go.Abs
open Go Go.RowKit
variable {P:Program} {w0:World} {p0:Hp}
def AV.one:AV→Bool
  | .s v=>v.oneCell'
  | .agg _ | .tup _ | .bad=>false
  | _=>true
theorem AV.one_of_leaf {c:AV} (h:c.leaf=true):c.one=true:=by cases c <;> first | exact h | rfl | (simp [AV.leaf] at h)
def AV.cells:AV→List AV
  | .agg cs=>cs
  | a=>[a]
theorem RelV.one {w:World} {p:Hp} {c:AV} {v:Value} (h:RelV w p c v) (h1:c.one=true):v.oneCell'=true:=by
  cases h <;> first | exact h1 | (simp [AV.one] at h1; done) | rfl
theorem RelV.cells {w:World} {p:Hp} {a:AV} {v:Value} (h:RelV w p a v) (h1:∀ c∈a.cells,c.one=true) :
    a.cells.length=v.cells.size∧∀ (i:Nat) c,a.cells[i]?=some c→∃ u,v.cells[i]?=some u∧RelV w p c u:=by
  by_cases hagg:∃ cs,a=.agg cs
  · obtain ⟨cs,rfl⟩:=hagg
    cases h with
    | agg _ vs hl h =>
      refine⟨hl,fun i c hi=>?_⟩
      simp only[AV.cells] at hi
      have hlt:i<vs.size:=by rw[← hl]; exact(List.getElem?_eq_some_iff.1 hi).1
      exact⟨vs[i],by simp [Value.cells,hlt],h i c _ hi (by simp [hlt])⟩
  · have e:a.cells=[a]:=by cases a <;> first | rfl | (exact absurd ⟨_,rfl⟩ hagg)
    have h2:=h.one (h1 a (by simp [e]))
    have e2:v.cells=#[v]:=by cases v <;> first | rfl | (simp [Value.oneCell'] at h2)
    rw[e,e2]
    refine⟨rfl,fun i c hi=>?_⟩
    cases i with
    | zero=>simp at hi; exact⟨v,rfl,hi ▸ h⟩
    | succ i=>simp at hi
theorem iP {w:World} {b:Nat} {cur:Array Value} {T:TypeId} {z:Nat×Nat} (h:w.heap[b]?=some (.cells cur T z)) (i:Nat):w.cell? ⟨b,i,none⟩=cur[i]?:=by
  simp [World.cell?,h]
def AM.at (m:AM) (k j f:Nat):List AV :=
  match m with
  | .box cs=>if j=0 then cs.drop f else []
  | .buf k' xs=>if k'=k then ((xs[j]?).getD []).drop f else []
theorem AMRel.at {w:World} {p:Hp} {g:Nat} {m:AM} (h:AMRel w p g m) {k j f b:Nat} (hg:p.o g=some (some b)) (i:Nat) (c:AV) (hc:(m.at k j f)[i]?=some c) :
    ∃ v,w.cell? ⟨b,j*k+f+i,none⟩=some v∧RelV w p c v:=by
  cases m with
  | box cs =>
    simp only[AM.at] at hc
    split at hc
    · rename_i hj; subst hj
      obtain ⟨b',cur,T,h1,h2,h3,h4⟩:=h
      rw[hg] at h1; cases h1
      rw[List.getElem?_drop] at hc
      obtain ⟨v,hv,hr⟩:=h4 _ c hc
      exact⟨v,by rw[iP h2,Nat.zero_mul,Nat.zero_add]; exact hv,hr⟩
    · simp at hc
  | buf k' xs =>
    simp only[AM.at] at hc
    split at hc
    · rename_i hk; subst hk
      cases hx:xs[j]? with
      | none=>simp [hx] at hc
      | some x =>
        simp only[hx,Option.getD_some,List.getElem?_drop] at hc
        rcases h with ⟨rfl,h1⟩ | ⟨b',cur,T,h1,h2,h3,h4,h5⟩
        · simp at hx
        · rw[hg] at h1; cases h1
          obtain ⟨v,hv,hr⟩:=h5 j x _ c hx hc
          exact⟨v,by rw[iP h2,Nat.add_assoc]; exact hv,hr⟩
    · simp at hc
theorem aH8 {o:Oper} {σ:St} {x:Operand} {t:TypeId} {g k j f:Nat} {m:AM} {c:AV} (ho:o.op=.load t x) (ht:agg? P t=some false) (hx:σ.ev x=.ref g k j f) (hm:bL σ.mem g=some m)
    (hc:(m.at k j f)[0]?=some c):cH P o σ c:=by
  intro act w p hs hmem
  have h1:=dW hs x
  rw[hx] at h1
  generalize hv:act.eval x=v at *
  cases h1 with
  | ref _ _ _ _ b hg =>
    obtain ⟨v,hv',hr⟩:=(hmem.holds g m hm).at hg 0 c hc
    simp only[Nat.add_zero] at hv'
    exact⟨v,by simp [execOp,ho,hv,Instr.loadAt,Instr.sureAddr,loadVar,uJ ht,hv'],hr⟩
theorem wF {o:Oper} {σ:St} {x:Operand} {t:TypeId} {g k j f n:Nat} {m:AM} (ho:o.op=.load t x) (ht:agg? P t=some true) (hk:cells? P t=some n) (hx:σ.ev x=.ref g k j f) (hm:bL σ.mem g=some m)
    (hn:n≤(m.at k j f).length):cH P o σ (.agg ((m.at k j f).take n)):=by
  intro act w p hs hmem
  have h1:=dW hs x
  rw[hx] at h1
  generalize hv:act.eval x=v at *
  cases h1 with
  | ref _ _ _ _ b hg =>
    have hall:∀ i,i<n→∃ u,w.cell? ⟨b,j*k+f+i,none⟩=some u∧∀ c,(m.at k j f)[i]?=some c→RelV w p c u:=fun i hi=>by
      have e:=List.getElem?_eq_getElem (l:=m.at k j f) (i:=i) (by omega)
      obtain ⟨u,h1,h2⟩:=(hmem.holds g m hm).at hg i _ e
      exact⟨u,h1,fun c hc=>by rw[e] at hc; cases hc; exact h2⟩
    let F:Nat→Value:=fun i=>if h:i<n then (hall i h).choose else undef
    have hF:∀ i,(h:i<n)→w.cell? ⟨b,j*k+f+i,none⟩=some (F i)∧∀ c,(m.at k j f)[i]?=some c→RelV w p c (F i):=fun i h=>by
      have:=(hall i h).choose_spec
      simpa [F,h] using this
    refine⟨.agg ((List.range n).map F).toArray,?_,.agg _ _ (by simp; omega) (fun i c u hi hu=>?_)⟩
    · have:=run_loadCells (P:=P) (w:=w) (⟨b,j*k+f,none⟩:Addr) n F (fun i hi=>by rw[kA]; exact(hF i hi).1)
      simp [execOp,ho,hv,Instr.loadAt,Instr.sureAddr,loadVar,uJ ht,eI hk,this]
    · rw[List.getElem?_take] at hi
      split at hi
      · rename_i hlt
        simp [hlt] at hu
        rw[← hu]; exact(hF i hlt).2 c hi
      · cases hi
end Go.Abs
set_option linter.unusedVariables false
set_option linter.unusedSimpArgs false
namespace Go.Abs
open Go Go.RowKit
variable {P:Program} {w0:World} {p0:Hp}
def Hp.upd (p:Hp) (g:Nat) (x:Option (Option Nat)):Hp:={ o:=fun g'=>if g'=g then x else p.o g',A:=p.A }
theorem AMRel.keep {w:World} {p:Hp} {w':World} {q:Hp} (hk:Keeps w p w' q) {g:Nat} {m:AM} (h:AMRel w p g m)
    (hh:∀ b,p.o g=some (some b)→w'.heap[b]?=w.heap[b]?):AMRel w' q g m:=by
  cases m with
  | box cs =>
    obtain ⟨b,cur,T,h1,h2,h3,h4⟩:=h
    exact⟨b,cur,T,hk.name _ _ h1,by rw[hh b h1]; exact h2,h3,fun i c hc=>let ⟨v,a,r⟩:=h4 i c hc; ⟨v,a,r.keep hk⟩⟩
  | buf k xs =>
    rcases h with ⟨rfl,h1⟩ | ⟨b,cur,T,h1,h2,h3,h4,h5⟩
    · exact .inl ⟨rfl,hk.name _ _ h1⟩
    · exact .inr ⟨b,cur,T,hk.name _ _ h1,by rw[hh b h1]; exact h2,h3,h4,fun j x i c hx hc=>let ⟨v,a,r⟩:=h5 j x i c hx hc; ⟨v,a,r.keep hk⟩⟩
theorem dB {α:Type} (d:Nat) (a:α) (l:List (Nat×α)) (t:Nat):bL ((d,a)::l) t=if d=t then some a else bL l t:=rfl
theorem aNp {w:World} {p:Hp} {g:Nat} (hg:p.o g=none) (ob:Obj):Keeps w p (w.alloc ob) (p.upd g (some (some w.heap.size))):=by
  refine⟨fun b hb=>⟨⟨by simp; have:=hb.1; omega,fun g' h=>?_,hb.2.2⟩,Below.heap_alloc _ _ _ hb.1⟩,fun g' x h=>?_,fun g' b h cur T hh=>?_⟩
  · simp only[Hp.upd] at h
    split at h
    · cases h; exact absurd hb.1 (Nat.lt_irrefl _)
    · exact hb.2.1 g' h
  · simp only[Hp.upd]
    split
    · rename_i e; subst e; rw[hg] at h; cases h
    · exact h
  · have hlt:b<w.heap.size:=(Array.getElem?_eq_some_iff.1 hh).1
    exact⟨cur,by rw[Below.heap_alloc _ _ _ hlt]; exact hh,rfl⟩
theorem Ext.step {w:World} {p:Hp} (h:Ext w0 p0 w p) {w':World} {q:Hp} (hk:Keeps w p w' q) (hos:w'.os=w.os) (ht:w'.tape=w.tape∧w.drawn≤w'.drawn) (ho:w'.output=w.output)
    (hsz:w.heap.size≤w'.heap.size) (hA:q.A=p.A) (hoth:∀ b,b<w.heap.size→p.A b→w'.heap[b]?=w.heap[b]?)
    (hnew:∀ g,p.o g=none→q.o g≠none→p0.o g=none):Ext w0 p0 w' q:=by
  refine⟨hos.trans h.os,⟨ht.1.trans h.tape.1,Nat.le_trans h.tape.2 ht.2⟩,ho.trans h.output,Nat.le_trans h.size hsz,hA.trans h.A,fun b hb=>?_,fun b hb hAb=>?_,fun g x hx=>?_⟩
  · have h1:=h.stab b hb
    have h2:=hk.stab b h1.1
    exact⟨h2.1,h2.2.trans h1.2⟩
  · rw[hoth b (Nat.lt_of_lt_of_le hb h.size) (by rw[h.A]; exact hAb)]
    exact h.others b hb hAb
  · rcases h.name g x hx with h1 | ⟨h1,h2⟩
    · by_cases hq:q.o g=none
      · exact .inl hq
      · rw[hnew g h1 hq] at hx; cases hx
    · refine .inr ⟨hk.name g x h1,fun b hb cur T hh=>?_⟩
      obtain ⟨c1,e1,s1⟩:=h2 b hb cur T hh
      obtain ⟨c2,e2,s2⟩:=hk.shape g b (hb ▸ h1) c1 T e1
      exact⟨c2,e2,s2.trans s1⟩
def E0:Nat:=1048576
structure Fit (w0:World) (p0:Hp):Prop where
  names:∀ g,g<E0→p0.o g=none
  others:∀ b,p0.A b→b<w0.heap.size
def St.fresh (σ:St) (g:Nat):Prop:=g<E0∧bL σ.mem g=none
theorem MemRel.lt {w:World} {p:Hp} {mem:Mem} (hmem:MemRel w p mem) {g b:Nat} (hb:p.o g=some (some b)):b<w.heap.size:=by
  cases hl:bL mem g with
  | none=>rw[hmem.dom g hl] at hb; cases hb
  | some m' =>
    have:=hmem.holds g m' hl
    cases m' with
    | box cs=>obtain ⟨b',cur',T',e1,e2,_⟩:=this; rw[hb] at e1; cases e1; exact(Array.getElem?_eq_some_iff.1 e2).1
    | buf k xs =>
      rcases this with ⟨_,e1⟩ | ⟨b',cur',T',e1,e2,_⟩
      · rw[hb] at e1; cases e1
      · rw[hb] at e1; cases e1; exact(Array.getElem?_eq_some_iff.1 e2).1
theorem xV {σ:St} {a:Act} {w:World} (hf:Fit w0 p0) (hr:Rel w0 p0 σ a w) {g:Nat} (hg:σ.fresh g) (d:Option Nat) (hd:∀ x,d=some x→x<σ.n) (cur:Array Value) (T:TypeId) (m:AM) (av:AV) (v:Value)
    (hm:∀ p,SlotsRel w p σ.slots a.tmps→MemRel w p σ.mem→Keeps w p (w.alloc (.cells cur T)) (p.upd g (some (some w.heap.size)))→AMRel (w.alloc (.cells cur T)) (p.upd g (some (some w.heap.size))) g m)
    (hv:∀ p,MemRel w p σ.mem→RelV (w.alloc (.cells cur T)) (p.upd g (some (some w.heap.size))) av v) :
    Rel w0 p0 ({ σ with mem:=(g,m)::σ.mem }.putO d av) (a.put d v) (w.alloc (.cells cur T)):=by
  obtain ⟨h1,h2,p,hE,hs,hmem⟩:=hr
  have hk:=aNp (w:=w) (hmem.dom g hg.2) (.cells cur T)
  have hA:∀ b,p.A b→b<w.heap.size:=fun b hb=>Nat.lt_of_lt_of_le (hf.others b (hE.A ▸ hb)) hE.size
  have hE':Ext w0 p0 (w.alloc (.cells cur T)) (p.upd g (some (some w.heap.size))) :=
    hE.step hk rfl ⟨rfl,Nat.le_refl _⟩ rfl (by simp) rfl (fun b hb _=>Below.heap_alloc _ _ _ hb) (fun g' hp hq=>by
      simp only[Hp.upd] at hq
      split at hq
      · rename_i e; subst e; exact hf.names _ hg.1
      · exact absurd hp hq)
  have hmem':MemRel (w.alloc (.cells cur T)) (p.upd g (some (some w.heap.size))) ((g,m)::σ.mem):=by
    refine⟨fun g' hl=>?_,fun g' m' hl=>?_,fun g1 g2 b e1 e2=>?_,fun g' b e hb=>?_⟩
    · rw[dB] at hl
      split at hl
      · cases hl
      · rename_i hne
        simp only[Hp.upd]; rw[if_neg (fun e=>hne e.symm)]; exact hmem.dom g' hl
    · rw[dB] at hl
      split at hl
      · rename_i e; subst e; cases hl
        exact hm p hs hmem hk
      · refine(hmem.holds g' m' hl).keep hk fun b hb=>?_
        have hlt:b<w.heap.size:=hmem.lt hb
        exact Below.heap_alloc _ _ _ hlt
    · have hlt:∀ g',∀ b,p.o g'=some (some b)→b<w.heap.size:=fun g' b hb=>hmem.lt hb
      simp only[Hp.upd] at e1 e2
      split at e1 <;> split at e2 <;> rename_i c1 c2
      · rw[c1,c2]
      · cases e1; exact absurd (hlt _ _ e2) (Nat.lt_irrefl _)
      · cases e2; exact absurd (hlt _ _ e1) (Nat.lt_irrefl _)
      · exact hmem.inj g1 g2 b e1 e2
    · simp only[Hp.upd] at e hb
      split at e
      · cases e; exact absurd (hA _ hb) (Nat.lt_irrefl _)
      · exact hmem.avoid g' b e hb
  cases d with
  | none=>exact⟨h1,h2,_,hE',hs.keep hk,hmem'⟩
  | some d=>exact⟨h1,by simpa [Act.put,St.putO,St.put] using h2,_,hE',(hs.keep hk).put (by rw[h2]; exact hd d rfl) (hv p hmem),hmem'⟩
end Go.Abs
set_option linter.unusedVariables false
set_option linter.unusedSimpArgs false
namespace Go.Abs
open Go Go.RowKit
variable {P:Program} {w0:World} {p0:Hp}
theorem aop_box {o:Oper} {σ:St} {K:St→Prop} (hf:Fit w0 p0) {elem:TypeId} {x:Operand} {d:Nat} {av:AV} (ho:o.op=.box elem x) (hdst:o.dst=some d) (hd:d<σ.n) (hfr:σ.fresh d) (hx:σ.ev x=av)
    (h1:∀ c∈av.cells,c.one=true) (hk:K ({ σ with mem:=(d,.box av.cells)::σ.mem }.put d (.ref d 0 0 0))):AOp P w0 p0 o σ K:=by
  subst hx
  intro a w next Q hr hn
  have hrun:(execOp a.eval o).run P w=.ok (.value (.pointer (some ⟨w.heap.size,0,none⟩))) (w.alloc (.cells (a.eval x).cells elem)):=by
    simp [execOp,ho,Instr.box,newVar,newRow]
  unfold Oper.wp
  rw[hrun]
  refine hn _ _ _ hk ?_
  have:=xV hf hr hfr o.dst (fun y hy=>by rw[hdst] at hy; cases hy; exact hd) (a.eval x).cells elem (.box (σ.ev x).cells) (.ref d 0 0 0) (.pointer (some ⟨w.heap.size,0,none⟩)) ?_ ?_
  · rw[hdst] at this ⊢; exact this
  · intro p hs hm hkp
    obtain ⟨hl,hc⟩:=((dW hs x).keep hkp).cells h1
    exact⟨w.heap.size,_,elem,by simp [Hp.upd],heap_alloc_new w _,hl,hc⟩
  · intro p hm
    exact .ref d 0 0 0 w.heap.size (by simp [Hp.upd])
def RelL (w:World) (p:Hp) (cs:List AV) (vs:List Value):Prop:=cs.length=vs.length∧∀ (i:Nat) c v,cs[i]?=some c→vs[i]?=some v→RelV w p c v
def splice {α:Type} (l:List α) (off:Nat) (r:List α):List α:=l.take off++r++l.drop (off+r.length)
theorem aVe (cells:Array Value) (off:Nat):∀ (vs:List Value) (n:Nat),off+n+vs.length≤cells.size →
    ((vs.zipIdx n).foldl (fun cs (cj:Value×Nat)=>cs.setIfInBounds (off+cj.2) cj.1) cells).toList=splice cells.toList (off+n) vs:=by
  intro vs
  induction vs generalizing cells with
  | nil=>intro n h; simp [splice]
  | cons v vs ih =>
    intro n h
    simp only[List.length_cons] at h
    simp only[List.zipIdx_cons,List.foldl_cons]
    rw[ih _ (n+1) (by simp; omega)]
    simp only[splice,Array.toList_setIfInBounds,List.length_cons]
    apply List.ext_getElem?
    intro i
    simp only[List.getElem?_append,List.getElem?_take,List.getElem?_drop,List.length_append,List.length_take,List.length_set,List.getElem?_set,Array.length_toList,List.getElem?_cons]
    grind
theorem RelL.splice {w:World} {p:Hp} {cs:List AV} {vs:List Value} (h:RelL w p cs vs) {off:Nat} {rs:List AV} {us:List Value} (hr:RelL w p rs us) (hoff:off+rs.length≤cs.length):RelL w p (splice cs off rs) (splice vs off us):=by
  obtain ⟨h1,h2⟩:=h
  obtain ⟨h3,h4⟩:=hr
  refine⟨by simp [Abs.splice,h1,h3],fun i c v hc hv=>?_⟩
  simp only[Abs.splice,List.getElem?_append,List.getElem?_take,List.getElem?_drop,List.length_append,List.length_take] at hc hv
  rw[← h1,← h3] at hv
  split at hc
  · rename_i hlt
    rw[if_pos hlt] at hv
    split at hc
    · rename_i hlt2
      rw[if_pos hlt2] at hv
      split at hc
      · rename_i h5; rw[if_pos h5] at hv; exact h2 i c v hc hv
      · cases hc
    · rename_i hlt2
      rw[if_neg hlt2] at hv
      exact h4 _ c v hc hv
  · rename_i hlt
    rw[if_neg hlt] at hv
    exact h2 _ c v hc hv
end Go.Abs
set_option linter.unusedVariables false
set_option linter.unusedSimpArgs false
namespace Go.Abs
open Go Go.RowKit
variable {P:Program} {w0:World} {p0:Hp}
def aBe (place:Nat→Option (Nat×Nat)) (cs:List AV):List (Nat×AV)→Option (List AV)
  | []=>some cs
  | (i,a)::r=>match place i with
    | none=>none
    | some (off,size)=>if a.cells.length=size∧off+size≤cs.length then aBe place (splice cs off a.cells) r else none
theorem aGo {w:World} {p:Hp} {σ:St} {act:Act} (hs:SlotsRel w p σ.slots act.tmps) (place:Nat→Option (Nat×Nat)):∀ (parts:List (Nat×Operand)) (cs cs':List AV) (cells:Array Value),
    RelL w p cs cells.toList→(∀ x∈parts,∀ c∈(σ.ev x.2).cells,c.one=true)→aBe place cs (parts.map fun x=>(x.1,σ.ev x.2))=some cs' →
    ∃ cells',Instr.fill place cells (parts.map fun x=>(x.1,act.eval x.2))=some cells'∧RelL w p cs' cells'.toList:=by
  intro parts
  induction parts with
  | nil=>intro cs cs' cells h _ hf; simp [aBe] at hf; subst hf; exact⟨cells,rfl,h⟩
  | cons x parts ih =>
    intro cs cs' cells h h1 hf
    simp only[List.map_cons,aBe] at hf
    cases hpl:place x.1 with
    | none=>simp [hpl] at hf
    | some os =>
      obtain ⟨off,size⟩:=os
      simp only[hpl] at hf
      split at hf
      · rename_i hc
        obtain ⟨hlen,hoff⟩:=hc
        obtain ⟨e1,e2⟩:=(dW hs x.2).cells (h1 x (by simp))
        have hrl:RelL w p (σ.ev x.2).cells (act.eval x.2).cells.toList:=⟨by simpa using e1,fun i c v hc hv=>by
          obtain ⟨u,hu,hr⟩:=e2 i c hc
          simp only[Array.getElem?_toList] at hv
          rw[hu] at hv; cases hv; exact hr⟩
        have hsz:(act.eval x.2).cells.size=size:=by rw[← e1]; exact hlen
        have hcs:off+size≤cells.size:=by have:=h.1; simp at this; omega
        have hset:=aVe cells off (act.eval x.2).cells.toList 0 (by simp [hsz]; omega)
        obtain ⟨cells',hf',hr'⟩:=ih (splice cs off (σ.ev x.2).cells) cs' ((act.eval x.2).cells.zipIdx.foldl (fun cs (cj:Value×Nat)=>cs.setIfInBounds (off+cj.2) cj.1) cells)
          (by
            have e:((act.eval x.2).cells.zipIdx.foldl (fun cs (cj:Value×Nat)=>cs.setIfInBounds (off+cj.2) cj.1) cells).toList=splice cells.toList off (act.eval x.2).cells.toList:=by
              rw[← Array.foldl_toList,Array.toList_zipIdx]; simpa using hset
            rw[e]; exact h.splice hrl (by omega))
          (fun y hy=>h1 y (by simp [hy])) hf
        refine⟨cells',?_,hr'⟩
        simp only[List.map_cons,Instr.fill,hpl]
        rw[if_neg (by simp [hsz]; omega)]
        exact hf'
      · cases hf
def zeros? (P:Program) (t:TypeId):Option (List Value):=(P.info? t).bind fun i=>i.zero.map fun z=>z.cells.toList
def places? (P:Program) (t:TypeId):Option (List (Nat×Nat)):=match P.underlying t with | some (.struct fs)=>fs.toList.mapM fun f=>(cells? P f.type).map fun n=>(f.offset,n) | _=>none
theorem aQ3 (P:Program) (w:World):∀ (fs:List Field) (l:List (Nat×Nat)),(fs.mapM fun f=>(cells? P f.type).map fun n=>(f.offset,n))=some l →
    (fs.mapM (m:=Sem) fun f=>Prod.mk f.offset <$> sizeOf f.type).run P w=.ok l w:=by
  intro fs
  induction fs with
  | nil=>intro l h; simp at h; subst h; rfl
  | cons f fs ih =>
    intro l h
    simp only[List.mapM_cons] at h ⊢
    cases hc:cells? P f.type with
    | none=>simp [hc] at h
    | some n =>
      cases hm:(fs.mapM fun f=>(cells? P f.type).map fun n=>(f.offset,n)) with
      | none=>simp [hc,hm] at h
      | some l' =>
        simp [hc,hm] at h
        subst h
        simp [Sem.run_bind,eI hc,ih l' hm]
theorem zeros?_inv {t:TypeId} {zs:List Value} (h:zeros? P t=some zs) (w:World):∃ z,(zeroValue t).run P w=.ok z w∧z.cells.toList=zs:=by
  unfold zeros? at h
  cases hi:P.info? t with
  | none=>simp [hi] at h
  | some i =>
    cases hz:i.zero with
    | none=>simp [hi,hz] at h
    | some z=>simp [hi,hz] at h; exact⟨z,by simp [zeroValue,typeInfo,hi,hz],h⟩
theorem aRa {o:Oper} {σ:St} {t:TypeId} {parts:List (Nat×Operand)} {zs:List Value} {pl:List (Nat×Nat)} {cs:List AV} (ho:o.op=.build t parts.toArray) (hz:zeros? P t=some zs) (hp:places? P t=some pl)
    (h1:∀ x∈parts,∀ c∈(σ.ev x.2).cells,c.one=true) (hc:aBe (fun i=>pl[i]?) (zs.map .s) (parts.map fun x=>(x.1,σ.ev x.2))=some cs):cH P o σ (.agg cs):=by
  intro act w p hs _
  obtain ⟨z,hz1,hz2⟩:=zeros?_inv hz w
  have hu:∃ fs,P.underlying t=some (.struct fs)∧fs.toList.mapM (fun f=>(cells? P f.type).map fun n=>(f.offset,n))=some pl:=by
    unfold places? at hp
    split at hp
    · rename_i fs hu; exact⟨fs,hu,hp⟩
    · cases hp
  obtain ⟨fs,hu,hm⟩:=hu
  have hzr:RelL w p (zs.map .s) z.cells.toList:=by
    rw[hz2]
    refine⟨by simp,fun i c v hc hv=>?_⟩
    simp [hv] at hc; subst hc; exact .s v
  obtain ⟨cells',hf,hr⟩:=aGo hs (fun i=>pl[i]?) parts (zs.map .s) cs z.cells hzr h1 hc
  refine⟨.agg cells',?_,.agg _ _ (by simpa using hr.1) (fun i c v hc hv=>hr.2 i c v hc (by simpa using hv))⟩
  have hpl:=aQ3 P w fs.toList pl hm
  have hpl2:(fs.mapM (m:=Sem) fun f=>Prod.mk f.offset <$> sizeOf f.type).run P w=.ok pl.toArray w:=by
    rw[Array.mapM_eq_mapM_toList,map_eq_pure_bind,Sem.run_bind,hpl]
    rfl
  simp only[execOp,ho,Instr.build]
  simp [Sem.run_bind,hz1,run_underlying hu,hpl2]
  rw[hf]
  simp
end Go.Abs
set_option linter.unusedVariables false
set_option linter.unusedSimpArgs false
namespace Go.Abs
open Go Go.RowKit
variable {P:Program} {w0:World} {p0:Hp}
theorem oB {α:Type} {k:Nat}:∀ {xs:List (List α)},(∀ x∈xs,x.length=k)→xs.flatten.length=xs.length*k
  | [],_=>by simp
  | x::xs,h=>by
    have:=oB (xs:=xs) (fun y hy=>h y (by simp [hy]))
    simp only[List.flatten_cons,List.length_append,List.length_cons,this,h x (by simp)]
    rw[Nat.add_mul]; omega
theorem sL {α:Type} {k:Nat}:∀ {xs:List (List α)},(∀ x∈xs,x.length=k)→∀ {j:Nat} {x:List α} {i:Nat} {c:α},xs[j]?=some x→x[i]?=some c→xs.flatten[j*k+i]?=some c
  | [],_,_,_,_,_,hj,_=>by simp at hj
  | y::xs,h,0,x,i,c,hj,hi=>by
    simp at hj; subst hj
    have hlt:=(List.getElem?_eq_some_iff.1 hi).1
    simp only[List.flatten_cons,Nat.zero_mul,Nat.zero_add]
    rw[List.getElem?_append_left hlt]; exact hi
  | y::xs,h,j+1,x,i,c,hj,hi=>by
    have hy:=h y (by simp)
    simp only[List.flatten_cons]
    rw[List.getElem?_append_right (by rw[hy,Nat.add_mul]; omega)]
    have e:(j+1)*k+i - y.length=j*k+i:=by rw[hy,Nat.add_mul]; omega
    rw[e]
    exact sL (fun z hz=>h z (by simp [hz])) (by simpa using hj) hi
theorem aCi {k:Nat}:∀ (l:List (Nat×AV)) (n:Nat) (cs:List AV),l.map (·.1)=List.range' n l.length→(∀ x∈l,x.2.cells.length=k)→(n+l.length)*k≤cs.length →
    aBe (fun i=>some (i*k,k)) cs l=some (cs.take (n*k)++(l.map fun x=>x.2.cells).flatten++cs.drop ((n+l.length)*k))
  | [],n,cs,_,_,_=>by simp [aBe]
  | x::l,n,cs,hm,hk,hl=>by
    simp only[List.map_cons,List.length_cons,List.range'_succ,List.cons.injEq] at hm
    obtain ⟨h1,h2⟩:=hm
    have hx:=hk x (by simp)
    have hnk:(n+(l.length+1))*k=n*k+k+l.length*k:=by rw[Nat.add_mul,Nat.add_mul]; omega
    simp only[List.length_cons] at hl
    obtain ⟨i,a⟩:=x
    simp only at h1 hx
    subst h1
    simp only[aBe]
    rw[if_pos ⟨hx,by omega⟩]
    have hs:(splice cs (i*k) a.cells).length=cs.length:=by simp [splice,hx]; omega
    rw[aCi l (i+1) _ h2 (fun y hy=>hk y (by simp [hy])) (by
                                                                       rw[hs]; have:(i+1+l.length)*k=(i+(l.length+1))*k:=by congr 1; omega
                                                                       omega)]
    congr 1
    have e1:(splice cs (i*k) a.cells).take ((i+1)*k)=cs.take (i*k)++a.cells:=by
      simp only[splice]
      rw[List.take_append_of_le_length (by simp [hx,Nat.add_mul]; omega)]
      rw[List.take_of_length_le (by simp [hx,Nat.add_mul]; omega)]
    have e2:(splice cs (i*k) a.cells).drop ((i+1+l.length)*k)=cs.drop ((i+(l.length+1))*k):=by
      have e3:(i+1+l.length)*k=i*k+k+l.length*k:=by rw[Nat.add_mul,Nat.add_mul]; omega
      simp only[splice,e3]
      rw[List.drop_append]
      rw[List.drop_eq_nil_of_le (by simp [hx]; omega)]
      simp only[List.nil_append,List.drop_drop,List.length_append,List.length_take,hx]
      congr 1
      rw[hnk]; omega
    rw[e1,e2]
    simp [List.append_assoc]
theorem aG4 {o:Oper} {σ:St} {K:St→Prop} (hf:Fit w0 p0) {t e:TypeId} {len k d:Nat} {parts:List (Nat×Operand)} {xs:List (List AV)} (ho:o.op=.buildSlice t len parts.toArray) (hdst:o.dst=some d) (hd:d<σ.n) (hfr:σ.fresh d)
    (ht:elem? P t=some e) (hk:cells? P e=some k) (hk0:0<k) (hz:(zeros? P e).isSome=true) (hidx:parts.map (·.1)=List.range len) (hbig:len*k≤2 ^ 24)
    (hxs:(parts.map fun x=>(σ.ev x.2).cells)=xs) (hx:∀ x∈xs,x.length=k∧∀ c∈x,c.leaf=true)
    (hK:K ({ σ with mem:=(d,.buf k xs)::σ.mem }.put d (.own d k 0 len))):AOp P w0 p0 o σ K:=by
  intro a w next Q hr hn
  obtain ⟨zs,hzs⟩:=Option.isSome_iff_exists.1 hz
  obtain ⟨z,hz1,hz2⟩:=zeros?_inv hzs w
  have hlen:parts.length=len:=by have:=congrArg List.length hidx; simpa using this
  -- the cells xas they are before the parts are laid
  let z0:Array Value:=if len*k=0 then #[] else z.cells
  let init:Array Value:=(Array.range (len*k)).map (fun i=>z0[i % z0.size]!)
  have hinit:init.size=len*k:=by simp [init]
  have hxs':∀ x∈(parts.map fun x=>(x.1,σ.ev x.2)),x.2.cells.length=k:=by
    intro x hx'
    simp only[List.mem_map] at hx'
    obtain ⟨y,hy,rfl⟩:=hx'
    exact(hx _ (hxs ▸ List.mem_map.2 ⟨y,hy,rfl⟩)).1
  have hfill:∀ p,SlotsRel w p σ.slots a.tmps→∃ cells',Instr.fill (fun i=>some (i*k,k)) init (parts.map fun x=>(x.1,a.eval x.2))=some cells'∧RelL w p xs.flatten cells'.toList:=by
    intro p hs
    refine aGo hs _ parts (init.toList.map .s) _ init ⟨by simp,fun i c v hc hv=>?_⟩ (fun x hx' c hc=>AV.one_of_leaf ((hx _ (hxs ▸ List.mem_map.2 ⟨x,hx',rfl⟩)).2 c hc)) ?_
    · simp only[List.getElem?_map,hv,Option.map_some,Option.some.injEq] at hc
      subst hc; exact .s v
    · have:=aCi (k:=k) (parts.map fun x=>(x.1,σ.ev x.2)) 0 (init.toList.map .s) (by simpa [List.map_map,Function.comp_def,hlen,List.range_eq_range'] using hidx) hxs' (by simp [hlen,hinit])
      rw[this]
      simp only[Nat.zero_mul,List.take_zero,List.nil_append,Nat.zero_add,List.length_map,hlen]
      rw[List.drop_eq_nil_of_le (by simp [hinit]),List.append_nil,← hxs,List.map_map]
      rfl
  have hsz:xs.length=len:=by rw[← hxs]; simpa using hlen
  have hall:∀ x∈xs,x.length=k:=fun x h=>(hx x h).1
  obtain ⟨h1,h2,p,hE,hs,hm⟩:=hr
  obtain ⟨cells',hc1,hc2⟩:=hfill p hs
  have hrun:(execOp a.eval o).run P w=.ok (.value (.slice (some ⟨w.heap.size,0,none⟩) len len)) (w.alloc (.cells cells' e)):=by
    simp only[execOp,ho,Instr.buildSlice]
    by_cases h0:len*k=0
    · simp [Sem.run_bind,run_underlying (elem?_inv ht),eI hk,h0,newRow]
      have:init=#[]:=by apply Array.eq_empty_of_size_eq_zero; rw[hinit,h0]
      rw[this] at hc1
      rw[show Array.map (fun _=>(default:Value)) (Array.range 0)=#[] from (by apply Array.eq_empty_of_size_eq_zero; simp),hc1]; simp
    · have hng:¬ (16777216<len*k):=by omega
      simp [Sem.run_bind,run_underlying (elem?_inv ht),eI hk,h0,hz1,hng,newRow]
      have:init=Array.map (fun i=>z.cells[i % z.cells.size]!) (Array.range (len*k)):=by simp [init,z0,h0]
      rw[this] at hc1
      rw[hc1]; simp
  unfold Oper.wp
  rw[hrun]
  refine hn _ _ _ hK ?_
  have hcs:cells'.size=len*k:=by have:=hc2.1; rw[oB hall,hsz] at this; simpa using this.symm
  have hmax:len≤maxLen:=by
    have:len≤len*k:=Nat.le_mul_of_pos_right _ hk0
    unfold maxLen; omega
  have:=xV hf ⟨h1,h2,p,hE,hs,hm⟩ hfr o.dst (fun y hy=>by rw[hdst] at hy; cases hy; exact hd) cells' e (.buf k xs) (.own d k 0 len) (.slice (some ⟨w.heap.size,0,none⟩) len len) ?_ ?_
  · rw[hdst] at this ⊢; exact this
  · intro q hsq hmq hkq
    obtain ⟨cells2,hd1,hd2⟩:=hfill q hsq
    rw[hc1] at hd1; cases hd1
    refine .inr ⟨w.heap.size,_,e,by simp [Hp.upd],heap_alloc_new w _,by rw[hsz,hcs]; exact Nat.le_refl _,hx,fun j x i c hj hi=>?_⟩
    have hfl:=sL hall hj hi
    have hlt:j*k+i<cells'.size:=by
      have:=(List.getElem?_eq_some_iff.1 hfl).1
      rw[hd2.1] at this; simpa using this
    exact⟨cells'[j*k+i],by simp [hlt],(hd2.2 _ c _ hfl (by simp [hlt])).keep hkq⟩
  · intro q hmq
    have:=RelV.own (w:=w.alloc (.cells cells' e)) (p:=q.upd d (some (some w.heap.size))) d k 0 len w.heap.size len cells' e (by simp [Hp.upd]) (Nat.le_refl _) hmax (heap_alloc_new w _) (by rw[hcs]; omega)
    simpa using this
end Go.Abs
set_option linter.unusedVariables false
set_option linter.unusedSimpArgs false
namespace Go.Abs
open Go Go.RowKit
variable {P:Program} {w0:World} {p0:Hp}
mutual
def AV.clean (ok:Nat→Bool):AV→Bool
  | .s _=>true
  | .sl _ _=>true
  | .adr _=>true
  | .bad=>true
  | .own g _ _ _=>ok g
  | .ref g _ _ _=>ok g
  | .agg cs=>cleanL ok cs
  | .tup cs=>cleanL ok cs
  | .fn _ cs=>cleanL ok cs
def cleanL (ok:Nat→Bool):List AV→Bool
  | []=>true
  | c::cs=>c.clean ok&&cleanL ok cs
end
theorem mW {ok:Nat→Bool}:∀ {cs:List AV},cleanL ok cs=true→∀ c∈cs,c.clean ok=true
  | [],_,_,hc=>by simp at hc
  | x::cs,h,c,hc=>by
    simp only[cleanL,Bool.and_eq_true] at h
    rcases List.mem_cons.1 hc with rfl | hc
    · exact h.1
    · exact mW h.2 c hc
theorem aBd {ok:Nat→Bool}:∀ {cs:List AV},cs.all AV.still=true→cleanL ok cs=true
  | [],_=>rfl
  | c::cs,h=>by
    rw[List.all_cons,Bool.and_eq_true] at h
    rw[cleanL,aBd h.2,Bool.and_true]
    cases c <;> first | rfl | (simp [AV.still] at h)
theorem AV.clean_of_leaf {ok:Nat→Bool} {c:AV} (h:c.leaf=true):c.clean ok=true:=by
  cases c <;> first | rfl | (simp [AV.leaf] at h; done) | exact aBd h
theorem RelV.move {w:World} {p:Hp} {w':World} {q:Hp} {ok:Nat→Bool} (hs:∀ b,Stable w p b→Stable w' q b∧w'.heap[b]?=w.heap[b]?)
    (hn:∀ g x,ok g=true→p.o g=some x→q.o g=some x∧∀ b,x=some b→∀ cur T,w.heap[b]?=some (.cells cur T (0,0))→∃ cur',w'.heap[b]?=some (.cells cur' T (0,0))∧cur'.size=cur.size)
    {a:AV} {v:Value} (h:RelV w p a v):a.clean ok=true→RelV w' q a v:=by
  induction h with
  | s v=>exact fun _=>.s v
  | agg cs vs hl _ ih=>exact fun hc=>.agg cs vs hl fun i c v h1 h2=>ih i c v h1 h2 (mW hc c (List.mem_of_getElem? h1))
  | tup cs vs hl _ ih=>exact fun hc=>.tup cs vs hl fun i c v h1 h2=>ih i c v h1 h2 (mW hc c (List.mem_of_getElem? h1))
  | sln k a cap hcap=>exact fun _=>.sln k a cap hcap
  | slc k xs b off cap f hb hn' hcap hkk hc _ ih =>
    intro _
    have h1:=hs b hb
    exact .slc k xs b off cap f h1.1 hn' hcap hkk (fun j x i c hj hi=>by rw[World.cell?_of_block (w:=w) h1.2]; exact hc j x i c hj hi)
      (fun j x i c hj hi=>ih j x i c hj hi (AV.clean_of_leaf ((hkk x (List.mem_of_getElem? hj)).2 c (List.mem_of_getElem? hi))))
  | ownn g k hg=>exact fun hc=>.ownn g k (hn g _ hc hg).1
  | own g k off n b cap cur T hg hn' hcap hh hsz =>
    intro hc
    obtain ⟨h1,h2⟩:=hn g _ hc hg
    obtain ⟨cur',h3,h4⟩:=h2 b rfl cur T hh
    exact .own g k off n b cap cur' T h1 hn' hcap h3 (by omega)
  | own0 g k off b a hg=>exact fun hc=>.own0 g k off b a (hn g _ hc hg).1
  | adr cs b off f hb hkk hc _ ih =>
    intro _
    have h1:=hs b hb
    exact .adr cs b off f h1.1 hkk (fun i c hi=>by rw[World.cell?_of_block (w:=w) h1.2]; exact hc i c hi) (fun i c hi=>ih i c hi (AV.clean_of_leaf (hkk c (List.mem_of_getElem? hi))))
  | ref g k j f b hg=>exact fun hc=>.ref g k j f b (hn g _ hc hg).1
  | fn f cs vs hl _ ih=>exact fun hc=>.fn f cs vs hl fun i c v h1 h2=>ih i c v h1 h2 (mW hc c (List.mem_of_getElem? h1))
  | bad v=>exact fun _=>.bad v
mutual
def AV.conv (mem:Mem):AV→AV
  | .own g k off n=>match bL mem g with
    | some (.buf k' xs)=>if (k=k'∨n=0)∧off+n≤xs.length then .sl k ((xs.drop off).take n) else .bad
    | _=>.bad
  | .ref g k j f=>match bL mem g with
    | some m=>if (m.at k j f).all AV.leaf then .adr (m.at k j f) else .bad
    | none=>.bad
  | .agg cs=>.agg (convL mem cs)
  | .tup cs=>.tup (convL mem cs)
  | .fn f cs=>.fn f (convL mem cs)
  | .s v=>.s v
  | .sl k xs=>.sl k xs
  | .adr cs=>.adr cs
  | .bad=>.bad
def convL (mem:Mem):List AV→List AV
  | []=>[]
  | c::cs=>c.conv mem::convL mem cs
end
theorem wV (mem:Mem):∀ cs,convL mem cs=cs.map (AV.conv mem)
  | []=>rfl
  | c::cs=>by simp [convL,wV mem cs]
theorem aC7 {mem:Mem}:∀ {cs:List AV},cs.all AV.still=true→convL mem cs=cs
  | [],_=>rfl
  | c::cs,h=>by
    rw[List.all_cons,Bool.and_eq_true] at h
    rw[convL,aC7 h.2]
    congr 1
    cases c <;> first | rfl | (simp [AV.still] at h)
theorem AV.conv_leaf {mem:Mem} {c:AV} (h:c.leaf=true):c.conv mem=c:=by
  cases c <;> first | rfl | (simp [AV.leaf] at h; done) | (rw[AV.conv,aC7 h])
def Hp.bare (p:Hp):Hp:={ o:=fun _=>none,A:=p.A }
theorem MemRel.bare {w:World} {p:Hp} {mem:Mem} (hm:MemRel w p mem) {g b:Nat} (hg:p.o g=some (some b)):Stable w p.bare b :=
  ⟨hm.lt hg,(fun _ h=>by cases h),hm.avoid g b hg⟩
theorem Stable.bare {w:World} {p:Hp} {b:Nat} (h:Stable w p b):Stable w p.bare b:=⟨h.1,(fun _ h=>by cases h),h.2.2⟩
theorem RelV.leaf_bare {w:World} {p:Hp} {c:AV} {v:Value} (h:RelV w p c v) (hc:c.leaf=true):RelV w p.bare c v :=
  h.move (ok:=fun _=>false) (fun b hb=>⟨hb.bare,rfl⟩) (fun g x h _=>by cases h) (AV.clean_of_leaf hc)
theorem RelV.conv {w:World} {p:Hp} {mem:Mem} (hm:MemRel w p mem) {a:AV} {v:Value} (h:RelV w p a v):RelV w p.bare (a.conv mem) v:=by
  induction h with
  | s v=>exact .s v
  | agg cs vs hl _ ih =>
    simp only[AV.conv,wV]
    refine .agg _ vs (by simpa using hl) fun i c v h1 h2=>?_
    rw[List.getElem?_map] at h1
    cases hi:cs[i]? with
    | none=>simp [hi] at h1
    | some c'=>simp [hi] at h1; subst h1; exact ih i c' v hi h2
  | tup cs vs hl _ ih =>
    simp only[AV.conv,wV]
    refine .tup _ vs (by simpa using hl) fun i c v h1 h2=>?_
    rw[List.getElem?_map] at h1
    cases hi:cs[i]? with
    | none=>simp [hi] at h1
    | some c'=>simp [hi] at h1; subst h1; exact ih i c' v hi h2
  | fn f cs vs hl _ ih =>
    simp only[AV.conv,wV]
    refine .fn f _ vs (by simpa using hl) fun i c v h1 h2=>?_
    rw[List.getElem?_map] at h1
    cases hi:cs[i]? with
    | none=>simp [hi] at h1
    | some c'=>simp [hi] at h1; subst h1; exact ih i c' v hi h2
  | sln k a cap hcap=>exact .sln k a cap hcap
  | slc k xs b off cap f hb hn' hcap hkk hc hr ih =>
    exact .slc k xs b off cap f hb.bare hn' hcap hkk hc (fun j x i c hj hi=>by
      have:=ih j x i c hj hi
      rwa [AV.conv_leaf ((hkk x (List.mem_of_getElem? hj)).2 c (List.mem_of_getElem? hi))] at this)
  | adr cs b off f hb hkk hc hr ih =>
    exact .adr cs b off f hb.bare hkk hc (fun i c hi=>by
      have:=ih i c hi
      rwa [AV.conv_leaf (hkk c (List.mem_of_getElem? hi))] at this)
  | bad v=>exact .bad v
  | ownn g k hg =>
    simp only[AV.conv]
    split
    · split
      · simp only[Nat.zero_add,List.drop_zero,List.take_zero] at *
        exact .sln k none 0 (by simp)
      · exact .bad _
    · exact .bad _
  | own0 g k off b a hg =>
    simp only[AV.conv]
    split
    · split
      · simp only[List.take_zero]
        exact .sln k _ 0 (by simp)
      · exact .bad _
    · exact .bad _
  | own g k off n b cap cur T hg hn' hcap hh hsz =>
    simp only[AV.conv]
    split
    · rename_i k' xs hl
      split
      · rename_i hc
        obtain ⟨hk,hlen⟩:=hc
        by_cases hn0:n=0
        · subst hn0
          simp only[List.take_zero]
          exact .sln k _ cap hcap
        · have hk':k=k':=by rcases hk with h | h; exact h; exact absurd h hn0
          subst hk'
          rcases hm.holds g _ hl with ⟨rfl,_⟩ | ⟨b',cur',T',e1,e2,e3,e4,e5⟩
          · simp at hlen; omega
          · rw[hg] at e1; cases e1
            rw[hh] at e2; cases e2
            have hlen':((xs.drop off).take n).length=n:=by simp; omega
            have hget:∀ j x,((xs.drop off).take n)[j]?=some x→xs[off+j]?=some x:=fun j x h=>by
              rw[List.getElem?_take] at h
              split at h
              · rwa [List.getElem?_drop] at h
              · cases h
            have key:=RelV.slc (w:=w) (p:=p.bare) k ((xs.drop off).take n) b (off*k) cap (fun j i=>(cur[(off+j)*k+i]?).getD undef) (hm.bare hg) (by rw[hlen']; exact hn') hcap
              (fun x hx=>e4 x (List.mem_of_mem_drop (List.mem_of_mem_take hx)))
              (fun j x i c hj hi=>by
                obtain ⟨u,hu,_⟩:=e5 _ x i c (hget j x hj) hi
                have e:off*k+j*k+i=(off+j)*k+i:=by rw[Nat.add_mul]
                rw[iP hh,e,hu]; rfl)
              (fun j x i c hj hi=>by
                obtain ⟨u,hu,hr⟩:=e5 _ x i c (hget j x hj) hi
                rw[hu]
                exact hr.leaf_bare ((e4 x (List.mem_of_getElem? (hget j x hj))).2 c (List.mem_of_getElem? hi)))
            rwa [hlen'] at key
      · exact .bad _
    · exact .bad _
  | ref g k j f b hg =>
    simp only[AV.conv]
    split
    · rename_i m hl
      split
      · rename_i hall
        have hall':∀ c∈m.at k j f,c.leaf=true:=by simpa using hall
        exact .adr (m.at k j f) b (j*k+f) (fun i=>(w.cell? ⟨b,j*k+f+i,none⟩).getD undef) (hm.bare hg) hall'
          (fun i c hi=>by obtain ⟨u,hu,_⟩:=(hm.holds g m hl).at hg i c hi; rw[hu]; rfl)
          (fun i c hi=>by
            obtain ⟨u,hu,hr⟩:=(hm.holds g m hl).at hg i c hi
            rw[hu]; exact hr.leaf_bare (hall' c (List.mem_of_getElem? hi)))
      · exact .bad _
    · exact .bad _
end Go.Abs
set_option linter.unusedVariables false
set_option linter.unusedSimpArgs false
namespace Go.Abs
open Go Go.RowKit
variable {P:Program} {w0:World} {p0:Hp}
def sO (P:Program) (σ:St):ResultVar→Option AV
  | .tmp t=>some (σ.get t)
  | .cell a t=>match σ.get a with
    | .ref g k j f=>match bL σ.mem g with
      | some m=>match agg? P t with
        | some false=>(m.at k j f)[0]?
        | some true=>match cells? P t with
          | some n=>if n≤(m.at k j f).length then some (.agg ((m.at k j f).take n)) else none
          | none=>none
        | none=>none
      | none=>none
    | _=>none
def zU (P:Program) (fn:Func) (σ:St):Option AV:=match fn.results.toList.mapM (sO P σ) with
  | some [a]=>some a
  | some l=>some (.tup l)
  | none=>none
def rv1 (tmps:Array Value) (rv:ResultVar):Sem Value:=match rv with | .tmp t=>pure (tmps.getD t undef) | .cell a t=>do loadVar t (← asAddr (tmps.getD a undef))
theorem aMz (fn:Func) (tmps:Array Value):results fn tmps=(do let vs ← fn.results.mapM (rv1 tmps); pure (if h:vs.size=1 then vs[0] else .tuple vs)):=by
  unfold results
  congr 1
theorem aOr {σ:St} {tmps:Array Value} {w:World} {p:Hp} (hs:SlotsRel w p σ.slots tmps) (hm:MemRel w p σ.mem) (rv:ResultVar) (r:AV) (h:sO P σ rv=some r) :
    ∃ v,(rv1 tmps rv).run P w=.ok v w∧RelV w p r v:=by
  cases rv with
  | tmp t =>
    simp only[sO,Option.some.injEq] at h
    subst h
    exact⟨_,rfl,dW (a:=⟨tmps,[]⟩) hs (.tmp t)⟩
  | cell a t =>
    simp only[sO] at h
    have h1:=dW (a:=⟨tmps,[]⟩) (σ:=σ) hs (.tmp a)
    simp only[St.ev,Act.eval] at h1
    generalize hv:tmps.getD a undef=u at h1
    split at h
    · rename_i g k j f hget
      rw[hget] at h1
      cases h1 with
      | ref _ _ _ _ b hg =>
        split at h
        · rename_i m hl
          split at h
          · rename_i hagg
            obtain ⟨v,hv',hr⟩:=(hm.holds g m hl).at hg 0 r h
            simp only[Nat.add_zero] at hv'
            exact⟨v,by simp only[rv1,hv]; simp [asAddr,loadVar,uJ hagg,hv'],hr⟩
          · rename_i hagg
            split at h
            · rename_i n hn
              split at h
              · rename_i hlen
                cases h
                have ho:({ dst:=none,op:=.load t (.tmp a),type:=0,pos:="",after:=#[],guard:=none }:Oper).op=.load t (.tmp a):=rfl
                obtain ⟨v,hv2,hr⟩:=wF (P:=P) (σ:=σ) ho hagg hn hget hl hlen ⟨tmps,[]⟩ w p hs hm
                refine⟨v,?_,hr⟩
                simp only[execOp,Instr.loadAt,Act.eval,hv,Instr.sureAddr] at hv2
                simp only[rv1,hv,asAddr]
                simp at hv2 ⊢
                cases hrun:Sem.run P (loadVar t { block:=b,off:=j*k+f }) w with
                | ok v' w'=>simp [hrun] at hv2; simp [hv2]
                | halt x w'=>simp [hrun] at hv2
              · cases h
            · cases h
          · cases h
        · cases h
    · cases h
theorem wX {fn:Func} {σ:St} {tmps:Array Value} {w:World} {p:Hp} (hs:SlotsRel w p σ.slots tmps) (hm:MemRel w p σ.mem) (r:AV) (h:zU P fn σ=some r) :
    ∃ v,(results fn tmps).run P w=.ok v w∧RelV w p r v:=by
  have key:∀ (l:List ResultVar) (rs:List AV),l.mapM (sO P σ)=some rs →
      ∃ vs:List Value,(l.mapM (m:=Sem) (rv1 tmps)).run P w=.ok vs w∧RelL w p rs vs:=by
    intro l
    induction l with
    | nil=>intro rs h; simp at h; subst h; exact⟨[],rfl,rfl,by simp⟩
    | cons x l ih =>
      intro rs h
      simp only[List.mapM_cons] at h
      cases hx:sO P σ x with
      | none=>simp [hx] at h
      | some r1 =>
        cases hl:l.mapM (sO P σ) with
        | none=>simp [hx,hl] at h
        | some rs' =>
          simp [hx,hl] at h
          subst h
          obtain ⟨v,hv,hr⟩:=aOr hs hm x r1 hx
          obtain ⟨vs,hvs,hrs1,hrs2⟩:=ih rs' hl
          refine⟨v::vs,?_,by simp [hrs1],fun i c u hc hu=>?_⟩
          · rw[List.mapM_cons,Sem.run_bind,hv,Result.andThen_ok,Sem.run_bind,hvs]; rfl
          · cases i with
            | zero=>simp at hc hu; subst hc; subst hu; exact hr
            | succ i=>simp at hc hu; exact hrs2 i c u hc hu
  unfold zU at h
  cases hm':fn.results.toList.mapM (sO P σ) with
  | none=>simp [hm'] at h
  | some rs =>
    obtain ⟨vs,h1,h2,h3⟩:=key _ _ hm'
    have hrun:(results fn tmps).run P w=.ok (if h:vs.toArray.size=1 then vs.toArray[0] else .tuple vs.toArray) w:=by
      rw[aMz,Sem.run_bind,Array.mapM_eq_mapM_toList,map_eq_pure_bind,Sem.run_bind,h1]
      rfl
    match rs,hm',h2,h3,h with
    | [a],hm',h2,h3,h =>
      simp [hm'] at h
      subst h
      match vs,h2 with
      | [v],_=>exact⟨v,by rw[hrun]; rfl,h3 0 a v rfl rfl⟩
    | [],hm',h2,h3,h =>
      simp [hm'] at h
      subst h
      match vs,h2 with
      | [],_=>exact⟨_,by rw[hrun]; rfl,.tup _ _ rfl (by simp)⟩
    | a::b::l,hm',h2,h3,h =>
      simp [hm'] at h
      subst h
      match vs,h2 with
      | v1::v2::vs',h2 =>
        refine⟨.tuple (v1::v2::vs').toArray,by rw[hrun]; rfl,.tup _ _ (by simpa using h2) (fun i c v hc hv=>h3 i c v hc (by simpa using hv))⟩
end Go.Abs
set_option linter.unusedVariables false
set_option linter.unusedSimpArgs false
namespace Go.Abs
open Go Go.RowKit
variable {P:Program} {w0:World} {p0:Hp}
def iB (A:Nat→Prop):Hp:={ o:=fun _=>none,A:=A }
def Den (P:Program) (f:Nat) (args:List AV) (Q:AV→Prop):Prop :=
  ∀ (A:Nat→Prop) (w:World) (vals:List Value),(∀ b,A b→b<w.heap.size)→RelL w (iB A) args vals →
    Calls P f vals.toArray w (fun e w'=>∃ v r,e=.returned v∧Q r∧Ext w (iB A) w' (iB A)∧RelV w' (iB A) r v)
theorem Den.mono {f:Nat} {args:List AV} {Q Q':AV→Prop} (h:Den P f args Q) (hq:∀ r,Q r→Q' r):Den P f args Q' :=
  fun A w vals hA hr=>(h A w vals hA hr).mono fun _ _ ⟨v,r,h1,h2,h3⟩=>⟨v,r,h1,hq r h2,h3⟩
def iD:Nat→List AV→List (Nat×AV)
  | _,[]=>[]
  | n,a::r=>(n,a)::iD (n+1) r
def retQ (P:Program) (fn:Func) (Q:AV→Prop):Exit→St→Prop
  | .ret,σ=>∃ r,zU P fn σ=some r∧Q (r.conv σ.mem)
  | .normal,σ=>∃ r,zU P fn σ=some r∧Q (r.conv σ.mem)
  | _,_=>False
theorem jW:∀ (l:List AV) (n t:Nat) (a:AV),bL (iD n l) t=some a→n≤t∧l[t - n]?=some a
  | [],_,_,_,h=>by simp [iD,bL] at h
  | b::l,n,t,a,h=>by
    simp only[iD,bL] at h
    split at h
    · rename_i e; subst e; cases h; simp
    · rename_i hne
      obtain ⟨h1,h2⟩:=jW l (n+1) t a h
      refine⟨by omega,?_⟩
      have e:t - n=(t - (n+1))+1:=by omega
      rw[e,List.getElem?_cons_succ]; exact h2
theorem Ext.refl (w:World) (p:Hp):Ext w p w p :=
  ⟨rfl,⟨rfl,Nat.le_refl _⟩,rfl,Nat.le_refl _,rfl,fun _ h=>⟨h,rfl⟩,fun _ _ _=>rfl,fun g x h=>.inr ⟨h,fun _ _ cur _ hh=>⟨cur,hh,rfl⟩⟩⟩
theorem aR {f:Nat} {fn:Func} {c:Code} {args:List AV} {Q:AV→Prop} (hf:P.funcs[f]?=some fn) (hb:fn.body=some c) (hn:args.length≤fn.ntmps)
    (h:∀ w0 A,Fit w0 (iB A)→AW P w0 (iB A) c ⟨fn.ntmps,iD 0 args,[]⟩ (retQ P fn Q)):Den P f args Q:=by
  intro A w vals hA hr
  refine calls_of_wp hf hb ?_
  have hfit:Fit w (iB A):=⟨fun _ _=>rfl,hA⟩
  have hrel:Rel w (iB A) ⟨fn.ntmps,iD 0 args,[]⟩ { tmps:=vals.toArray++Array.replicate (fn.ntmps - vals.toArray.size) undef,defers:=[] } w:=by
    refine⟨rfl,by have:=hr.1; simp; omega,iB A,Ext.refl _ _,fun t a ht=>?_,⟨fun _ _=>rfl,fun g m h=>by simp [bL] at h,(fun g g' b h=>by cases h),(fun g b h=>by cases h)⟩⟩
    obtain ⟨_,ht⟩:=jW args 0 t a ht
    simp only[Nat.sub_zero] at ht
    have hlt:t<vals.length:=by rw[← hr.1]; exact(List.getElem?_eq_some_iff.1 ht).1
    exact⟨vals[t],by rw[Array.getElem?_append_left (by simpa using hlt)]; simp [hlt],hr.2 t a _ ht (by simp [hlt])⟩
  refine wp_mono (h w A hfit _ w hrel) ?_
  rintro e a' w' ⟨σ',hq,h1,h2,p,hE,hs,hm⟩
  have fin:(∃ r,zU P fn σ'=some r∧Q (r.conv σ'.mem))→a'.defers=[]∧∃ v,(results fn a'.tmps).run P w'=.ok v w'∧∃ v' r,Ending.returned v=.returned v'∧Q r∧Ext w (iB A) w' (iB A)∧RelV w' (iB A) r v':=by
    rintro ⟨r,hres,hQ⟩
    obtain ⟨v,hv,hrv⟩:=wX hs hm r hres
    have hc:=hrv.conv hm
    have hbare:p.bare=iB A:=by simp [Hp.bare,iB,hE.A]
    rw[hbare] at hc
    exact⟨h1,v,hv,v,_,rfl,hQ,⟨hE.os,hE.tape,hE.output,hE.size,rfl,fun b hb=>⟨hbare ▸ (hE.stab b hb).1.bare,(hE.stab b hb).2⟩,hE.others,fun g x hx=>by cases hx⟩,hc⟩
  cases e with
  | normal=>exact fin hq
  | ret=>exact fin hq
  | _=>exact hq.elim
mutual
theorem AV.clean_true:∀ a:AV,a.clean (fun _=>true)=true
  | .s _=>rfl
  | .sl _ _=>rfl
  | .adr _=>rfl
  | .bad=>rfl
  | .own _ _ _ _=>rfl
  | .ref _ _ _ _=>rfl
  | .agg cs=>by simp only[AV.clean]; exact cleanL_true cs
  | .tup cs=>by simp only[AV.clean]; exact cleanL_true cs
  | .fn _ cs=>by simp only[AV.clean]; exact cleanL_true cs
theorem cleanL_true:∀ cs:List AV,cleanL (fun _=>true) cs=true
  | []=>rfl
  | c::cs=>by simp only[cleanL,AV.clean_true c,cleanL_true cs]; rfl
end
mutual
def AV.flat:AV→Bool
  | .s _=>true
  | .agg cs=>flatL cs
  | .tup cs=>flatL cs
  | _=>false
def flatL:List AV→Bool
  | []=>true
  | c::cs=>c.flat&&flatL cs
end
theorem aCf:∀ {cs:List AV},flatL cs=true→∀ c∈cs,c.flat=true
  | [],_,_,hc=>by simp at hc
  | x::cs,h,c,hc=>by
    simp only[flatL,Bool.and_eq_true] at h
    rcases List.mem_cons.1 hc with rfl | hc
    · exact h.1
    · exact aCf h.2 c hc
theorem RelV.flat {w:World} {p:Hp} {a:AV} {v:Value} (h:RelV w p a v) (w':World) (q:Hp):a.flat=true→RelV w' q a v:=by
  induction h with
  | s v=>exact fun _=>.s v
  | agg cs vs hl _ ih=>exact fun hc=>.agg cs vs hl fun i c v h1 h2=>ih i c v h1 h2 (aCf hc c (List.mem_of_getElem? h1))
  | tup cs vs hl _ ih=>exact fun hc=>.tup cs vs hl fun i c v h1 h2=>ih i c v h1 h2 (aCf hc c (List.mem_of_getElem? h1))
  | _=>exact fun hc=>by simp [AV.flat] at hc
theorem AOp.le {o:Oper} {σ σ':St} {K:St→Prop} (hl:Le σ σ') (h:AOp P w0 p0 o σ' K):AOp P w0 p0 o σ K :=
  fun a w next Q hr hn=>h a w next Q (hl _ _ _ _ hr) hn
def Hp.all (p:Hp):Nat→Prop:=fun b=>p.A b∨∃ g,p.o g=some (some b)
theorem aRh {w:World} {p:Hp} {mem:Mem} (hm:MemRel w p mem) {A:Nat→Prop} {w':World} (hE:Ext w (iB A) w' (iB A)):Keeps w p w' p:=by
  have hsame:∀ b,b<w.heap.size→w'.heap[b]?=w.heap[b]?:=fun b hb=>by
    by_cases hA:A b
    · exact hE.others b hb hA
    · exact(hE.stab b ⟨hb,(fun g h=>by cases h),hA⟩).2
  exact⟨fun b hb=>⟨⟨Nat.lt_of_lt_of_le hb.1 hE.size,hb.2⟩,hsame b hb.1⟩,fun _ _ h=>h,fun g b hg cur T hh=>⟨cur,by rw[hsame b (hm.lt hg)]; exact hh,rfl⟩⟩
theorem aWy {σ:St} {a:Act} {w:World} {p:Hp} (h1:a.defers=[]) (h2:a.tmps.size=σ.n) (hE0:Ext w0 p0 w p) (hs:SlotsRel w p σ.slots a.tmps) (hm:MemRel w p σ.mem) {A:Nat→Prop} {w':World} (hE:Ext w (iB A) w' (iB A))
    (d:Option Nat) (hd:∀ x,d=some x→x<σ.n) {r:AV} {v:Value} (hv:RelV w' p r v):Rel w0 p0 (σ.putO d r) (a.put d v) w':=by
  have hk:=aRh hm hE
  have hsame:∀ b,b<w.heap.size→w'.heap[b]?=w.heap[b]?:=fun b hb=>by
    by_cases hA:A b
    · exact hE.others b hb hA
    · exact(hE.stab b ⟨hb,(fun g h=>by cases h),hA⟩).2
  have hE':Ext w0 p0 w' p:=hE0.step hk hE.os hE.tape hE.output hE.size rfl (fun b hb _=>hsame b hb) (fun g h1 h2=>absurd h1 h2)
  have hm':MemRel w' p σ.mem:=⟨hm.dom,fun g m hl=>(hm.holds g m hl).keep hk fun b hb=>hsame b (hm.lt hb),hm.inj,hm.avoid⟩
  cases d with
  | none=>exact⟨h1,h2,p,hE',hs.keep hk,hm'⟩
  | some d=>exact⟨h1,by simpa [Act.put,St.putO,St.put] using h2,p,hE',(hs.keep hk).put (by rw[h2]; exact hd d rfl) hv,hm'⟩
theorem rT {o:Oper} {σ:St} {act:Act} {w:World} {p:Hp} {fo:Operand} {xs:List Operand} {ts:Array TypeId} {f:Nat} {cap:List AV} (ho:o.op=.call { callee:=.value fo,args:=xs.toArray,argTypes:=ts })
    (hent:∀ args w,(callFunc f args).run P w=.ok (.enter f args) w) (hs:SlotsRel w p σ.slots act.tmps) (hfo:σ.ev fo=.fn f cap) :
    ∃ vals,(execOp act.eval o).run P w=.ok (.enter f vals.toArray) w∧RelL w p (xs.map σ.ev++cap) vals:=by
  have h1:=dW hs fo
  rw[hfo] at h1
  generalize hv:act.eval fo=v at *
  cases h1 with
  | fn _ _ vs hl h =>
    refine⟨xs.map act.eval++vs.toList,by simp [execOp,ho,resolve,hv,Deferred.ofValue,invoke,hent],by simp [hl],fun i c u hc hu=>?_⟩
    by_cases hlt:i<xs.length
    · rw[List.getElem?_append_left (by simpa using hlt),List.getElem?_map] at hc hu
      simp [hlt] at hc hu
      subst hc; subst hu; exact dW hs _
    · rw[List.getElem?_append_right (by simpa using hlt)] at hc hu
      simp only[List.length_map] at hc hu
      exact h _ c u hc (by simpa using hu)
theorem aV5 {o:Oper} {σ:St} {K:St→Prop} (hf:Fit w0 p0) {fo:Operand} {xs:List Operand} {ts:Array TypeId} {f:Nat} {cap:List AV} {Q:AV→Prop} (ho:o.op=.call { callee:=.value fo,args:=xs.toArray,argTypes:=ts })
    (hent:∀ args w,(callFunc f args).run P w=.ok (.enter f args) w) (hd:∀ x,o.dst=some x→x<σ.n) (hfo:σ.ev fo=.fn f cap) (hcl:∀ a∈xs.map σ.ev++cap,a.clean (fun _=>false)=true)
    (hden:Den P f (xs.map σ.ev++cap) Q) (hK:∀ r,Q r→K (σ.putO o.dst r)):AOp P w0 p0 o σ K:=by
  intro a w next Q' ⟨h1,h2,p,hE,hs,hm⟩ hn
  obtain ⟨vals,hrun,hrel⟩:=rT (P:=P) ho hent hs hfo
  unfold Oper.wp
  rw[hrun]
  simp only[Oper.upon]
  have hA:∀ b,p.all b→b<w.heap.size:=fun b hb=>by
    rcases hb with hb | ⟨g,hg⟩
    · exact Nat.lt_of_lt_of_le (hf.others b (hE.A ▸ hb)) hE.size
    · exact hm.lt hg
  refine(hden p.all w vals hA ⟨hrel.1,fun i c v hc hv=>(hrel.2 i c v hc hv).move (ok:=fun _=>false) (fun b hb=>⟨⟨hb.1,(fun _ h=>by cases h),?_⟩,rfl⟩) (fun _ _ h=>by cases h) (hcl c (List.mem_of_getElem? hc))⟩).mono ?_
  · rintro (h | ⟨g,hg⟩)
    · exact hb.2.2 h
    · exact hb.2.1 g hg
  · rintro e w' ⟨v,r,rfl,hQ,hE',hr⟩
    refine hn _ _ _ (hK r hQ) (aWy h1 h2 hE hs hm hE' o.dst hd ?_)
    refine hr.move (p:=iB p.all) (q:=p) (ok:=fun _=>true) (fun b (hb:Stable w' (iB p.all) b)=>⟨⟨hb.1,fun g hg=>hb.2.2 (Or.inr ⟨g,hg⟩:p.all b),fun h=>hb.2.2 (Or.inl h:p.all b)⟩,rfl⟩) (fun _ _ _ h=>by cases h) (AV.clean_true r)
end Go.Abs
set_option linter.unusedVariables false
set_option linter.unusedSimpArgs false
namespace Go.Abs
open Go Go.RowKit
variable {P:Program} {w0:World} {p0:Hp}
mutual
def AV.only (ok:Nat→Bool) (mem:Mem):AV→AV
  | .own g k off n=>if ok g then .own g k off n else match bL mem g with
    | some (.buf k' xs)=>if (k=k'∨n=0)∧off+n≤xs.length then .sl k ((xs.drop off).take n) else .bad
    | _=>.bad
  | .ref g k j f=>if ok g then .ref g k j f else match bL mem g with
    | some m=>if (m.at k j f).all AV.leaf then .adr (m.at k j f) else .bad
    | none=>.bad
  | .agg cs=>.agg (onlyL ok mem cs)
  | .tup cs=>.tup (onlyL ok mem cs)
  | .fn f cs=>.fn f (onlyL ok mem cs)
  | .s v=>.s v
  | .sl k xs=>.sl k xs
  | .adr cs=>.adr cs
  | .bad=>.bad
def onlyL (ok:Nat→Bool) (mem:Mem):List AV→List AV
  | []=>[]
  | c::cs=>c.only ok mem::onlyL ok mem cs
end
theorem tM (ok:Nat→Bool) (mem:Mem):∀ cs,onlyL ok mem cs=cs.map (AV.only ok mem)
  | []=>rfl
  | c::cs=>by simp [onlyL,tM ok mem cs]
theorem aC1 {ok:Nat→Bool} {mem:Mem}:∀ {cs:List AV},cs.all AV.still=true→onlyL ok mem cs=cs
  | [],_=>rfl
  | c::cs,h=>by
    rw[List.all_cons,Bool.and_eq_true] at h
    rw[onlyL,aC1 h.2]
    congr 1
    cases c <;> first | rfl | (simp [AV.still] at h)
theorem AV.only_leaf {ok:Nat→Bool} {mem:Mem} {c:AV} (h:c.leaf=true):c.only ok mem=c:=by
  cases c <;> first | rfl | (simp [AV.leaf] at h; done) | (rw[AV.only,aC1 h])
def Hp.only (ok:Nat→Bool) (p:Hp):Hp:={ o:=fun g=>if ok g then p.o g else none,A:=p.A }
def Mem.only (ok:Nat→Bool) (mem:Mem):Mem→Mem
  | []=>[]
  | (g,m)::r=>if ok g then (g,match m with | .box cs=>.box (onlyL ok mem cs) | m=>m)::Mem.only ok mem r else Mem.only ok mem r
def St.only (ok:Nat→Bool) (σ:St):St:={ n:=σ.n,slots:=σ.slots.map fun x=>(x.1,x.2.only ok σ.mem),mem:=Mem.only ok σ.mem σ.mem }
theorem Stable.only {w:World} {p:Hp} {ok:Nat→Bool} {b:Nat} (h:Stable w p b):Stable w (p.only ok) b :=
  ⟨h.1,(fun g hg=>by simp only[Hp.only] at hg; split at hg; exact h.2.1 g hg; cases hg),h.2.2⟩
theorem MemRel.only_stable {w:World} {p:Hp} {mem:Mem} (hm:MemRel w p mem) {ok:Nat→Bool} {g b:Nat} (hg:p.o g=some (some b)) (hok:ok g=false):Stable w (p.only ok) b :=
  ⟨hm.lt hg,(fun g' h=>by
    simp only[Hp.only] at h
    split at h
    · rename_i h2
      have:=hm.inj g g' b hg h
      subst this; rw[hok] at h2; cases h2
    · cases h),hm.avoid g b hg⟩
theorem RelV.leaf_only {w:World} {p:Hp} {ok:Nat→Bool} {c:AV} {v:Value} (h:RelV w p c v) (hc:c.leaf=true):RelV w (p.only ok) c v :=
  h.move (ok:=fun _=>false) (fun b hb=>⟨hb.only,rfl⟩) (fun g x h _=>by cases h) (AV.clean_of_leaf hc)
theorem RelV.only {w:World} {p:Hp} {mem:Mem} (hm:MemRel w p mem) (ok:Nat→Bool) {a:AV} {v:Value} (h:RelV w p a v):RelV w (p.only ok) (a.only ok mem) v:=by
  induction h with
  | s v=>exact .s v
  | agg cs vs hl _ ih =>
    simp only[AV.only,tM]
    refine .agg _ vs (by simpa using hl) fun i c v h1 h2=>?_
    rw[List.getElem?_map] at h1
    cases hi:cs[i]? with
    | none=>simp [hi] at h1
    | some c'=>simp [hi] at h1; subst h1; exact ih i c' v hi h2
  | tup cs vs hl _ ih =>
    simp only[AV.only,tM]
    refine .tup _ vs (by simpa using hl) fun i c v h1 h2=>?_
    rw[List.getElem?_map] at h1
    cases hi:cs[i]? with
    | none=>simp [hi] at h1
    | some c'=>simp [hi] at h1; subst h1; exact ih i c' v hi h2
  | fn f cs vs hl _ ih =>
    simp only[AV.only,tM]
    refine .fn f _ vs (by simpa using hl) fun i c v h1 h2=>?_
    rw[List.getElem?_map] at h1
    cases hi:cs[i]? with
    | none=>simp [hi] at h1
    | some c'=>simp [hi] at h1; subst h1; exact ih i c' v hi h2
  | sln k a cap hcap=>exact .sln k a cap hcap
  | slc k xs b off cap f hb hn' hcap hkk hc hr ih =>
    exact .slc k xs b off cap f hb.only hn' hcap hkk hc (fun j x i c hj hi=>by
      have:=ih j x i c hj hi
      rwa [AV.only_leaf ((hkk x (List.mem_of_getElem? hj)).2 c (List.mem_of_getElem? hi))] at this)
  | adr cs b off f hb hkk hc hr ih =>
    exact .adr cs b off f hb.only hkk hc (fun i c hi=>by
      have:=ih i c hi
      rwa [AV.only_leaf (hkk c (List.mem_of_getElem? hi))] at this)
  | bad v=>exact .bad v
  | ownn g k hg =>
    simp only[AV.only]
    split
    · rename_i hok; exact .ownn g k (by simp [Hp.only,hok,hg])
    · split
      · split
        · simp only[List.drop_zero,List.take_zero] at *
          exact .sln k none 0 (by simp)
        · exact .bad _
      · exact .bad _
  | own0 g k off b a hg =>
    simp only[AV.only]
    split
    · rename_i hok; exact .own0 g k off b a (by simp [Hp.only,hok,hg])
    · split
      · split
        · simp only[List.take_zero]
          exact .sln k _ 0 (by simp)
        · exact .bad _
      · exact .bad _
  | own g k off n b cap cur T hg hn' hcap hh hsz =>
    simp only[AV.only]
    split
    · rename_i hok; exact .own g k off n b cap cur T (by simp [Hp.only,hok,hg]) hn' hcap hh hsz
    · rename_i hok
      split
      · rename_i k' xs hl
        split
        · rename_i hc
          obtain ⟨hk,hlen⟩:=hc
          by_cases hn0:n=0
          · subst hn0
            simp only[List.take_zero]
            exact .sln k _ cap hcap
          · have hk':k=k':=by rcases hk with h | h; exact h; exact absurd h hn0
            subst hk'
            rcases hm.holds g _ hl with ⟨rfl,_⟩ | ⟨b',cur',T',e1,e2,e3,e4,e5⟩
            · simp at hlen; omega
            · rw[hg] at e1; cases e1
              rw[hh] at e2; cases e2
              have hlen':((xs.drop off).take n).length=n:=by simp; omega
              have hget:∀ j x,((xs.drop off).take n)[j]?=some x→xs[off+j]?=some x:=fun j x h=>by
                rw[List.getElem?_take] at h
                split at h
                · rwa [List.getElem?_drop] at h
                · cases h
              have key:=RelV.slc (w:=w) (p:=p.only ok) k ((xs.drop off).take n) b (off*k) cap (fun j i=>(cur[(off+j)*k+i]?).getD undef) (hm.only_stable hg (by simpa using hok)) (by rw[hlen']; exact hn') hcap
                (fun x hx=>e4 x (List.mem_of_mem_drop (List.mem_of_mem_take hx)))
                (fun j x i c hj hi=>by
                  obtain ⟨u,hu,_⟩:=e5 _ x i c (hget j x hj) hi
                  have e:off*k+j*k+i=(off+j)*k+i:=by rw[Nat.add_mul]
                  rw[iP hh,e,hu]; rfl)
                (fun j x i c hj hi=>by
                  obtain ⟨u,hu,hr⟩:=e5 _ x i c (hget j x hj) hi
                  rw[hu]
                  exact hr.leaf_only ((e4 x (List.mem_of_getElem? (hget j x hj))).2 c (List.mem_of_getElem? hi)))
              rwa [hlen'] at key
        · exact .bad _
      · exact .bad _
  | ref g k j f b hg =>
    simp only[AV.only]
    split
    · rename_i hok; exact .ref g k j f b (by simp [Hp.only,hok,hg])
    · rename_i hok
      split
      · rename_i m hl
        split
        · rename_i hall
          have hall':∀ c∈m.at k j f,c.leaf=true:=by simpa using hall
          exact .adr (m.at k j f) b (j*k+f) (fun i=>(w.cell? ⟨b,j*k+f+i,none⟩).getD undef) (hm.only_stable hg (by simpa using hok)) hall'
            (fun i c hi=>by obtain ⟨u,hu,_⟩:=(hm.holds g m hl).at hg i c hi; rw[hu]; rfl)
            (fun i c hi=>by
              obtain ⟨u,hu,hr⟩:=(hm.holds g m hl).at hg i c hi
              rw[hu]; exact hr.leaf_only (hall' c (List.mem_of_getElem? hi)))
        · exact .bad _
      · exact .bad _
theorem qM (ok:Nat→Bool) (mem:Mem):∀ (l:Mem) (g:Nat),bL (Mem.only ok mem l) g=if ok g then (bL l g).map (fun m=>match m with | .box cs=>.box (onlyL ok mem cs) | m=>m) else none
  | [],g=>by simp [Mem.only,bL]
  | (d,m)::r,g=>by
    simp only[Mem.only]
    by_cases hd:ok d=true
    · rw[if_pos hd]
      simp only[bL]
      by_cases e:d=g
      · subst e; simp [hd]
      · rw[if_neg e,if_neg e]; exact qM ok mem r g
    · rw[if_neg hd,qM ok mem r g]
      simp only[bL]
      by_cases e:d=g
      · subst e; simp [hd]
      · rw[if_neg e]
theorem aNm (f:AV→AV):∀ (l:List (Nat×AV)) (t:Nat),bL (l.map fun x=>(x.1,f x.2)) t=(bL l t).map f
  | [],_=>rfl
  | (d,a)::r,t=>by
    simp only[List.map_cons,bL]
    split
    · rfl
    · exact aNm f r t
theorem Le.only (ok:Nat→Bool) (σ:St):Le σ (σ.only ok):=by
  intro w0 p0 a w ⟨h1,h2,p,hE,hs,hm⟩
  refine⟨h1,h2,p.only ok,⟨hE.os,hE.tape,hE.output,hE.size,hE.A,fun b hb=>⟨(hE.stab b hb).1.only,(hE.stab b hb).2⟩,hE.others,fun g x hx=>?_⟩,fun t b hb=>?_,?_⟩
  · by_cases hok:ok g=true
    · rcases hE.name g x hx with h | h
      · exact .inl (by simp [Hp.only,h])
      · exact .inr ⟨by simp [Hp.only,hok,h.1],h.2⟩
    · exact .inl (by simp [Hp.only,hok])
  · simp only[St.only,aNm] at hb
    cases hl:bL σ.slots t with
    | none=>simp [hl] at hb
    | some c =>
      simp [hl] at hb; subst hb
      obtain ⟨v,hv,hr⟩:=hs t c hl
      exact⟨v,hv,hr.only hm ok⟩
  · refine⟨fun g hl=>?_,fun g m hl=>?_,fun g g' b e1 e2=>?_,fun g b e=>?_⟩
    · simp only[St.only,qM] at hl
      by_cases hok:ok g=true
      · simp [hok] at hl
        simp [Hp.only,hm.dom g hl]
      · simp [Hp.only,hok]
    · simp only[St.only,qM] at hl
      by_cases hok:ok g=true
      · rw[if_pos hok] at hl
        cases hl':bL σ.mem g with
        | none=>simp [hl'] at hl
        | some m' =>
          rw[hl'] at hl
          have:=hm.holds g m' hl'
          cases m' with
          | box cs =>
            simp at hl; subst hl
            obtain ⟨b,cur,T,e1,e2,e3,e4⟩:=this
            refine⟨b,cur,T,by simp [Hp.only,hok,e1],e2,by simpa [tM] using e3,fun i c hc=>?_⟩
            rw[tM,List.getElem?_map] at hc
            cases hi:cs[i]? with
            | none=>simp [hi] at hc
            | some c' =>
              simp [hi] at hc; subst hc
              obtain ⟨v,hv,hr⟩:=e4 i c' hi
              exact⟨v,hv,hr.only hm ok⟩
          | buf k xs =>
            simp at hl; subst hl
            rcases this with ⟨e0,e1⟩ | ⟨b,cur,T,e1,e2,e3,e4,e5⟩
            · exact .inl ⟨e0,by simp [Hp.only,hok,e1]⟩
            · exact .inr ⟨b,cur,T,by simp [Hp.only,hok,e1],e2,e3,e4,fun j x i c hx hc=>by
                obtain ⟨v,hv,hr⟩:=e5 j x i c hx hc
                exact⟨v,hv,hr.leaf_only ((e4 x (List.mem_of_getElem? hx)).2 c (List.mem_of_getElem? hc))⟩⟩
      · simp [hok] at hl
    · simp only[Hp.only] at e1 e2
      split at e1
      · split at e2
        · exact hm.inj g g' b e1 e2
        · cases e2
      · cases e1
    · simp only[Hp.only] at e
      split at e
      · exact hm.avoid g b e
      · cases e
def kP (f:Nat→Option AV):List (Nat×AV)→Prop
  | []=>True
  | (t,a)::r=>f t=some a∧kP f r
theorem nG {f:Nat→Option AV}:∀ {l:List (Nat×AV)},kP f l→∀ t a,bL l t=some a→f t=some a
  | [],_,_,_,h=>by simp [bL] at h
  | (d,b)::r,hc,t,a,h=>by
    simp only[bL] at h
    split at h
    · rename_i e; subst e; cases h; exact hc.1
    · exact nG hc.2 t a h
theorem Le.cover {σ σ':St} (hn:σ'.n=σ.n) (hm:σ'.mem=σ.mem) (hs:kP (bL σ.slots) σ'.slots):Le σ σ':=by
  intro w0 p0 a w ⟨h1,h2,p,hE,hsl,hmem⟩
  exact⟨h1,by rw[hn]; exact h2,p,hE,fun t b hb=>hsl t b (nG hs t b hb),by rw[hm]; exact hmem⟩
end Go.Abs
set_option linter.unusedVariables false
set_option linter.unusedSimpArgs false
namespace Go.Abs
open Go Go.RowKit
variable {P:Program} {w0:World} {p0:Hp}
def eK (σ:St) (k:Nat):AV→Option (List (List AV))
  | .sl k' ys=>if k'=k∨ys=[] then some ys else none
  | .own g k' off m=>match bL σ.mem g with
    | some (.buf k2 xs)=>if ((k'=k∧k2=k)∨m=0)∧off+m≤xs.length then some ((xs.drop off).take m) else none
    | _=>none
  | .s (.slice none 0 0)=>some []
  | _=>none
def Src (w:World) (p:Hp) (k:Nat) (ys:List (List AV)) (v:Value):Prop :=
  ∃ (ax:Option Addr) (c:Nat) (news:List Value),v=.slice ax ys.length c∧news.length=ys.length*k∧(∀ x∈ys,x.length=k∧∀ c∈x,c.leaf=true) ∧
    (ys≠[]→∃ a,ax=some a∧∀ j u,news[j]?=some u→w.cell? (a.add j)=some u) ∧
    (∀ (j:Nat) x (i:Nat) c,ys[j]?=some x→x[i]?=some c→∃ u,news[j*k+i]?=some u∧RelV w p c u)
theorem xS {w:World} {p:Hp} {k:Nat} (ax:Option Addr) (c:Nat):Src w p k [] (.slice ax 0 c) :=
  ⟨ax,c,[],rfl,by simp,by simp,by simp,by simp⟩
theorem aWr {w:World} {p:Hp} {k:Nat} {ys:List (List AV)} {b off c:Nat} (hk:∀ x∈ys,x.length=k∧∀ c∈x,c.leaf=true)
    (h:∀ (j:Nat) x (i:Nat) c,ys[j]?=some x→x[i]?=some c→∃ u,w.cell? ⟨b,off+(j*k+i),none⟩=some u∧RelV w p c u):Src w p k ys (.slice (some ⟨b,off,none⟩) ys.length c):=by
  have hfl:=oB (fun x hx=>(hk x hx).1)
  have key:∀ t,t<ys.length*k→∃ j x i c,ys[j]?=some x∧x[i]?=some c∧t=j*k+i:=by
    intro t ht
    have hk0:0<k:=by rcases Nat.eq_zero_or_pos k with h | h; (subst h; simp at ht); exact h
    have hj:t / k<ys.length:=Nat.div_lt_of_lt_mul (by rw[Nat.mul_comm]; exact ht)
    have hx:ys[t / k]?=some ys[t / k]:=by simp [hj]
    have hxl:=(hk _ (List.mem_of_getElem? hx)).1
    have hi:t % k<(ys[t / k]).length:=by rw[hxl]; exact Nat.mod_lt _ hk0
    exact⟨t / k,_,t % k,_,hx,List.getElem?_eq_getElem hi,by rw[Nat.mul_comm]; exact(Nat.div_add_mod t k).symm⟩
  let news:List Value:=(List.range (ys.length*k)).map (fun t=>(w.cell? ⟨b,off+t,none⟩).getD undef)
  refine⟨_,c,news,rfl,by simp [news],hk,fun _=>⟨_,rfl,fun j u hu=>?_⟩,fun j x i c hj hi=>?_⟩
  · have hlt:j<ys.length*k:=by have:=(List.getElem?_eq_some_iff.1 hu).1; simpa [news] using this
    obtain ⟨j',x,i,c,e1,e2,e3⟩:=key j hlt
    obtain ⟨u',hu',_⟩:=h j' x i c e1 e2
    rw[← e3] at hu'
    simp only[news,List.getElem?_map,List.getElem?_range hlt,Option.map_some,Option.some.injEq] at hu
    rw[kA,hu',← hu,hu']; rfl
  · obtain ⟨u,hu,hr⟩:=h j x i c hj hi
    have hlt:j*k+i<ys.length*k:=by
      have h1:=(List.getElem?_eq_some_iff.1 hj).1
      have h2:=(List.getElem?_eq_some_iff.1 hi).1
      rw[(hk x (List.mem_of_getElem? hj)).1] at h2
      calc j*k+i<j*k+k:=by omega
        _=(j+1)*k:=by rw[Nat.add_mul]; omega
        _≤ys.length*k:=Nat.mul_le_mul_right _ h1
    refine⟨u,?_,hr⟩
    simp only[news,List.getElem?_map,List.getElem?_range hlt,Option.map_some,hu]; rfl
theorem aX6 {σ:St} {a:Act} {w:World} {p:Hp} (hs:SlotsRel w p σ.slots a.tmps) (hm:MemRel w p σ.mem) {k:Nat} {x:Operand} {ys:List (List AV)} (h:eK σ k (σ.ev x)=some ys):Src w p k ys (a.eval x):=by
  have hr:=dW hs x
  generalize a.eval x=v at *
  generalize σ.ev x=av at *
  cases hr with
  | sln k' ax cap hcap=>simp only[eK] at h; split at h <;> cases h; exact xS ax cap
  | slc k' xs b off cap f hb hn hcap hkk hc hr =>
    simp only[eK] at h
    split at h
    · rename_i hk
      have h':=Option.some.inj h
      subst h'
      by_cases hx:xs=[]
      · subst hx; exact xS _ _
      · have:k'=k:=by rcases hk with h | h; exact h; exact absurd h hx
        subst this
        exact aWr hkk fun j x i c hj hi=>⟨f j i,by rw[← Nat.add_assoc]; exact hc j x i c hj hi,hr j x i c hj hi⟩
    · cases h
  | s v =>
    simp only[eK] at h
    split at h <;> first | (cases h; rename_i e; cases e; exact xS _ _) | (simp at *; done) | cases h
  | ownn g k' hg =>
    simp only[eK] at h
    split at h
    · split at h
      · cases h; simp only[List.take_zero]; exact xS _ _
      · cases h
    · cases h
  | own0 g k' off b a' hg =>
    simp only[eK] at h
    split at h
    · split at h
      · cases h; simp only[List.take_zero]; exact xS _ _
      · cases h
    · cases h
  | own g k' off n b cap cur T hg hn hcap hh hsz =>
    simp only[eK] at h
    split at h
    · rename_i k2 xs hl
      split at h
      · rename_i hc
        cases h
        obtain ⟨hk,hlen⟩:=hc
        by_cases hn0:n=0
        · subst hn0; simp only[List.take_zero]; exact xS _ _
        · obtain ⟨ek1,ek2⟩:k'=k∧k2=k:=by rcases hk with h | h; exact h; exact absurd h hn0
          subst ek2; subst ek1
          rcases hm.holds g _ hl with ⟨rfl,_⟩ | ⟨b',cur',T',e1,e2,e3,e4,e5⟩
          · simp at hlen; omega
          · rw[hg] at e1; cases e1
            rw[hh] at e2; cases e2
            have hlen':((xs.drop off).take n).length=n:=by simp; omega
            have hget:∀ j x,((xs.drop off).take n)[j]?=some x→xs[off+j]?=some x:=fun j x h=>by
              rw[List.getElem?_take] at h
              split at h
              · rwa [List.getElem?_drop] at h
              · cases h
            have:=aWr (w:=w) (p:=p) (k:=k') (ys:=(xs.drop off).take n) (b:=b) (off:=off*k') (c:=cap) (fun x hx=>e4 x (List.mem_of_mem_drop (List.mem_of_mem_take hx)))
              (fun j x i c hj hi=>by
                obtain ⟨u,hu,hr⟩:=e5 _ x i c (hget j x hj) hi
                refine⟨u,?_,hr⟩
                have e:off*k'+(j*k'+i)=(off+j)*k'+i:=by rw[Nat.add_mul]; omega
                rw[iP hh,e,hu])
            rwa [hlen'] at this
      · cases h
    · cases h
  | _=>simp [eK] at h
end Go.Abs
set_option linter.unusedVariables false
set_option linter.unusedSimpArgs false
namespace Go.Abs
open Go Go.RowKit
variable {P:Program} {w0:World} {p0:Hp}
def AV.kill (g:Nat) (a:AV):AV:=if a.clean (fun x=>x != g)=true then a else .bad
def nC (g:Nat):List (Nat×AV)→List (Nat×AV)
  | []=>[]
  | (t,a)::r=>(t,a.kill g)::nC g r
def qO (g:Nat):Mem→Mem
  | []=>[]
  | (g',m)::r=>if g'=g then qO g r else (g',match m with | .box cs=>.box (cs.map (AV.kill g)) | m=>m)::qO g r
theorem wL (g:Nat):∀ (l:List (Nat×AV)) (t:Nat),bL (nC g l) t=(bL l t).map (AV.kill g)
  | [],_=>rfl
  | (d,a)::r,t=>by
    simp only[nC,bL]
    split
    · rfl
    · exact wL g r t
theorem qN (g:Nat):∀ (l:Mem) (t:Nat),t≠g→bL (qO g l) t=(bL l t).map (fun m=>match m with | .box cs=>.box (cs.map (AV.kill g)) | m=>m)
  | [],_,_=>rfl
  | (d,m)::r,t,h=>by
    simp only[qO,bL]
    by_cases e:d=g
    · rw[if_pos e,qN g r t h,if_neg (by rw[e]; exact fun h'=>h h'.symm)]
    · rw[if_neg e]
      simp only[bL]
      split
      · rfl
      · exact qN g r t h
theorem RelV.kill {w:World} {p:Hp} {w':World} {q:Hp} {g:Nat} (hmv:∀ a v,RelV w p a v→a.clean (fun x=>x != g)=true→RelV w' q a v) {a:AV} {v:Value} (h:RelV w p a v):RelV w' q (a.kill g) v:=by
  unfold AV.kill
  split
  · rename_i hc; exact hmv a v h hc
  · exact .bad v
theorem uK {σ:St} {a:Act} {w:World} {p:Hp} (h1:a.defers=[]) (h2:a.tmps.size=σ.n) (hs:SlotsRel w p σ.slots a.tmps) (hm:MemRel w p σ.mem) (g:Nat) {w':World} {q:Hp} (hE:Ext w0 p0 w' q)
    (hmv:∀ a v,RelV w p a v→a.clean (fun x=>x != g)=true→RelV w' q a v) (hno:∀ g',g'≠g→q.o g'=p.o g') (hheap:∀ b g',g'≠g→p.o g'=some (some b)→w'.heap[b]?=w.heap[b]?)
    {m:AM} (hAM:AMRel w' q g m) (hinj:∀ g' b,g'≠g→q.o g=some (some b)→p.o g'≠some (some b)) (hav:∀ b,q.o g=some (some b)→¬ q.A b) (hA:q.A=p.A)
    {d:Nat} (hd:d<σ.n) {av:AV} {v:Value} (hv:RelV w' q av v):Rel w0 p0 ⟨σ.n,(d,av)::nC g σ.slots,(g,m)::qO g σ.mem⟩ (a.put (some d) v) w':=by
  refine⟨h1,by simpa [Act.put] using h2,q,hE,SlotsRel.put (fun t b hb=>?_) (by rw[h2]; exact hd) hv,⟨fun g' hl=>?_,fun g' m' hl=>?_,fun g1 g2 b e1 e2=>?_,fun g' b e=>?_⟩⟩
  · rw[wL] at hb
    cases hl:bL σ.slots t with
    | none=>simp [hl] at hb
    | some c =>
      simp [hl] at hb; subst hb
      obtain ⟨u,hu,hr⟩:=hs t c hl
      exact⟨u,hu,hr.kill hmv⟩
  · rw[dB] at hl
    split at hl
    · cases hl
    · rename_i hne
      have hne':g'≠g:=fun e=>hne e.symm
      rw[qN g _ _ hne'] at hl
      rw[hno g' hne']
      refine hm.dom g' ?_
      cases h:bL σ.mem g' with
      | none=>rfl
      | some m=>rw[h] at hl; cases hl
  · rw[dB] at hl
    split at hl
    · rename_i e; subst e; cases hl; exact hAM
    · rename_i hne
      have hne':g'≠g:=fun e=>hne e.symm
      rw[qN g _ _ hne'] at hl
      cases h:bL σ.mem g' with
      | none=>simp [h] at hl
      | some m0 =>
        rw[h] at hl
        have:=hm.holds g' m0 h
        cases m0 with
        | box cs =>
          simp at hl; subst hl
          obtain ⟨b,cur,T,e1,e2,e3,e4⟩:=this
          refine⟨b,cur,T,by rw[hno g' hne']; exact e1,by rw[hheap b g' hne' e1]; exact e2,by simpa using e3,fun i c hc=>?_⟩
          rw[List.getElem?_map] at hc
          cases hi:cs[i]? with
          | none=>simp [hi] at hc
          | some c' =>
            simp [hi] at hc; subst hc
            obtain ⟨u,hu,hr⟩:=e4 i c' hi
            exact⟨u,hu,hr.kill hmv⟩
        | buf k xs =>
          simp at hl; subst hl
          rcases this with ⟨e0,e1⟩ | ⟨b,cur,T,e1,e2,e3,e4,e5⟩
          · exact .inl ⟨e0,by rw[hno g' hne']; exact e1⟩
          · exact .inr ⟨b,cur,T,by rw[hno g' hne']; exact e1,by rw[hheap b g' hne' e1]; exact e2,e3,e4,fun j x i c hx hc=>by
              obtain ⟨u,hu,hr⟩:=e5 j x i c hx hc
              exact⟨u,hu,hmv c u hr (AV.clean_of_leaf ((e4 x (List.mem_of_getElem? hx)).2 c (List.mem_of_getElem? hc)))⟩⟩
  · by_cases c1:g1=g <;> by_cases c2:g2=g
    · rw[c1,c2]
    · subst c1; rw[hno g2 c2] at e2; exact absurd e2 (hinj g2 b c2 e1)
    · subst c2; rw[hno g1 c1] at e1; exact absurd e1 (hinj g1 b c1 e2)
    · rw[hno g1 c1] at e1; rw[hno g2 c2] at e2; exact hm.inj g1 g2 b e1 e2
  · by_cases c1:g'=g
    · subst c1; exact hav b e
    · rw[hno g' c1] at e; rw[hA]; exact hm.avoid g' b e
theorem qE {t ty e:TypeId} {k:Nat} (ht:elem? P t=some e) (hk:cells? P e=some k) (base ax:Option Addr) (n cap c:Nat) (hn:n≤cap) (w:World) :
    (Builtin.append_ #[t,t] ty #[.slice base n cap,.slice ax 0 c]).run P w=.ok (.slice base n cap) w:=by
  have hu:=elem?_inv ht
  cases ax with
  | none=>cases base <;> simp [Builtin.append_,run_underlying hu,eI hk,Builtin.lenOf,hn,Builtin.firstCells,storeCells]
  | some a=>cases base <;> simp [Builtin.append_,run_underlying hu,eI hk,Builtin.lenOf,hn,Builtin.firstCells,loadCells,loadCellsFrom,storeCells]
theorem oQ {t ty e:TypeId} {k:Nat} (ht:elem? P t=some e) (hk:cells? P e=some k) {w:World} {T:TypeId}
    (g sLen sCap:Nat) (cur:Array Value) (hg:w.heap[g]?=some (.cells cur T (0,0)))
    (a:Addr) (m c:Nat) (news:List Value) (hl:news.length=m*k) (hnews:∀ j u,news[j]?=some u→w.cell? (a.add j)=some u) (h1:∀ u∈news,u.oneCell'=true)
    (hroom:sLen+m≤sCap) (hfit:sLen*k+news.length≤cur.size) :
    (Builtin.append_ #[t,t] ty #[.slice (some ⟨g,0,none⟩) sLen sCap,.slice (some a) m c]).run P w =
      .ok (.slice (some ⟨g,0,none⟩) (sLen+m) sCap) (w.setRow g (cur.toList.take (sLen*k)++news++cur.toList.drop (sLen*k+news.length)).toArray):=by
  have hf:=run_firstCells_some (P:=P) w k m a m c news hl hnews
  have hst:=run_storeCells_at P g (sLen*k) T news 0 cur w hg (by simpa using hfit) h1
  simp only[Nat.add_zero] at hst
  simp [Builtin.append_,run_underlying (elem?_inv ht),eI hk,Builtin.lenOf,hroom,hf,Addr.add_lit,hst]
end Go.Abs
set_option linter.unusedVariables false
set_option linter.unusedSimpArgs false
namespace Go.Abs
open Go Go.RowKit
variable {P:Program} {w0:World} {p0:Hp}
def appT? (P:Program) (t:TypeId):Option (Nat×Nat×Nat):=match elem? P t with
  | some e=>match P.info? e with
    | some i=>match i.zero with
      | some z=>if z.cells.size=i.size∧0<i.size then some (e,i.size,i.bytes) else none
      | none=>none
    | none=>none
  | none=>none
theorem appT?_inv {t e k by_:Nat} (h:appT? P t=some (e,k,by_)):elem? P t=some e∧cells? P e=some k∧0<k∧∃ i z,P.info? e=some i∧i.zero=some z∧i.size=k∧i.bytes=by_∧z.cells.size=k:=by
  unfold appT? at h
  split at h
  · rename_i e' he
    split at h
    · rename_i i hi
      split at h
      · rename_i z hz
        split at h
        · rename_i hc
          cases h
          exact⟨he,by simp [cells?,hi],hc.2,i,z,hi,hz,rfl,rfl,hc.1⟩
        · cases h
      · cases h
    · cases h
  · cases h
theorem aR2 {o:Oper} {σ:St} {K:St→Prop} (hf:Fit w0 p0) {s x:Operand} {t e k by_ d g n:Nat} {xs ys:List (List AV)} {k':Nat} (ho:o.op=.call { callee:=.builtin .append,args:=#[s,x],argTypes:=#[t,t] }) (hdst:o.dst=some d) (hd:d<σ.n)
    (ht:appT? P t=some (e,k,by_)) (hg:g<E0) (hs:σ.ev s=.own g k 0 n) (hl:bL σ.mem g=some (.buf k' xs)) (hk':k'=k∨xs=[]) (hn:n=xs.length) (hx:eK σ k (σ.ev x)=some ys)
    (hmax:n+ys.length≤maxLen) (hby:(n+ys.length)*by_≤140737488355328)
    (hK:K ⟨σ.n,(d,.own g k 0 (n+ys.length))::nC g σ.slots,(g,.buf k (xs++ys))::qO g σ.mem⟩):AOp P w0 p0 o σ K:=by
  intro a w next Q ⟨h1,h2,p,hE,hsl,hm⟩ hnx
  obtain ⟨he,hck,hk0,i,z,hi,hz,rfl,rfl,hzc⟩:=appT?_inv ht
  have hsrc:=aX6 hsl hm hx
  obtain ⟨ax,c,news,ex,hnl,hyk,hny,hnr⟩:=hsrc
  have hse:=dW hsl s
  rw[hs] at hse
  have hexec:(execOp a.eval o).run P w=((Builtin.append_ #[t,t] o.type #[a.eval s,.slice ax ys.length c]).run P w).andThen fun v w'=>.ok (.value v) w':=by
    simp only[execOp,ho,resolve,invoke,builtin,Sem.run_bind,Sem.run_pure,Result.andThen_ok,List.map_toArray,List.map_cons,List.map_nil,ex]
  have hp0:p0.o g=none:=hf.names g hg
  have hAb:∀ b,p.A b→b<w.heap.size:=fun b hb=>Nat.lt_of_lt_of_le (hf.others b (hE.A ▸ hb)) hE.size
  have h63:n+ys.length≤9223372036854775807:=by unfold maxLen at hmax; omega
  have hone:∀ u∈news,u.oneCell'=true:=by
    intro u hu
    obtain ⟨t',ht'⟩:=List.getElem?_of_mem hu
    have hlt:=(List.getElem?_eq_some_iff.1 ht').1
    rw[hnl] at hlt
    have hj:t' / i.size<ys.length:=Nat.div_lt_of_lt_mul (by rw[Nat.mul_comm]; exact hlt)
    have hxx:ys[t' / i.size]?=some ys[t' / i.size]:=by simp [hj]
    have hxl:=(hyk _ (List.mem_of_getElem? hxx)).1
    have hii:t' % i.size<(ys[t' / i.size]).length:=by rw[hxl]; exact Nat.mod_lt _ hk0
    obtain ⟨u',hu',hr⟩:=hnr _ _ _ _ hxx (List.getElem?_eq_getElem hii)
    have et:t' / i.size*i.size+t' % i.size=t':=by rw[Nat.mul_comm]; exact Nat.div_add_mod t' i.size
    rw[et,ht'] at hu'
    cases hu'
    exact hr.one (AV.one_of_leaf ((hyk _ (List.mem_of_getElem? hxx)).2 _ (List.getElem_mem hii)))
  have hyall:∀ x∈xs++ys,(∀ x∈xs,x.length=i.size∧∀ c∈x,c.leaf=true)→x.length=i.size∧∀ c∈x,c.leaf=true:=fun x hx h=>by
    rcases List.mem_append.1 hx with hx | hx
    · exact h x hx
    · exact hyk x hx
  unfold Oper.wp
  rw[hexec]
  -- a new block
  have grow:∀ (olds:List Value) (cap:Nat),olds.length=n*i.size→n+ys.length≤cap→cap≤maxLen→(∀ x∈xs,x.length=i.size∧∀ c∈x,c.leaf=true) →
      (∀ (j:Nat) x (i':Nat) c,xs[j]?=some x→x[i']?=some c→∃ u,olds[j*i.size+i']?=some u∧RelV w p c u) →
      o.upon P a next Q (.ok (.value (.slice (some ⟨w.heap.size,0,none⟩) (n+ys.length) cap)) (w.drew.alloc (.cells (olds.toArray++news.toArray++Builtin.zeroCells z.cells (cap - (n+ys.length))) e))):=by
    intro olds cap holen hcap hcm hxk holds
    simp only[Oper.upon]
    generalize hw':w.drew.alloc (.cells (olds.toArray++news.toArray++Builtin.zeroCells z.cells (cap - (n+ys.length))) e)=w'
    have hheap:∀ b,b<w.heap.size→w'.heap[b]?=w.heap[b]?:=fun b hb=>by rw[← hw']; exact Below.heap_alloc w.drew _ b hb
    have hnew:w'.heap[w.heap.size]?=some (.cells (olds.toArray++news.toArray++Builtin.zeroCells z.cells (cap - (n+ys.length))) e (0,0)):=by rw[← hw']; exact heap_alloc_new w.drew _
    have hsize:w'.heap.size=w.heap.size+1:=by rw[← hw']; simp
    have hmv:∀ a v,RelV w p a v→a.clean (fun x=>x != g)=true→RelV w' (p.upd g (some (some w.heap.size))) a v:=fun a v hr hc =>
      hr.move (p:=p) (q:=p.upd g (some (some w.heap.size))) (ok:=fun x=>x != g) (fun b hb=>⟨⟨by rw[hsize]; have:=hb.1; omega,fun g' hg'=>by
        simp only[Hp.upd] at hg'
        split at hg'
        · cases hg'; exact absurd hb.1 (Nat.lt_irrefl _)
        · exact hb.2.1 g' hg',hb.2.2⟩,hheap b hb.1⟩)
        (fun g' x hok hx=>by
          have hne:g'≠g:=by simpa using hok
          refine⟨by simp only[Hp.upd]; rw[if_neg hne]; exact hx,fun b hb cur T hh=>⟨cur,?_,rfl⟩⟩
          subst hb
          rw[hheap b (hm.lt hx)]; exact hh) hc
    have hE':Ext w0 p0 w' (p.upd g (some (some w.heap.size))):=by
      refine⟨?_,?_,?_,?_,hE.A,fun b hb=>?_,fun b hb hA=>?_,fun g' x hx=>?_⟩
      · rw[← hw']; exact hE.os
      · rw[← hw']; exact⟨hE.tape.1,Nat.le_trans hE.tape.2 (Nat.le_succ _)⟩
      · rw[← hw']; exact hE.output
      · rw[hsize]; have:=hE.size; omega
      · have hst:=(hE.stab b hb).1
        refine⟨⟨by rw[hsize]; have:=hst.1; omega,fun g' hg'=>?_,hst.2.2⟩,by rw[hheap b hst.1]; exact(hE.stab b hb).2⟩
        simp only[Hp.upd] at hg'
        split at hg'
        · cases hg'; exact absurd hst.1 (Nat.lt_irrefl _)
        · exact hst.2.1 g' hg'
      · rw[hheap b (Nat.lt_of_lt_of_le hb hE.size)]; exact hE.others b hb hA
      · have hne:g'≠g:=fun e=>by rw[e,hp0] at hx; cases hx
        simp only[Hp.upd]
        rw[if_neg hne]
        rcases hE.name g' x hx with h | ⟨h,h'⟩
        · exact .inl h
        · refine .inr ⟨h,fun b hb cur T hh=>?_⟩
          obtain ⟨c1,e1,s1⟩:=h' b hb cur T hh
          exact⟨c1,by rw[hheap b (hm.lt (hb ▸ h))]; exact e1,s1⟩
    have hAM:AMRel w' (p.upd g (some (some w.heap.size))) g (.buf i.size (xs++ys)):=by
      refine .inr ⟨w.heap.size,_,e,by simp [Hp.upd],hnew,?_,fun x hx=>hyall x hx hxk,fun j x i' c hj hi'=>?_⟩
      · simp only[List.length_append,Array.size_append,List.size_toArray,holen,hnl,← hn,Nat.add_mul]; omega
      · have hlf:∀ c,c∈x→c.leaf=true:=(hyall x (List.mem_of_getElem? hj) hxk).2
        have hcl:=AV.clean_of_leaf (ok:=fun x=>x != g) (hlf c (List.mem_of_getElem? hi'))
        by_cases hlt:j<xs.length
        · rw[List.getElem?_append_left hlt] at hj
          obtain ⟨u,hu,hr⟩:=holds j x i' c hj hi'
          have hl1:=(List.getElem?_eq_some_iff.1 hu).1
          exact⟨u,by rw[Array.append_assoc,Array.getElem?_append_left (by simpa using hl1)]; simpa using hu,hmv c u hr hcl⟩
        · rw[List.getElem?_append_right (by omega)] at hj
          obtain ⟨u,hu,hr⟩:=hnr _ x i' c hj hi'
          have hl1:=(List.getElem?_eq_some_iff.1 hu).1
          refine⟨u,?_,hmv c u hr hcl⟩
          have e1:j*i.size+i'=olds.length+((j - xs.length)*i.size+i'):=by
            rw[holen,hn]
            have:j=xs.length+(j - xs.length):=by omega
            conv=>lhs; rw[this,Nat.add_mul]
            omega
          rw[e1,Array.append_assoc,Array.getElem?_append_right (by simp)]
          simp only[List.size_toArray,Nat.add_sub_cancel_left]
          rw[Array.getElem?_append_left (by simpa using hl1)]
          simpa using hu
    refine hnx _ _ _ hK ?_
    rw[hdst]
    refine uK h1 h2 hsl hm g hE' hmv (fun g' hne=>by simp only[Hp.upd]; rw[if_neg hne]) (fun b g' hne hb=>hheap b (hm.lt hb)) hAM (fun g' b hne hb hb'=>?_) (fun b hb hA=>?_) rfl hd ?_
    · simp [Hp.upd] at hb; subst hb; exact absurd (hm.lt hb') (Nat.lt_irrefl _)
    · simp [Hp.upd] at hb; subst hb; exact absurd (hAb _ hA) (Nat.lt_irrefl _)
    · have:=RelV.own (w:=w') (p:=p.upd g (some (some w.heap.size))) g i.size 0 (n+ys.length) w.heap.size cap _ e (by simp [Hp.upd]) hcap hcm hnew
        (by
          have e1:n*i.size+ys.length*i.size+(cap - (n+ys.length))*i.size=cap*i.size:=by rw[← Nat.add_mul,← Nat.add_mul]; congr 1; omega
          simp only[Array.size_append,List.size_toArray,holen,hnl,size_zeroCells,hzc,e1]; omega)
      simpa using this
  -- nothing new
  have same:ys.length=0→∀ v,a.eval s=v→RelV w p (.own g i.size 0 n) v→o.upon P a next Q (.ok (.value v) w):=by
    intro hy v hv hr
    have hys:ys=[]:=List.eq_nil_of_length_eq_zero hy
    subst hys
    simp only[Oper.upon]
    refine hnx _ _ _ hK ?_
    rw[hdst]
    have hst:=hm.holds g _ hl
    have hAM:AMRel w p g (.buf i.size (xs++[])):=by
      rw[List.append_nil]
      rcases hk' with rfl | rfl
      · exact hst
      · rcases hst with h | ⟨b,cur,T,e1,e2,_⟩
        · exact .inl h
        · exact .inr ⟨b,cur,T,e1,e2,by simp,by simp,by simp⟩
    refine uK h1 h2 hsl hm g hE (fun a v h _=>h) (fun _ _=>rfl) (fun _ _ _ _=>rfl) hAM (fun g' b hne hb hb'=>hne (hm.inj g' g b hb' hb)) (fun b hb=>hm.avoid g b hb) rfl hd (by simpa using hr)
  generalize hv:a.eval s=v at *
  cases hse with
  | ownn _ _ hgn =>
    have hx0:xs=[]:=List.eq_nil_of_length_eq_zero hn.symm
    subst hx0
    by_cases hy0:ys.length=0
    · rw[hy0,qE he hck none ax 0 0 c (Nat.le_refl _) w]
      exact same hy0 _ rfl (.ownn g _ hgn)
    · obtain ⟨ad,rfl,hads⟩:=hny (by intro h; simp [h] at hy0)
      rw[run_append_nil (P:=P) w t o.type e i z (elem?_inv he) hi hz ad ys.length c news hnl hads (by omega) (by omega) (by simp at hby; omega)]
      have:=grow [] (grownCap w ys.length 0 e) (by simp) (by simpa using grownCap_ge w _ _ _) (grownCap_le_maxLen w _ _ _ (by simpa using hmax)) (by simp) (by simp)
      simpa using this
  | own0 _ _ _ b ad0 hgb =>
    have hx0:xs=[]:=List.eq_nil_of_length_eq_zero hn.symm
    subst hx0
    by_cases hy0:ys.length=0
    · rw[hy0,qE he hck _ ax 0 0 c (Nat.le_refl _) w]
      exact same hy0 _ rfl (.own0 g _ 0 b ad0 hgb)
    · obtain ⟨ad,rfl,hads⟩:=hny (by intro h; simp [h] at hy0)
      rw[run_append_grow (P:=P) w t o.type e i z (elem?_inv he) hi hz ⟨b,ad0,none⟩ 0 0 [] (by simp) (by simp) ad ys.length c news hnl hads (by omega) (by omega) (growslice_fits (by omega) (by simpa using hby))]
      have:=grow [] (grownCap w (0+ys.length) 0 e) (by simp) (by simpa using grownCap_ge w _ _ _) (grownCap_le_maxLen w _ _ _ (by simpa using hmax)) (by simp) (by simp)
      simpa using this
  | own _ _ _ _ b cap cur T hgb hnc hcap hh hsz =>
    simp only[Nat.zero_mul,Nat.zero_add] at hsz hv ⊢
    rcases hm.holds g _ hl with ⟨hx0,e0⟩ | ⟨b',cur',T',e1,e2,e3,e4,e5⟩
    · rw[hgb] at e0; cases e0
    · rw[hgb] at e1; cases e1
      rw[hh] at e2; cases e2
      have hxk:∀ x∈xs,x.length=i.size∧∀ c∈x,c.leaf=true:=by
        rcases hk' with rfl | rfl
        · exact e4
        · simp
      have hxr:∀ (j:Nat) x (i':Nat) c,xs[j]?=some x→x[i']?=some c→∃ v,cur[j*i.size+i']?=some v∧RelV w p c v:=by
        rcases hk' with rfl | rfl
        · exact e5
        · simp
      have hncur:n*i.size≤cur.size:=Nat.le_trans (Nat.mul_le_mul_right _ hnc) hsz
      by_cases hy0:ys.length=0
      · rw[hy0,qE he hck _ ax n cap c hnc w]
        refine same hy0 _ ?_ ?_
        · simp
        · have:=RelV.own (w:=w) (p:=p) g i.size 0 n b cap cur T hgb hnc hcap hh (by simpa using hsz)
          simpa using this
      · obtain ⟨ad,rfl,hads⟩:=hny (by intro h; simp [h] at hy0)
        by_cases hroom:n+ys.length≤cap
        · have hfit:n*i.size+news.length≤cur.size:=by rw[hnl,← Nat.add_mul]; exact Nat.le_trans (Nat.mul_le_mul_right _ hroom) hsz
          rw[oQ he hck b n cap cur hh ad ys.length c news hnl hads hone hroom hfit]
          simp only[Result.andThen_ok,Oper.upon]
          generalize hcs:(cur.toList.take (n*i.size)++news++cur.toList.drop (n*i.size+news.length)).toArray=cs
          have hcsz:cs.size=cur.size:=by rw[← hcs]; simp; omega
          have hbk:(w.setRow b cs).heap[b]?=some (.cells cs T (0,0)):=setRow_heap w b cur cs T _ hh
          have hoth:∀ b',b'≠b→(w.setRow b cs).heap[b']?=w.heap[b']?:=fun b' hne=>setRow_other w b b' cs hne
          have hwsz:(w.setRow b cs).heap.size=w.heap.size:=by simp [World.setRow]
          have hkeep:Keeps w p (w.setRow b cs) p:=by
            refine⟨fun b' hb'=>?_,fun _ _ h=>h,fun g' b' hg' cur2 T2 hh2=>?_⟩
            · have hne:b'≠b:=fun e=>hb'.2.1 g (e ▸ hgb)
              exact⟨⟨by rw[hwsz]; exact hb'.1,hb'.2⟩,hoth b' hne⟩
            · by_cases hne:b'=b
              · subst hne; rw[hh] at hh2; cases hh2; exact⟨cs,hbk,hcsz⟩
              · exact⟨cur2,by rw[hoth b' hne]; exact hh2,rfl⟩
          have hE':Ext w0 p0 (w.setRow b cs) p:=hE.step hkeep rfl ⟨rfl,Nat.le_refl _⟩ rfl (by rw[hwsz]; exact Nat.le_refl _) rfl (fun b' _ hA=>hoth b' (fun e=>hm.avoid g b hgb (e ▸ hA))) (fun g' h1 h2=>absurd h1 h2)
          have hAM:AMRel (w.setRow b cs) p g (.buf i.size (xs++ys)):=by
            refine .inr ⟨b,cs,T,hgb,hbk,?_,fun x hx=>hyall x hx hxk,fun j x i' c hj hi'=>?_⟩
            · rw[hcsz,List.length_append,← hn]; exact Nat.le_trans (Nat.mul_le_mul_right _ hroom) hsz
            · by_cases hlt:j<xs.length
              · rw[List.getElem?_append_left hlt] at hj
                obtain ⟨u,hu,hr⟩:=hxr j x i' c hj hi'
                refine⟨u,?_,hr.keep hkeep⟩
                have hil:=(List.getElem?_eq_some_iff.1 hi').1
                rw[(hxk x (List.mem_of_getElem? hj)).1] at hil
                have hpos:j*i.size+i'<n*i.size:=by
                  calc j*i.size+i'<j*i.size+i.size:=by omega
                    _=(j+1)*i.size:=by rw[Nat.add_mul]; omega
                    _≤n*i.size:=Nat.mul_le_mul_right _ (by omega)
                rw[← hcs]
                simp only[List.getElem?_toArray]
                rw[List.append_assoc,List.getElem?_append_left (by simp; omega),List.getElem?_take,if_pos hpos]
                simpa using hu
              · rw[List.getElem?_append_right (by omega)] at hj
                obtain ⟨u,hu,hr⟩:=hnr _ x i' c hj hi'
                refine⟨u,?_,hr.keep hkeep⟩
                have hl1:=(List.getElem?_eq_some_iff.1 hu).1
                have e1:j*i.size+i'=n*i.size+((j - xs.length)*i.size+i'):=by
                  have:j=n+(j - xs.length):=by omega
                  conv=>lhs; rw[this,Nat.add_mul]
                  omega
                rw[← hcs]
                simp only[List.getElem?_toArray]
                rw[e1,List.append_assoc,List.getElem?_append_right (by simp; omega)]
                have e2:n*i.size+((j - xs.length)*i.size+i') - (cur.toList.take (n*i.size)).length=(j - xs.length)*i.size+i':=by simp; omega
                rw[e2,List.getElem?_append_left hl1]
                exact hu
          refine hnx _ _ _ hK ?_
          rw[hdst]
          refine uK h1 h2 hsl hm g hE' (fun a v h _=>h.keep hkeep) (fun _ _=>rfl) (fun b' g' hne hb'=>hoth b' (fun e=>hne (hm.inj g' g b (e ▸ hb') hgb))) hAM (fun g' b' hne hb hb'=>hne (hm.inj g' g b' hb' hb)) (fun b' hb=>hm.avoid g b' hb) rfl hd ?_
          have:=RelV.own (w:=w.setRow b cs) (p:=p) g i.size 0 (n+ys.length) b cap cs T hgb hroom hcap hbk (by rw[hcsz]; simpa using hsz)
          simpa using this
        · have hold:∀ j u,(cur.toList.take (n*i.size))[j]?=some u→w.cell? ((⟨b,0,none⟩:Addr).add j)=some u:=fun j u hu=>by
            rw[List.getElem?_take] at hu
            split at hu
            · rw[kA,Nat.zero_add,iP hh]; simpa using hu
            · cases hu
          have holen:(cur.toList.take (n*i.size)).length=n*i.size:=by simp; omega
          rw[run_append_grow (P:=P) w t o.type e i z (elem?_inv he) hi hz ⟨b,0,none⟩ n cap _ holen hold ad ys.length c news hnl hads (by omega) (by omega) (growslice_fits (by omega) hby)]
          refine grow _ _ holen (grownCap_ge w _ _ _) (grownCap_le_maxLen w _ _ _ hmax) hxk fun j x i' c hj hi'=>?_
          obtain ⟨u,hu,hr⟩:=hxr j x i' c hj hi'
          refine⟨u,?_,hr⟩
          have hil:=(List.getElem?_eq_some_iff.1 hi').1
          rw[(hxk x (List.mem_of_getElem? hj)).1] at hil
          have hjl:=(List.getElem?_eq_some_iff.1 hj).1
          have hpos:j*i.size+i'<n*i.size:=by
            calc j*i.size+i'<j*i.size+i.size:=by omega
              _=(j+1)*i.size:=by rw[Nat.add_mul]; omega
              _≤n*i.size:=Nat.mul_le_mul_right _ (by omega)
          rw[List.getElem?_take,if_pos hpos]
          simpa using hu
end Go.Abs
set_option linter.unusedVariables false
set_option linter.unusedSimpArgs false
namespace Go.Abs
open Go Go.RowKit
variable {P:Program} {w0:World} {p0:Hp}
theorem aT9 {o:Oper} {σ:St} {K:St→Prop} (hf:Fit w0 p0) (k:Nat) {d:Nat} (ho:o.op=.assign (.const (.slice none 0 0))) (hdst:o.dst=some d) (hd:d<σ.n) (hfr:σ.fresh d)
    (hK:K ⟨σ.n,(d,.own d k 0 0)::σ.slots,(d,.buf k [])::σ.mem⟩):AOp P w0 p0 o σ K:=by
  intro a w next Q ⟨h1,h2,p,hE,hs,hm⟩ hn
  have hrun:(execOp a.eval o).run P w=.ok (.value (.slice none 0 0)) w:=by simp [execOp,ho,Act.eval]
  unfold Oper.wp
  rw[hrun]
  have hp0:p.o d=none:=hm.dom d hfr.2
  have hk:Keeps w p w (p.upd d (some none)):=by
    refine⟨fun b hb=>⟨⟨hb.1,fun g hg=>?_,hb.2.2⟩,rfl⟩,fun g x hx=>?_,fun g b hg cur T hh=>⟨cur,hh,rfl⟩⟩
    · simp only[Hp.upd] at hg
      split at hg
      · cases hg
      · exact hb.2.1 g hg
    · simp only[Hp.upd]
      split
      · rename_i e; subst e; rw[hp0] at hx; cases hx
      · exact hx
  have hE':Ext w0 p0 w (p.upd d (some none)):=hE.step hk rfl ⟨rfl,Nat.le_refl _⟩ rfl (Nat.le_refl _) rfl (fun _ _ _=>rfl) (fun g h1 h2=>by
    simp only[Hp.upd] at h2
    split at h2
    · rename_i e; subst e; exact hf.names _ hfr.1
    · exact absurd h1 h2)
  refine hn _ _ _ hK ?_
  rw[hdst]
  refine⟨h1,by simpa [Act.put] using h2,_,hE',(hs.keep hk).put (by rw[h2]; exact hd) (.ownn d k (by simp [Hp.upd])),⟨fun g hl=>?_,fun g m hl=>?_,fun g g' b e1 e2=>?_,fun g b e=>?_⟩⟩
  · rw[dB] at hl
    split at hl
    · cases hl
    · rename_i hne; simp only[Hp.upd]; rw[if_neg (fun e=>hne e.symm)]; exact hm.dom g hl
  · rw[dB] at hl
    split at hl
    · rename_i e; subst e; cases hl; exact .inl ⟨rfl,by simp [Hp.upd]⟩
    · exact(hm.holds g m hl).keep hk fun _ _=>rfl
  · simp only[Hp.upd] at e1 e2
    split at e1
    · cases e1
    · split at e2
      · cases e2
      · exact hm.inj g g' b e1 e2
  · simp only[Hp.upd] at e
    split at e
    · cases e
    · exact hm.avoid g b e
def bnd (σ:St) (d:Nat):Option Operand→Option Nat
  | none=>some d
  | some x=>match σ.ev x with | .s (.int _ n)=>if 0≤n then some n.toNat else none | _=>none
theorem xU {σ:St} {act:Act} {w:World} {p:Hp} (hs:SlotsRel w p σ.slots act.tmps) {x:Operand} {d n y:Nat} (h:bnd σ d (some x)=some n) (hy:n≤y) (code:BoundsCode) :
    (Instr.sliceBound (act.eval x) y code).run P w=.ok n w:=by
  simp only[bnd] at h
  split at h
  · rename_i k i hx
    split at h
    · rename_i h0
      cases h
      have hle:i≤(y:Int):=by omega
      simp [Instr.sliceBound,oL hs hx,asIntOf,h0,hle]
    · cases h
  · cases h
theorem uH {σ:St} {act:Act} {w:World} {p:Hp} (hs:SlotsRel w p σ.slots act.tmps) {lo hi:Option Operand} {len cap l h:Nat} (hl:bnd σ 0 lo=some l) (hh:bnd σ len hi=some h) (h1:l≤h) (h2:h≤cap) :
    (Instr.sliceBounds true len cap (lo.map act.eval) (hi.map act.eval) none).run P w=.ok (l,h,cap) w:=by
  cases lo with
  | none =>
    have e1:l=0:=by simpa [bnd] using hl.symm
    subst e1
    cases hi with
    | none =>
              have e2:h=len:=by simpa [bnd] using hh.symm
              subst e2; simp [Instr.sliceBounds]
    | some y=>simp [Instr.sliceBounds,xU hs hh h2]
  | some x =>
    cases hi with
    | none =>
              have e2:h=len:=by simpa [bnd] using hh.symm
              subst e2; simp [Instr.sliceBounds,xU hs hl h1]
    | some y=>simp [Instr.sliceBounds,xU hs hh h2,xU hs hl h1]
theorem aH6 {o:Oper} {σ:St} {x:Operand} {lo hi:Option Operand} {t e k l h:Nat} {xs:List (List AV)} (ho:o.op=.slice t x lo hi none) (ht:elem? P t=some e) (hk:cells? P e=some k)
    (hx:σ.ev x=.sl k xs) (hl:bnd σ 0 lo=some l) (hh:bnd σ xs.length hi=some h) (h1:l≤h) (h2:h≤xs.length):cH P o σ (.sl k ((xs.take h).drop l)):=by
  intro act w p hs _
  have hr:=dW hs x
  rw[hx] at hr
  generalize hv:act.eval x=v at *
  have hlen:((xs.take h).drop l).length=h - l:=by simp; omega
  cases hr with
  | sln _ a cap hcap =>
    simp only[List.length_nil,Nat.le_zero] at h2
    subst h2
    have:l=0:=by omega
    subst this
    refine⟨.slice a 0 cap,?_,by simpa using RelV.sln k a cap hcap⟩
    have hb:=uH (P:=P) (w:=w) hs hl hh (Nat.le_refl _) (Nat.zero_le cap)
    simp only[List.length_nil] at hb
    cases a <;> simp [execOp,ho,hv,Instr.sliceAt,Instr.slice,run_underlying (elem?_inv ht),hb,eI hk,kA,Addr.add]
  | slc _ _ b off cap f hb hn hcap hkk hc hr =>
    have hbd:=uH (P:=P) (w:=w) hs hl hh h1 (Nat.le_trans h2 hn)
    by_cases hlh:l=h
    · subst hlh
      refine⟨.slice (if cap=l then some ⟨b,off,none⟩ else some ⟨b,off+l*k,none⟩) 0 (cap - l),?_,?_⟩
      · simp [execOp,ho,hv,Instr.sliceAt,Instr.slice,run_underlying (elem?_inv ht),hbd,eI hk,kA]
      · have e:(xs.take l).drop l=[]:=List.eq_nil_of_length_eq_zero (by rw[hlen]; omega)
        rw[e]; exact .sln k _ _ (by omega)
    · have hcl:¬ cap=l:=by omega
      refine⟨.slice (some ⟨b,off+l*k,none⟩) (h - l) (cap - l),?_,?_⟩
      · simp [execOp,ho,hv,Instr.sliceAt,Instr.slice,run_underlying (elem?_inv ht),hbd,eI hk,kA,hcl]
      · have hget:∀ j y,((xs.take h).drop l)[j]?=some y→xs[l+j]?=some y:=fun j y hy=>by
          rw[List.getElem?_drop,List.getElem?_take] at hy
          split at hy
          · exact hy
          · cases hy
        have:=RelV.slc (w:=w) (p:=p) k ((xs.take h).drop l) b (off+l*k) (cap - l) (fun j i=>f (l+j) i) hb (by rw[hlen]; omega) (by omega) (fun y hy=>hkk y (List.mem_of_mem_take (List.mem_of_mem_drop hy)))
          (fun j y i c hj hi=>by
            have:=hc (l+j) y i c (hget j y hj) hi
            have e:off+l*k+j*k+i=off+(l+j)*k+i:=by rw[Nat.add_mul]; omega
            rw[e]; exact this)
          (fun j y i c hj hi=>hr (l+j) y i c (hget j y hj) hi)
        rwa [hlen] at this
theorem uL {w:World} {p:Hp} {g k off n:Nat} {v:Value} (hr:RelV w p (.own g k off n) v) {l h m:Nat} (h1:l≤h) (h2:h≤n):∃ a cap,v=.slice a n cap∧n≤cap ∧
    (h≤m→m≤cap→RelV w p (.own g k (off+l) (h - l)) (.slice (if m=l then a else a.map (fun a=>a.add (l*k))) (h - l) (m - l))):=by
  cases hr with
  | ownn _ _ hg =>
    refine⟨none,0,rfl,Nat.le_refl _,fun h3 h4=>?_⟩
    obtain rfl:h=0:=by omega
    obtain rfl:l=0:=by omega
    obtain rfl:m=0:=by omega
    simpa using RelV.ownn (w:=w) (p:=p) g k hg
  | own0 _ _ _ b a0 hg =>
    refine⟨_,0,rfl,Nat.le_refl _,fun h3 h4=>?_⟩
    obtain rfl:h=0:=by omega
    obtain rfl:l=0:=by omega
    obtain rfl:m=0:=by omega
    simpa using RelV.own0 (w:=w) (p:=p) g k off b a0 hg
  | own _ _ _ _ b cap cur T hg hn hcap hh hs =>
    refine⟨_,cap,rfl,hn,fun h3 h4=>?_⟩
    by_cases hml:m=l
    · subst hml
      obtain rfl:h=m:=by omega
      simp only[Nat.sub_self,if_true]
      exact RelV.own0 g k (off+h) b _ hg
    · rw[if_neg hml]
      simp only[Option.map_some,kA]
      have e:off*k+l*k=(off+l)*k:=by rw[Nat.add_mul]
      rw[e]
      refine RelV.own g k (off+l) (h - l) b (m - l) cur T hg (by omega) (by omega) hh ?_
      rw[← Nat.add_mul] at hs ⊢
      exact Nat.le_trans (Nat.mul_le_mul_right _ (by omega)) hs
theorem aFy {o:Oper} {σ:St} {x:Operand} {lo hi:Option Operand} {t e g k off n l h:Nat} (ho:o.op=.slice t x lo hi none) (ht:elem? P t=some e) (hk:cells? P e=some k)
    (hx:σ.ev x=.own g k off n) (hl:bnd σ 0 lo=some l) (hh:bnd σ n hi=some h) (h1:l≤h) (h2:h≤n):cH P o σ (.own g k (off+l) (h - l)):=by
  intro act w p hs _
  have hr:=dW hs x
  rw[hx] at hr
  obtain ⟨a,cap,hv,hn,hrel⟩:=uL hr (m:=0) h1 h2
  obtain ⟨a',cap',hv',_,hrel'⟩:=uL hr (m:=cap) h1 h2
  rw[hv] at hv'; cases hv'
  have hb:=uH (P:=P) (w:=w) hs hl hh h1 (Nat.le_trans h2 hn)
  refine⟨_,?_,hrel' (Nat.le_trans h2 hn) (Nat.le_refl _)⟩
  simp [execOp,ho,hv,Instr.sliceAt,Instr.slice,run_underlying (elem?_inv ht),hb,eI hk]
end Go.Abs
set_option linter.unusedVariables false
set_option linter.unusedSimpArgs false
namespace Go.Abs
open Go Go.RowKit
variable {P:Program} {w0:World} {p0:Hp}
def mU (g:Nat) (m:AM):Mem→Mem
  | []=>[]
  | (g',m')::r=>if g'=g then (g,m)::r else (g',m')::mU g m r
theorem jE (g:Nat) (m:AM):∀ (l:Mem),(bL l g).isSome=true→∀ t,bL (mU g m l) t=if t=g then some m else bL l t
  | [],h,_=>by simp [bL] at h
  | (d,m')::r,h,t=>by
    simp only[mU]
    by_cases e:d=g
    · rw[if_pos e]
      simp only[bL]
      subst e
      by_cases e2:t=d
      · subst e2; simp
      · rw[if_neg (fun h=>e2 h.symm),if_neg e2,if_neg (fun h=>e2 h.symm)]
    · rw[if_neg e]
      simp only[bL,if_neg e] at h ⊢
      by_cases e2:d=t
      · subst e2; simp [e]
      · rw[if_neg e2,if_neg e2]; exact jE g m r h t
def AM.store (m:AM) (k j f:Nat) (rs:List AV):Option AM :=
  match m with
  | .box cs=>if j=0∧f+rs.length≤cs.length then some (.box (splice cs f rs)) else none
  | .buf k' xs=>match xs[j]? with
    | some x=>if k'=k∧f+rs.length≤k then some (.buf k (xs.set j (splice x f rs))) else none
    | none=>none
theorem zA {α:Type} (l r:List α) (off:Nat) (h:off+r.length≤l.length) (i:Nat):(splice l off r)[i]?=if off≤i∧i<off+r.length then r[i - off]? else l[i]?:=by
  unfold splice
  simp only[List.getElem?_append,List.getElem?_take,List.getElem?_drop,List.length_append,List.length_take]
  grind
theorem aVy {o:Oper} {σ:St} {K:St→Prop} (hf:Fit w0 p0) {t:TypeId} {x y:Operand} {g k j f n:Nat} {m m':AM} (ho:o.op=.store t x y) (hdst:o.dst=none) (hx:σ.ev x=.ref g k j f) (hl:bL σ.mem g=some m)
    (hn:cells? P t=some n) (hlen:(σ.ev y).cells.length=n) (h1c:∀ c∈(σ.ev y).cells,c.one=true) (hlf:∀ k xs,m=.buf k xs→∀ c∈(σ.ev y).cells,c.leaf=true) (hm':m.store k j f (σ.ev y).cells=some m')
    (hK:K { σ with mem:=mU g m' σ.mem }):AOp P w0 p0 o σ K:=by
  intro a w next Q ⟨h1,h2,p,hE,hs,hm⟩ hnx
  have hr:=dW hs x
  rw[hx] at hr
  generalize hv:a.eval x=v at *
  cases hr with
  | ref _ _ _ _ b hg =>
    obtain ⟨e1,e2⟩:=(dW hs y).cells h1c
    generalize hyv:a.eval y=yv at *
    generalize hya:(σ.ev y).cells=rs at *
    have hone:∀ u∈yv.cells.toList,u.oneCell'=true:=by
      intro u hu
      obtain ⟨i,hi⟩:=List.getElem?_of_mem hu
      have hlt:=(List.getElem?_eq_some_iff.1 hi).1
      have hlt':i<rs.length:=by simp at hlt; omega
      obtain ⟨u',hu',hr'⟩:=e2 i _ (List.getElem?_eq_getElem hlt')
      simp only[Array.getElem?_toList] at hi
      rw[hi] at hu'; cases hu'
      exact hr'.one (h1c _ (List.getElem_mem hlt'))
    have hyl:yv.cells.toList.length=n:=by simp; omega
    have hcur:∃ cur T,w.heap[b]?=some (.cells cur T (0,0))∧j*k+f+n≤cur.size:=by
      have:=hm.holds g m hl
      cases m with
      | box cs =>
        obtain ⟨b',cur,T,d1,d2,d3,d4⟩:=this
        rw[hg] at d1; cases d1
        simp only[AM.store] at hm'
        split at hm'
        · rename_i hc; exact⟨cur,T,d2,by rw[hc.1]; simp; omega⟩
        · cases hm'
      | buf k' xs =>
        simp only[AM.store] at hm'
        split at hm'
        · rename_i z hz
          split at hm'
          · rename_i hc
            rcases this with ⟨d0,d1⟩ | ⟨b',cur,T,d1,d2,d3,d4,d5⟩
            · rw[hg] at d1; cases d1
            · rw[hg] at d1; cases d1
              refine⟨cur,T,d2,?_⟩
              have hj:=(List.getElem?_eq_some_iff.1 hz).1
              have:(j+1)*k≤cur.size:=by
                rw[← hc.1]; exact Nat.le_trans (Nat.mul_le_mul_right _ hj) d3
              rw[Nat.add_mul] at this
              omega
          · cases hm'
        · cases hm'
    obtain ⟨cur,T,hh,hfit⟩:=hcur
    generalize hcs:(cur.toList.take (j*k+f)++yv.cells.toList++cur.toList.drop (j*k+f+yv.cells.toList.length)).toArray=cs
    have hrun:(execOp a.eval o).run P w=.ok .skip (w.setRow b cs):=by
      have hst:=run_storeCells_at P b (j*k+f) T yv.cells.toList 0 cur w hh (by rw[hyl]; simpa using hfit) hone
      simp only[Nat.add_zero] at hst
      rw[hcs] at hst
      have hsz:yv.cells.size=n:=by simpa using hyl
      simp [execOp,ho,hv,hyv,Instr.storeAt,Instr.sureAddr,storeVar,eI hn,hsz,hst]
    have hspl:cs.toList=splice cur.toList (j*k+f) yv.cells.toList:=by rw[← hcs]; rfl
    have hcsz:cs.size=cur.size:=by rw[← hcs]; simp; simp at hyl; omega
    have hbk:(w.setRow b cs).heap[b]?=some (.cells cs T (0,0)):=setRow_heap w b cur cs T _ hh
    have hoth:∀ b',b'≠b→(w.setRow b cs).heap[b']?=w.heap[b']?:=fun b' hne=>setRow_other w b b' cs hne
    have hwsz:(w.setRow b cs).heap.size=w.heap.size:=by simp [World.setRow]
    have hkeep:Keeps w p (w.setRow b cs) p:=by
      refine⟨fun b' hb'=>?_,fun _ _ h=>h,fun g' b' hg' cur2 T2 hh2=>?_⟩
      · have hne:b'≠b:=fun e=>hb'.2.1 g (e ▸ hg)
        exact⟨⟨by rw[hwsz]; exact hb'.1,hb'.2⟩,hoth b' hne⟩
      · by_cases hne:b'=b
        · subst hne; rw[hh] at hh2; cases hh2; exact⟨cs,hbk,hcsz⟩
        · exact⟨cur2,by rw[hoth b' hne]; exact hh2,rfl⟩
    have hE':Ext w0 p0 (w.setRow b cs) p:=hE.step hkeep rfl ⟨rfl,Nat.le_refl _⟩ rfl (by rw[hwsz]; exact Nat.le_refl _) rfl (fun b' _ hA=>hoth b' (fun e=>hm.avoid g b hg (e ▸ hA))) (fun g' h1 h2=>absurd h1 h2)
    have hget:∀ i,cs[i]?=if j*k+f≤i∧i<j*k+f+n then yv.cells[i - (j*k+f)]? else cur[i]?:=by
      intro i
      have:=zA cur.toList yv.cells.toList (j*k+f) (by rw[hyl]; simpa using hfit) i
      rw[← hspl,hyl] at this
      simpa using this
    have hAM:AMRel (
                      w.setRow b cs) p g m':=by
      have:=hm.holds g m hl
      cases m with
      | box cells =>
        obtain ⟨b',cur',T',d1,d2,d3,d4⟩:=this
        rw[hg] at d1; cases d1
        rw[hh] at d2; cases d2
        simp only[AM.store] at hm'
        split at hm'
        · rename_i hc
          cases hm'
          obtain ⟨hj0,hfl⟩:=hc
          subst hj0
          simp only[Nat.zero_mul,Nat.zero_add] at hget
          refine⟨b,cs,T,hg,hbk,by rw[hcsz,← d3]; simp [splice]; omega,fun i c hc=>?_⟩
          rw[zA _ _ _ hfl] at hc
          rw[hget i,← hlen]
          split at hc
          · rename_i hin
            rw[if_pos hin]
            obtain ⟨u,hu,hru⟩:=e2 _ c hc
            exact⟨u,hu,hru.keep hkeep⟩
          · rename_i hin
            rw[if_neg hin]
            obtain ⟨u,hu,hru⟩:=d4 i c hc
            exact⟨u,hu,hru.keep hkeep⟩
        · cases hm'
      | buf k' xs =>
        simp only[AM.store] at hm'
        split at hm'
        · rename_i z hz
          split at hm'
          · rename_i hc
            cases hm'
            obtain ⟨hkk,hfl⟩:=hc
            subst hkk
            rcases this with ⟨d0,d1⟩ | ⟨b',cur',T',d1,d2,d3,d4,d5⟩
            · rw[hg] at d1; cases d1
            · rw[hg] at d1; cases d1
              rw[hh] at d2; cases d2
              have hzk:=d4 z (List.mem_of_getElem? hz)
              have hjl:=(List.getElem?_eq_some_iff.1 hz).1
              refine .inr ⟨b,cs,T,hg,hbk,by rw[hcsz]; simpa using d3,fun x hx=>?_,fun j' x i c hj' hi=>?_⟩
              · rcases List.mem_or_eq_of_mem_set hx with hx | rfl
                · exact d4 x hx
                · refine⟨by simp [splice]; omega,fun c hc=>?_⟩
                  simp only[splice,List.mem_append] at hc
                  rcases hc with (hc | hc) | hc
                  · exact hzk.2 c (List.mem_of_mem_take hc)
                  · exact hlf k' xs rfl c hc
                  · exact hzk.2 c (List.mem_of_mem_drop hc)
              · by_cases hjj:j'=j
                · subst hjj
                  rw[List.getElem?_set_self hjl] at hj'
                  cases hj'
                  rw[zA _ _ _ (by omega)] at hi
                  rw[hget]
                  by_cases hin:f≤i∧i<f+rs.length
                  · rw[if_pos hin] at hi
                    rw[if_pos ⟨by omega,by omega⟩]
                    obtain ⟨u,hu,hru⟩:=e2 _ c hi
                    have e:j'*k'+i - (j'*k'+f)=i - f:=by omega
                    rw[e]
                    exact⟨u,hu,hru.keep hkeep⟩
                  · rw[if_neg hin] at hi
                    rw[if_neg (by omega)]
                    obtain ⟨u,hu,hru⟩:=d5 j' z i c hz hi
                    exact⟨u,hu,hru.keep hkeep⟩
                · rw[List.getElem?_set_ne (by omega)] at hj'
                  obtain ⟨u,hu,hru⟩:=d5 j' x i c hj' hi
                  have hil:=(List.getElem?_eq_some_iff.1 hi).1
                  rw[(d4 x (List.mem_of_getElem? hj')).1] at hil
                  have hout:¬ (j*k'+f≤j'*k'+i∧j'*k'+i<j*k'+f+n):=by
                    rintro ⟨a1,a2⟩
                    rcases Nat.lt_or_gt_of_ne hjj with h | h
                    · have:(j'+1)*k'≤j*k':=Nat.mul_le_mul_right _ h
                      rw[Nat.add_mul] at this; omega
                    · have:(j+1)*k'≤j'*k':=Nat.mul_le_mul_right _ h
                      rw[Nat.add_mul] at this; omega
                  exact⟨u,by rw[hget,if_neg hout]; exact hu,hru.keep hkeep⟩
          · cases hm'
        · cases hm'
    unfold Oper.wp
    rw[hrun]
    simp only[Oper.upon,hdst]
    have hsome:(bL σ.mem g).isSome=true:=by rw[hl]; rfl
    refine hnx _ _ _ hK ⟨h1,h2,p,hE',hs.keep hkeep,⟨fun g' hl'=>?_,fun g' m2 hl'=>?_,hm.inj,hm.avoid⟩⟩
    · rw[jE g m' _ hsome] at hl'
      split at hl'
      · cases hl'
      · exact hm.dom g' hl'
    · rw[jE g m' _ hsome] at hl'
      split at hl'
      · rename_i e; subst e; cases hl'; exact hAM
      · rename_i hne
        exact(hm.holds g' m2 hl').keep hkeep fun b' hb'=>hoth b' (fun e=>hne (hm.inj g' g b (e ▸ hb') hg))
end Go.Abs
set_option linter.unusedVariables false
set_option linter.unusedSimpArgs false
namespace Go.Abs
open Go Go.RowKit
variable {P:Program} {w0:World} {p0:Hp}
abbrev FS:=Nat→AV
def vO (s:FS):Option Nat→AV→FS
  | some d,a=>fun t=>if t=d then a else s t
  | none,_=>s
def VR (w:World) (p:Hp) (a:AV) (tmps:Array Value) (t:Nat):Prop:=a=.bad∨∃ v,tmps[t]?=some v∧RelV w p a v
structure Grow (w w':World):Prop where
  os:w'.os=w.os
  tape:w'.tape=w.tape∧w.drawn≤w'.drawn
  output:w'.output=w.output
  size:w.heap.size≤w'.heap.size
  heap:∀ b,b<w.heap.size→w'.heap[b]?=w.heap[b]?
theorem Grow.refl (w:World):Grow w w:=⟨rfl,⟨rfl,Nat.le_refl _⟩,rfl,Nat.le_refl _,fun _ _=>rfl⟩
theorem Grow.keeps {w w':World} (h:Grow w w') {p:Hp} {mem:Mem} (hm:MemRel w p mem):Keeps w p w' p :=
  ⟨fun b hb=>⟨⟨Nat.lt_of_lt_of_le hb.1 h.size,hb.2⟩,h.heap b hb.1⟩,fun _ _ h=>h,fun g b hg cur T hh=>⟨cur,by rw[h.heap b (hm.lt hg)]; exact hh,rfl⟩⟩
def aL2 (w0:World) (p0:Hp) (n:Nat) (mem:Mem) (s:FS) (a:Act) (w:World):Prop :=
  a.defers=[]∧a.tmps.size=n∧∃ p,Ext w0 p0 w p∧(∀ t,VR w p (s t) a.tmps t)∧MemRel w p mem
def aTd (P:Program) (ops:Array Oper) (n:Nat) (mem:Mem) (o:Oper) (s:FS) (av:AV):Prop :=
  ∀ (act:Act) (w:World) (p:Hp),act.tmps.size=n→(∀ t∈o.looksAt ops,VR w p (s t) act.tmps t)→MemRel w p mem→(∀ b,p.A b→b<w.heap.size) →
    ∀ (next:Act→World→Prop) (Q:Exit→Act→World→Prop),(∀ v w',Grow w w'→RelV w' p av v→next (act.put o.dst v) w')→o.wp P act w next Q
def lD (ops:Array Oper) (o:Oper) (s:FS):Option Bool :=
  match o.guard with
  | none=>some true
  | some (j,b)=>match (ops[j]?).bind (·.dst) with
    | some d=>match s d with | .s v=>some (match v with | .bool t=>t == b | _=>false) | _=>none
    | none=>none
def YieldsS (P:Program) (ops:Array Oper) (n:Nat) (mem:Mem) (o:Oper) (av:AV) (s:FS):Prop :=
  (∀ d,o.dst=some d→d<n)∧((lD ops o s=some true∧aTd P ops n mem o s av)∨(lD ops o s=some false∧av=.s undef))
def gOp (P:Program) (ops:Array Oper) (n:Nat) (mem:Mem) (i:Nat) (K:FS→Prop) (s:FS):Prop :=
  match ops[i]? with
  | none=>K s
  | some o=>∃ av,YieldsS P ops n mem o av s∧K (vO s o.dst av)
variable {ops:Array Oper} {md:Region.Mode} {n:Nat} {mem:Mem}
theorem aN3 {i:Nat} {s:FS} {K K':FS→Prop} (h:∀ s,K s→K' s) (hh:gOp P ops n mem i K s):gOp P ops n mem i K' s:=by
  unfold gOp at *
  split
  · simp_all
  · rename_i o ho
    simp only[ho] at hh
    obtain ⟨av,h1,h2⟩:=hh
    exact⟨av,h1,h _ h2⟩
def aEy (P:Program) (md:Region.Mode) (ops:Array Oper) (n:Nat) (mem:Mem) (Q:FS→Prop):Nat→Array Bool→FS→Prop
  | 0,listed,s=>Region.ready md ops listed=[]∧Q s
  | fuel+1,listed,s=>(Region.ready md ops listed=[]→Q s)∧∀ i∈Region.ready md ops listed,gOp P ops n mem i (aEy P md ops n mem Q fuel (listed.setIfInBounds i true)) s
theorem aIr {o:Oper} {s:FS} {w:World} {p:Hp} {tmps:Array Value} (hs:∀ t,VR w p (s t) tmps t) {b:Bool} (h:lD ops o s=some b):Region.wanted o (yielded ops tmps)=b:=by
  unfold lD at h
  unfold Region.wanted
  split at h
  · rename_i hg; cases h; simp [hg]
  · rename_i j c hg
    split at h
    · rename_i d hd
      split at h
      · rename_i t ht
        cases h
        rcases hs d with h1 | ⟨v,hv,hr⟩
        · rw[ht] at h1; cases h1
        · rw[ht] at hr
          cases hr
          cases t <;> simp [hg,yielded,hd,hv]
      · cases h
    · cases h
theorem aCk (hf:Fit w0 p0) {i:Nat} {s:FS} {a:Act} {w:World} {K:FS→Prop} {K':Act→World→Prop} {Q':Exit→Act→World→Prop} (hr:aL2 w0 p0 n mem s a w)
    (h:∀ s' a' w',aL2 w0 p0 n mem s' a' w'→K s'→K' a' w') (hh:gOp P ops n mem i K s):wpOp P ops Q' i K' a w:=by
  unfold gOp at hh
  unfold wpOp
  split
  · rename_i ho; simp only[ho] at hh; exact h _ _ _ hr hh
  · rename_i o ho
    simp only[ho] at hh
    obtain ⟨av,⟨hd,hy⟩,hK⟩:=hh
    obtain ⟨h1,h2,p,hE,hs,hm⟩:=hr
    have hputs:∀ (v:Value) (w':World),Grow w w'→RelV w' p av v→aL2 w0 p0 n mem (vO s o.dst av) (a.put o.dst v) w':=by
      intro v w' hg hv
      have hk:=hg.keeps hm
      have hE':Ext w0 p0 w' p:=hE.step hk hg.os hg.tape hg.output hg.size rfl (fun b hb _=>hg.heap b hb) (fun g h1 h2=>absurd h1 h2)
      have hm':MemRel w' p mem:=⟨hm.dom,fun g m hl=>(hm.holds g m hl).keep hk fun b hb=>hg.heap b (hm.lt hb),hm.inj,hm.avoid⟩
      have hkeep:∀ t,VR w' p (s t) a.tmps t:=fun t=>by
        rcases hs t with h | ⟨u,hu,hr⟩
        · exact .inl h
        · exact .inr ⟨u,hu,hr.keep hk⟩
      cases ho':o.dst with
      | none=>exact⟨h1,h2,p,hE',hkeep,hm'⟩
      | some d =>
        refine⟨h1,by simpa [Act.put] using h2,p,hE',fun t=>?_,hm'⟩
        simp only[vO,Act.put]
        by_cases htd:t=d
        · subst htd
          rw[if_pos rfl]
          exact .inr ⟨v,by simp [h2,hd t ho'],hv⟩
        · rw[if_neg htd]
          rcases hkeep t with h | ⟨u,hu,hr⟩
          · exact .inl h
          · exact .inr ⟨u,by rw[Array.getElem?_setIfInBounds_ne (fun e=>htd e.symm)]; exact hu,hr⟩
    rcases hy with ⟨hw,hst⟩ | ⟨hw,rfl⟩
    · rw[if_pos (aIr hs hw)]
      refine .inl (hst a w p h2 (fun t _=>hs t) hm (fun b hb=>Nat.lt_of_lt_of_le (hf.others b (hE.A ▸ hb)) hE.size) _ _ fun v w' hg hv=>?_)
      exact h _ _ _ (hputs v w' hg hv) hK
    · have:=aIr (ops:=ops) hs hw
      rw[if_neg (by rw[this]; exact Bool.false_ne_true)]
      exact h _ _ _ (hputs undef w (Grow.refl w) (.s undef)) hK
theorem aEv (hf:Fit w0 p0) {Q:FS→Prop} {Q':Exit→Act→World→Prop} (hQ:∀ s a w,aL2 w0 p0 n mem s a w→Q s→Q' .normal a w):∀ (fuel:Nat) (listed:Array Bool) (s:FS) (a:Act) (w:World),aL2 w0 p0 n mem s a w →
    aEy P md ops n mem Q fuel listed s→wpAny P md ops Q' fuel listed a w
  | 0,_,_,_,_,hr,h=>⟨h.1,hQ _ _ _ hr h.2⟩
  | fuel+1,_,_,_,_,hr,h=>⟨fun h0=>hQ _ _ _ hr (h.1 h0),fun i hi=>aCk hf hr (fun s' a' w' hr'=>aEv hf hQ fuel _ s' a' w' hr') (h.2 i hi)⟩
theorem YieldsS.gOp {i:Nat} {o:Oper} {av:AV} {s:FS} (hi:ops[i]?=some o) (hy:YieldsS P ops n mem o av s) {K:FS→Prop} (h:K (vO s o.dst av)):gOp P ops n mem i K s:=by
  unfold Abs.gOp
  simp only[hi]
  exact⟨av,hy,h⟩
theorem YieldsS.congr {o:Oper} {av:AV} {s s':FS} (h:∀ t∈o.looksAt ops,s' t=s t) (hy:YieldsS P ops n mem o av s):YieldsS P ops n mem o av s':=by
  have hw:lD ops o s'=lD ops o s:=by
    unfold lD
    split
    · rfl
    · rename_i j b hg
      split
      · rename_i d hd
        rw[h d (by simp [Oper.looksAt,hg,hd])]
      · rfl
  refine⟨hy.1,?_⟩
  rw[hw]
  rcases hy.2 with ⟨h1,h2⟩ | h1
  · exact .inl ⟨h1,fun act w p hn hs=>h2 act w p hn (fun t ht=>by rw[← h t ht]; exact hs t ht)⟩
  · exact .inr h1
theorem aGn {s:FS} {d:Option Nat} {av:AV} {l:List Nat} (h:∀ x,d=some x→x ∉ l):∀ t∈l,vO s d av t=s t:=by
  intro t ht
  cases d with
  | none=>rfl
  | some x=>simp only[vO]; rw[if_neg (fun(e:t=x)=>h x rfl (e ▸ ht))]
theorem aVc (s:FS) {x y:Option Nat} (a b:AV) (h:∀ d,x=some d→y≠some d):vO (vO s x a) y b=vO (vO s y b) x a:=by
  cases x with
  | none=>rfl
  | some d =>
    cases y with
    | none=>rfl
    | some e =>
      have hne:d≠e:=fun he=>h d rfl (by rw[he])
      funext t
      simp only[vO]
      by_cases h1:t=e
      · rw[if_pos h1,if_neg (by rw[h1]; exact fun h=>hne h.symm),if_pos h1]
      · rw[if_neg h1,if_neg h1]
theorem aT2 {j:Nat} {oi oj:Oper} {av:AV} (hj:ops[j]?=some oj) (hap:oi.apart ops oj=true) {K:FS→Prop} {s:FS}
    (hy:YieldsS P ops n mem oi av s) (h:gOp P ops n mem j K (vO s oi.dst av)):gOp P ops n mem j (fun s'=>YieldsS P ops n mem oi av s'∧K (vO s' oi.dst av)) s:=by
  obtain ⟨h1,h2,h3⟩:=Oper.apart_spec hap
  unfold gOp at *
  simp only[hj] at *
  obtain ⟨u,hu,hn⟩:=h
  exact⟨u,hu.congr (fun t ht=>(aGn h1 t ht).symm),hy.congr (aGn h3),by rw[← aVc s av u h2]; exact hn⟩
theorem aJ9 {Q:FS→Prop} {i:Nat} {oi:Oper} {av:AV} (hi:ops[i]?=some oi) :
    ∀ (fuel:Nat) (listed:Array Bool) (s:FS),
      (∀ j oj,ops[j]?=some oj→j≠i→listed.getD j true=false→(∀ e∈oj.after,Region.binds md e=true→e.on≠i)→oi.apart ops oj=true) →
      i∈Region.ready md ops listed→YieldsS P ops n mem oi av s →
      aEy P md ops n mem Q fuel (listed.setIfInBounds i true) (vO s oi.dst av)→aEy P md ops n mem Q (fuel+1) listed s:=by
  intro fuel
  induction fuel with
  | zero =>
    intro listed s _ hr hy H
    refine⟨fun h=>(by rw[h] at hr; cases hr),fun j hj=>?_⟩
    by_cases hji:j=i
    · subst hji; exact hy.gOp hi H
    · have:=ready_mono hj hji
      rw[H.1] at this
      cases this
  | succ fuel ih =>
    intro listed s hfree hr hy H
    refine⟨fun h=>(by rw[h] at hr; cases hr),fun j hj=>?_⟩
    by_cases hji:j=i
    · subst hji; exact hy.gOp hi H
    · have h1:=H.2 j (ready_mono hj hji)
      obtain ⟨hjun,oj,hoj,hall⟩:=mem_ready.1 hj
      have hnot:∀ e∈oj.after,Region.binds md e=true→e.on≠i:=fun e he hb heq=>by
        have h1:=hall e he hb
        have h0:=(mem_ready.1 hr).1
        rw[heq] at h1
        rcases Nat.lt_or_ge i listed.size with h' | h'
        · simp [h'] at h0 h1; rw[h0] at h1; cases h1
        · simp [Array.getElem?_eq_none h'] at h1
      have h2:=aT2 hoj (hfree j oj hoj hji hjun hnot) hy h1
      have hfree':∀ k ok,ops[k]?=some ok→k≠i→(listed.setIfInBounds j true).getD k true=false →
          (∀ e∈ok.after,Region.binds md e=true→e.on≠i)→oi.apart ops ok=true:=fun k ok hk hki hun hno=>by
        refine hfree k ok hk hki ?_ hno
        by_cases hjk:j=k
        · subst hjk; exact hjun
        · rw[getD_set_ne true hjk] at hun; exact hun
      refine aN3 (fun s' h3=>ih (listed.setIfInBounds j true) s' hfree' (ready_mono hr (Ne.symm hji)) h3.1 ?_) h2
      rw[Array.setIfInBounds_comm _ _ hji]
      exact h3.2
def rN (P:Program) (ops:Array Oper) (n:Nat) (mem:Mem) (Q:FS→Prop):List Oper→FS→Prop
  | [],s=>Q s
  | o::rest,s=>∃ av,YieldsS P ops n mem o av s∧rN P ops n mem Q rest (vO s o.dst av)
theorem aEx {Q:FS→Prop}:∀ (l:List Oper) (k:Nat) (listed:Array Bool) (s:FS),(∀ j,l[j]?=ops[k+j]?) →
    Region.lexFrom md ops l.length k listed=true→rN P ops n mem Q l s→aEy P md ops n mem Q l.length listed s
  | [],_,_,_,_,hB,h=>⟨by simpa [Region.lexFrom] using hB,h⟩
  | o::l,k,listed,s,hl,hB,h=>by
    have h0:ops[k]?=some o:=by simpa using (hl 0).symm
    simp only[List.length_cons,Region.lexFrom,Bool.and_eq_true] at hB
    obtain ⟨⟨hr,hf⟩,hB'⟩:=hB
    obtain ⟨av,hy,hK⟩:=h
    exact aJ9 h0 l.length listed s (Region.free_spec h0 hf) (by simpa using hr) hy
      (aEx l (k+1) _ _ (fun j=>by have:=hl (j+1); simpa [Nat.add_assoc,Nat.add_comm 1 j] using this) hB' hK)
def mD:List (Nat×AV)→Bool
  | []=>true
  | (_,.bad)::_=>false
  | _::r=>mD r
theorem rK:∀ {l:List (Nat×AV)},mD l=true→∀ t,bL l t≠some .bad
  | [],_,t,h=>by simp [bL] at h
  | (d,a)::r,hb,t,h=>by
    simp only[bL] at h
    split at h
    · cases h; simp [mD] at hb
    · refine rK (l:=r) ?_ t h
      cases a <;> first | exact hb | (simp [mD] at hb)
def St.fs (σ:St):FS:=fun t=>(bL σ.slots t).getD .bad
theorem aG2 (hf:Fit w0 p0) {id:Nat} {l:List Oper} {σ:St} {Q:Exit→St→Prop} (hm:P.follows .mixedOrders=true) (hB:Region.lexB .any l.toArray=true)
    (h:rN P l.toArray σ.n σ.mem (fun s=>∃ σ':St,σ'.n=σ.n∧σ'.mem=σ.mem∧kP (fun t=>some (s t)) σ'.slots∧mD σ'.slots=true∧Q .normal σ') l σ.fs):AW P w0 p0 (.region id l.toArray true) σ Q:=by
  intro a w ⟨h1,h2,p,hE,hs,hmem⟩
  refine wp_region_any hm ?_
  simp only[Region.lexB,Bool.and_eq_true] at hB
  have hr:aL2 w0 p0 σ.n σ.mem σ.fs a { w with drawn:=w.drawn+1 }:=by
    have hg:Grow w { w with drawn:=w.drawn+1 }:=⟨rfl,⟨rfl,Nat.le_succ _⟩,rfl,Nat.le_refl _,fun _ _=>rfl⟩
    have hk:=hg.keeps hmem
    refine⟨h1,h2,p,hE.step hk hg.os hg.tape hg.output hg.size rfl (fun b hb _=>hg.heap b hb) (fun g h1 h2=>absurd h1 h2),fun t=>?_,⟨hmem.dom,fun g m hl=>(hmem.holds g m hl).keep hk fun _ _=>rfl,hmem.inj,hmem.avoid⟩⟩
    unfold St.fs
    cases hl:bL σ.slots t with
    | none=>exact .inl rfl
    | some b=>obtain ⟨v,hv,hrv⟩:=hs t b hl; exact .inr ⟨v,hv,hrv.keep hk⟩
  have hlen:l.toArray.size=l.length:=by simp
  refine aEv hf (Q:=_) (fun s a w hr hQ=>?_) _ _ _ _ _ hr (by
    have:=aEx (P:=P) (md:=.any) (n:=σ.n) (mem:=σ.mem) (ops:=l.toArray) l 0 (Array.replicate l.toArray.size false) σ.fs (by simp) (by simpa using hB.2) h
    simpa using this)
  obtain ⟨σ',e1,e2,hc,hnb,hQ'⟩:=hQ
  obtain ⟨g1,g2,q,hE',hs',hm'⟩:=hr
  refine⟨σ',hQ',g1,by rw[e1]; exact g2,q,hE',fun t b hb=>?_,by rw[e2]; exact hm'⟩
  have hst:s t=b:=by simpa using nG hc t b hb
  rcases hs' t with h | ⟨v,hv,hrv⟩
  · rw[hst] at h
    subst h
    exact absurd hb (rK hnb t)
  · exact⟨v,hv,hst ▸ hrv⟩
theorem aUl {o:Oper} {s:FS} {av:AV} (L:List (Nat×AV)) (hL:kP (fun t=>if t∈o.looksAt ops then some (s t) else none) L) (hnb:mD L=true) (h:cH P o ⟨n,L,mem⟩ av):aTd P ops n mem o s av:=by
  intro act w p hn hs hm hA next Q hnx
  have hsl:SlotsRel w p L act.tmps:=by
    intro t b hb
    have h1:=nG hL t b hb
    --
    split at h1
    · rename_i hmem
      cases h1
      rcases hs t hmem with h2 | h2
      · rw[h2] at hb; exact absurd hb (rK hnb t)
      · exact h2
    · cases h1
  obtain ⟨v,hv,hr⟩:=h act w p hsl hm
  unfold Oper.wp
  rw[hv]
  exact hnx v w (Grow.refl w) hr
end Go.Abs
set_option linter.unusedVariables false
set_option linter.unusedSimpArgs false
namespace Go.Abs
open Go Go.RowKit
variable {P:Program} {w0:World} {p0:Hp}
def lk {α:Type}:List (Nat×α)→Nat→Option α
  | [],_=>none
  | (d,a)::r,t=>match Nat.beq d t with | true=>some a | false=>lk r t
theorem lL {α:Type}:∀ (l:List (Nat×α)) (t:Nat),lk l t=bL l t
  | [],_=>rfl
  | (d,a)::r,t=>by
    simp only[lk,bL]
    cases h:Nat.beq d t with
    | true=>rw[if_pos (Nat.eq_of_beq_eq_true h)]
    | false=>rw[if_neg (Nat.ne_of_beq_eq_false h)]; exact lL r t
def ev (sl:List (Nat×AV)):Operand→Option AV
  | .tmp t=>lk sl t
  | .const (.agg cs)=>some (.agg (cs.toList.map .s))
  | .const v=>some (.s v)
  | .func f=>some (.fn f [])
  | .global _=>none
theorem cR {n:Nat} {sl:List (Nat×AV)} {m:Mem} {x:Operand} {a:AV} (h:ev sl x=some a):(⟨n,sl,m⟩:St).ev x=a:=by
  cases x with
  | tmp t=>simp only[ev,lL] at h; simp [St.ev,St.get,h]
  | const v=>cases v <;> simp_all[ev,St.ev]
  | func f=>simpa [ev,St.ev] using h
  | global g=>simp [ev] at h
def lt (d n:Nat):Bool:=Nat.ble (d+1) n
theorem pU {d n:Nat} (h:lt d n=true):d<n:=Nat.le_of_ble_eq_true h
theorem uR {d n:Nat} (h:lt d n=true):∀ x,some d=some x→x<n:=fun x hx=>by cases hx; exact pU h
section
variable {ops:Array Oper} {rest:List Oper} {n d ty:Nat} {ps:String} {af:Array Edge} {sl:List (Nat×AV)} {m:Mem} {Q:Exit→St→Prop}
theorem aH {op:Op} {av:AV} (hd:lt d n=true) (h:cH P ⟨some d,op,ty,ps,af,none⟩ ⟨n,sl,m⟩ av) (hk:fL P w0 p0 ops rest ⟨n,(d,av)::sl,m⟩ Q) :
    fL P w0 p0 ops (⟨some d,op,ty,ps,af,none⟩::rest) ⟨n,sl,m⟩ Q :=
  gD rfl (aX9 (uR hd) av h hk)
theorem wrap_i64 {z:Int} (h1:-9223372036854775808≤z) (h2:z≤9223372036854775807):IntKind.i64.wrap z=z:=by
  simp [IntKind.wrap,IntKind.bits,IntKind.signed]; omega
theorem aX {op:Op} {j g:Nat} {b:Bool} (hg:(ops[j]?).bind (·.dst)=some g) (hb:lk sl g=some (.s (.bool b))) (hd:lt d n=true)
    (hk:fL P w0 p0 ops (⟨some d,op,ty,ps,af,none⟩::rest) ⟨n,sl,m⟩ Q):fL P w0 p0 ops (⟨some d,op,ty,ps,af,some (j,b)⟩::rest) ⟨n,sl,m⟩ Q:=by
  intro a w hr
  have hy:yielded ops a.tmps j=some b:=by
    obtain ⟨_,_,p,_,hs,_⟩:=hr
    obtain ⟨v,hv1,hv2⟩:=hs g _ (by rw[← lL]; exact hb)
    cases hv2
    simp [yielded,hg,hv1]
  have:=hk a w hr
  unfold wpList at this ⊢
  have hw:Region.wanted (⟨some d,op,ty,ps,af,some (j,b)⟩:Oper) (yielded ops a.tmps)=true:=by simp [Region.wanted,hy]
  have hw':Region.wanted (⟨some d,op,ty,ps,af,none⟩:Oper) (yielded ops a.tmps)=true:=by simp [Region.wanted]
  rw[if_pos hw]
  rw[if_pos hw'] at this
  exact this
theorem aBj {op:Op} {j g:Nat} {b:Bool} (hg:(ops[j]?).bind (·.dst)=some g) (hb:lk sl g=some (.s (.bool !b))) (hd:lt d n=true)
    (hk:fL P w0 p0 ops rest ⟨n,(d,.s undef)::sl,m⟩ Q):fL P w0 p0 ops (⟨some d,op,ty,ps,af,some (j,b)⟩::rest) ⟨n,sl,m⟩ Q :=
  aR1 (t:=!b) rfl hg (by rw[← lL]; exact hb) (uR hd) (fun h=>by cases b <;> cases h) (fun _=>hk)
theorem rQ {g:Nat} (h:lt g E0=true) (hl:lk m g=none):St.fresh ⟨n,sl,m⟩ g:=⟨pU h,by rw[← lL]; exact hl⟩
theorem vI (hf:Fit w0 p0) {t:Nat} {x:Operand} {av:AV} (hd:lt d n=true) (hE:lt d E0=true) (hl:lk m d=none) (hx:ev sl x=some av) (h1:∀ c∈av.cells,c.one=true) (hk:fL P w0 p0 ops rest ⟨n,(d,.ref d 0 0 0)::sl,(d,.box av.cells)::m⟩ Q) :
    fL P w0 p0 ops (⟨some d,.box t x,ty,ps,af,none⟩::rest) ⟨n,sl,m⟩ Q :=
  gD rfl (aop_box hf rfl rfl (pU hd) (rQ hE hl) (cR hx) h1 hk)
theorem aJ8 (hf:Fit w0 p0) {t e k by_ len:Nat} {parts:List (Nat×Operand)} {xs:List (List AV)} (hd:lt d n=true) (hE:lt d E0=true) (hl:lk m d=none) (ht:appT? P t=some (e,k,by_)) (hidx:parts.map (·.1)=List.range len) (hbig:Nat.ble (len*k) 16777216=true)
    (hxs:(parts.map fun x=>(St.ev ⟨n,sl,m⟩ x.2).cells)=xs) (hx:∀ x∈xs,x.length=k∧∀ c∈x,c.leaf=true) (hk:fL P w0 p0 ops rest ⟨n,(d,.own d k 0 len)::sl,(d,.buf k xs)::m⟩ Q) :
    fL P w0 p0 ops (⟨some d,.buildSlice t len parts.toArray,ty,ps,af,none⟩::rest) ⟨n,sl,m⟩ Q :=
  have h:=appT?_inv ht
  gD rfl (aG4 hf rfl rfl (pU hd) (rQ hE hl) h.1 h.2.1 h.2.2.1 (by obtain ⟨i,z,h1,h2,_⟩:=h.2.2.2; simp [zeros?,h1,h2]) hidx (Nat.le_of_ble_eq_true hbig) hxs hx hk)
theorem mC (hf:Fit w0 p0) (k:Nat) (hd:lt d n=true) (hE:lt d E0=true) (hl:lk m d=none) (hk:fL P w0 p0 ops rest ⟨n,(d,.own d k 0 0)::sl,(d,.buf k [])::m⟩ Q) :
    fL P w0 p0 ops (⟨some d,.assign (.const (.slice none 0 0)),ty,ps,af,none⟩::rest) ⟨n,sl,m⟩ Q :=
  gD rfl (aT9 hf k rfl rfl (pU hd) (rQ hE hl) hk)
theorem bH (hf:Fit w0 p0) {s x:Operand} {t e k by_ g c:Nat} {xs ys:List (List AV)} {k':Nat} {src:AV} (hd:lt d n=true) (ht:appT? P t=some (e,k,by_)) (hg:lt g E0=true) (hs:ev sl s=some (.own g k 0 c)) (hl:lk m g=some (.buf k' xs)) (hk':k'=k∨xs=[])
    (hn:c=xs.length) (hx:ev sl x=some src) (hsrc:eK ⟨n,sl,m⟩ k src=some ys) (hmax:c+ys.length≤maxLen) (hby:(c+ys.length)*by_≤140737488355328)
    (hk:fL P w0 p0 ops rest ⟨n,(d,.own g k 0 (c+ys.length))::nC g sl,(g,.buf k (xs++ys))::qO g m⟩ Q) :
    fL P w0 p0 ops (⟨some d,.call { callee:=.builtin .append,args:=#[s,x],argTypes:=#[t,t] },ty,ps,af,none⟩::rest) ⟨n,sl,m⟩ Q :=
  gD rfl (aR2 hf rfl rfl (pU hd) ht (pU hg) (cR hs) (by rw[← lL]; exact hl) hk' hn (by rw[cR hx]; exact hsrc) hmax hby hk)
theorem bB (hf:Fit w0 p0) {t:Nat} {x y:Operand} {g k j f c:Nat} {mm mm':AM} {av:AV} (hx:ev sl x=some (.ref g k j f)) (hl:lk m g=some mm) (hn:cells? P t=some c) (hy:ev sl y=some av) (hlen:av.cells.length=c) (h1:∀ c∈av.cells,c.one=true)
    (hlf:∀ k xs,mm=.buf k xs→∀ c∈av.cells,c.leaf=true) (hm':mm.store k j f av.cells=some mm') (hk:fL P w0 p0 ops rest ⟨n,sl,mU g mm' m⟩ Q) :
    fL P w0 p0 ops (⟨none,.store t x y,ty,ps,af,none⟩::rest) ⟨n,sl,m⟩ Q :=
  gD rfl (aVy hf rfl rfl (cR hx) (by rw[← lL]; exact hl) hn (by rw[cR hy]; exact hlen) (by rw[cR hy]; exact h1) (by rw[cR hy]; exact hlf) (by rw[cR hy]; exact hm') hk)
theorem x_callA (hf:Fit w0 p0) {fo:Operand} {xs:List Operand} {ts:Array TypeId} {f:Nat} {cap args:List AV} {R:AV→Prop} (hd:lt d n=true) (hfo:ev sl fo=some (.fn f cap)) (hargs:xs.map (St.ev ⟨n,sl,m⟩)++cap=args)
    (hent:∀ args w,(callFunc f args).run P w=.ok (.enter f args) w) (hcl:cleanL (fun _=>false) args=true) (hden:Den P f args R) (hk:∀ r,R r→fL P w0 p0 ops rest ⟨n,(d,r)::sl,m⟩ Q) :
    fL P w0 p0 ops (⟨some d,.call { callee:=.value fo,args:=xs.toArray,argTypes:=ts },ty,ps,af,none⟩::rest) ⟨n,sl,m⟩ Q :=
  gD rfl (aV5 hf rfl hent (uR hd) (cR hfo) (fun a ha=>mW (hargs ▸ hcl) a ha) (hargs ▸ hden) hk)
end
theorem bD {ops:Array Oper} {rest:List Oper} {σ σ':St} {Q:Exit→St→Prop} (hl:Le σ σ') (h:fL P w0 p0 ops rest σ' Q):fL P w0 p0 ops rest σ Q:=fun a w hr=>h a w (hl _ _ _ _ hr)
theorem aC {x y:Code} {σ:St} {Q:Exit→St→Prop} (h:∀ K:St→Prop,(∀ σ',AW P w0 p0 y σ' Q→K σ')→AW P w0 p0 x σ (aMg K Q)):AW P w0 p0 (.seq x y) σ Q :=
  aX2 (h _ fun _ h=>h)
theorem bN {x y:Code} {c:Operand} {n:Nat} {sl:List (Nat×AV)} {m:Mem} {Q:Exit→St→Prop} (hc:ev sl c=some (.s (.bool true))) (h:AW P w0 p0 x ⟨n,sl,m⟩ Q):AW P w0 p0 (.cond c x y) ⟨n,sl,m⟩ Q :=
  aLp (cR hc) (fun _=>h) (fun h=>by cases h)
theorem bW {x y:Code} {c:Operand} {n:Nat} {sl:List (Nat×AV)} {m:Mem} {Q:Exit→St→Prop} (hc:ev sl c=some (.s (.bool false))) (h:AW P w0 p0 y ⟨n,sl,m⟩ Q):AW P w0 p0 (.cond c x y) ⟨n,sl,m⟩ Q :=
  aLp (cR hc) (fun h=>by cases h) (fun _=>h)
theorem aL {x y:Code} {c:Operand} {n:Nat} {sl:List (Nat×AV)} {m:Mem} {Q:Exit→St→Prop} {t:Bool} (hc:ev sl c=some (.s (.bool t))) (h1:t=true→AW P w0 p0 x ⟨n,sl,m⟩ Q) (h2:t=false→AW P w0 p0 y ⟨n,sl,m⟩ Q):AW P w0 p0 (.cond c x y) ⟨n,sl,m⟩ Q :=
  aLp (cR hc) h1 h2
theorem aD {ops:Array Oper} {σ:St} {K:St→Prop} {Q:Exit→St→Prop} (h:K σ):fL P w0 p0 ops [] σ (aMg K Q):=bS h
end Go.Abs
set_option linter.unusedVariables false
set_option linter.unusedSimpArgs false
namespace Go.Abs
open Go Go.RowKit
variable {P:Program} {w0:World} {p0:Hp}
def evs (sl:List (Nat×AV)) (cap:List AV):List Operand→Option (List AV)
  | []=>some cap
  | x::r=>match ev sl x with
    | some a=>match evs sl cap r with | some l=>some (a::l) | none=>none
    | none=>none
theorem uQ {n:Nat} {sl:List (Nat×AV)} {m:Mem} {cap:List AV}:∀ {xs:List Operand} {args:List AV},evs sl cap xs=some args→xs.map (St.ev ⟨n,sl,m⟩)++cap=args
  | [],args,h=>by simpa [evs] using h
  | x::r,args,h=>by
    simp only[evs] at h
    split at h
    · rename_i a ha
      split at h
      · rename_i l hl
        cases h
        simp only[List.map_cons,List.cons_append,cR ha,uQ hl]
      · cases h
    · cases h
def evp (sl:List (Nat×AV)):List (Nat×Operand)→Option (List (Nat×AV))
  | []=>some []
  | (i,x)::r=>match ev sl x with
    | some a=>match evp sl r with | some l=>some ((i,a)::l) | none=>none
    | none=>none
theorem aGp {n:Nat} {sl:List (Nat×AV)} {m:Mem}:∀ {xs:List (Nat×Operand)} {l:List (Nat×AV)},evp sl xs=some l→xs.map (fun x=>(x.1,St.ev ⟨n,sl,m⟩ x.2))=l
  | [],l,h=>by simpa [evp] using h
  | (i,x)::r,args,h=>by
    simp only[evp] at h
    split at h
    · rename_i a ha
      split at h
      · rename_i l hl
        cases h
        simp only[List.map_cons,cR ha,aGp hl]
      · cases h
    · cases h
section
variable {ops:Array Oper} {rest:List Oper} {n d ty:Nat} {ps:String} {af:Array Edge} {sl:List (Nat×AV)} {m:Mem} {Q:Exit→St→Prop}
theorem y_call (hf:Fit w0 p0) {fo:Operand} {xs:List Operand} {ts:Array TypeId} {f:Nat} {cap args:List AV} {R:AV→Prop} (hd:lt d n=true) (hfo:ev sl fo=some (.fn f cap)) (hargs:evs sl cap xs=some args)
    (hent:∀ args w,(callFunc f args).run P w=.ok (.enter f args) w) (hcl:cleanL (fun _=>false) args=true) (hden:Den P f args R) (hk:∀ r,R r→fL P w0 p0 ops rest ⟨n,(d,r)::sl,m⟩ Q) :
    fL P w0 p0 ops (⟨some d,.call { callee:=.value fo,args:=xs.toArray,argTypes:=ts },ty,ps,af,none⟩::rest) ⟨n,sl,m⟩ Q :=
  x_callA hf hd hfo (uQ hargs) hent hcl hden hk
theorem aU {op:Op} {j g:Nat} {b t:Bool} (hg:(ops[j]?).bind (·.dst)=some g) (hb:lk sl g=some (.s (.bool t))) (hd:lt d n=true)
    (h1:t=b→fL P w0 p0 ops (⟨some d,op,ty,ps,af,none⟩::rest) ⟨n,(g,.s (.bool b))::sl,m⟩ Q) (h2:t=(!b)→fL P w0 p0 ops rest ⟨n,(d,.s undef)::(g,.s (.bool !b))::sl,m⟩ Q) :
    fL P w0 p0 ops (⟨some d,op,ty,ps,af,some (j,b)⟩::rest) ⟨n,sl,m⟩ Q:=by
  have hle:∀ {c:Bool},t=c→Le ⟨n,sl,m⟩ ⟨n,(g,.s (.bool c))::sl,m⟩:=by
    intro c hc w0 p0 a w ⟨e1,e2,p,hE,hs,hm⟩
    refine⟨e1,e2,p,hE,fun x y hy=>?_,hm⟩
    simp only[bL] at hy
    split at hy
    · rename_i e; subst e; cases hy; exact hs g _ (by rw[← lL,hb,hc])
    · exact hs x y hy
  rcases (by cases t <;> cases b <;> simp:t=b∨t=!b) with h | h
  · exact bD (hle h) (aX hg (by simp only[lk,Nat.beq_refl]) hd (h1 h))
  · exact bD (hle h) (aBj hg (by simp only[lk,Nat.beq_refl]) hd (h2 h))
theorem dR (hf:Fit w0 p0) {t e k by_ len:Nat} {parts:List (Nat×Operand)} {ps':List (Nat×AV)} {xs:List (List AV)} (hd:lt d n=true) (hE:lt d E0=true) (hl:lk m d=none) (ht:appT? P t=some (e,k,by_)) (hps:evp sl parts=some ps') (hidx:ps'.map (·.1)=List.range len) (hbig:Nat.ble (len*k) 16777216=true)
    (hxs:(ps'.map fun x=>x.2.cells)=xs) (hx:∀ x∈xs,x.length=k∧∀ c∈x,c.leaf=true) (hk:fL P w0 p0 ops rest ⟨n,(d,.own d k 0 len)::sl,(d,.buf k xs)::m⟩ Q) :
    fL P w0 p0 ops (⟨some d,.buildSlice t len parts.toArray,ty,ps,af,none⟩::rest) ⟨n,sl,m⟩ Q :=
  aJ8 hf hd hE hl ht (by have:=aGp (n:=n) (m:=m) hps; rw[← this] at hidx; simpa [List.map_map,Function.comp_def] using hidx) hbig (by have:=aGp (n:=n) (m:=m) hps; rw[← this] at hxs; simpa [List.map_map,Function.comp_def] using hxs) hx hk
end
theorem aLo {ι:Type} {x y:Code} {σ:St} {Q:Exit→St→Prop} (I:ι→St) (C:ι→Prop) (hx:AW P w0 p0 x σ (aMg (fun σ'=>∃ i,C i∧Le σ' (I i)) Q)) (hy:∀ i,C i→AW P w0 p0 y (I i) Q):AW P w0 p0 (.seq x y) σ Q :=
  aX2 (hx.mono fun e σ' h=>by
    cases e with
    | normal=>obtain ⟨i,hc,hle⟩:=h; exact(hy i hc).le hle
    | _=>exact h)
def pJ (l:List (Nat×AV)):List (Nat×AV)→Prop
  | []=>True
  | (t,a)::r=>lk l t=some a∧pJ l r
theorem kI {n:Nat} {sl sl':List (Nat×AV)} {m:Mem} (h:pJ sl sl'):Le ⟨n,sl,m⟩ ⟨n,sl',m⟩ :=
  Le.cover rfl rfl (by
    have:∀ l,pJ sl l→kP (bL sl) l:=by
      intro l
      induction l with
      | nil=>exact fun _=>trivial
      | cons x r ih=>exact fun h=>⟨by rw[← lL]; exact h.1,ih h.2⟩
    exact this _ h)
end Go.Abs
set_option linter.unusedVariables false
set_option linter.unusedSimpArgs false
namespace Go.Abs
open Go Go.RowKit
variable {P:Program} {w0:World} {p0:Hp}
section
variable {ops:Array Oper} {rest:List Oper} {n d ty:Nat} {ps:String} {af:Array Edge} {gd:Option (Nat×Bool)} {sl:List (Nat×AV)} {m:Mem} {Q:Exit→St→Prop}
theorem fZ {x:Operand} {a:AV}  (hx:ev sl x=some a):cH P ⟨some d,.move x,ty,ps,af,gd⟩ ⟨n,sl,m⟩ a :=
  (cR hx ▸ aI7 rfl)
theorem wG {x:Operand} {a:AV}  (hx:ev sl x=some a):cH P ⟨some d,.assign x,ty,ps,af,gd⟩ ⟨n,sl,m⟩ a :=
  (cR hx ▸ aCx rfl)
theorem bK {x:Operand}  :cH P ⟨some d,.assign x,ty,ps,af,gd⟩ ⟨n,sl,m⟩ .bad :=
  (fun act w p hs _=>⟨act.eval x,by simp [execOp],.bad _⟩)
theorem aW6 {c x y:Operand} {a:AV}  (hc:ev sl c=some (.s (.bool true))) (hx:ev sl x=some a):cH P ⟨some d,.pick c x y,ty,ps,af,gd⟩ ⟨n,sl,m⟩ a :=
  (cR hx ▸ aI6 rfl (cR hc))
theorem aW7 {c x y:Operand} {a:AV}  (hc:ev sl c=some (.s (.bool false))) (hx:ev sl y=some a):cH P ⟨some d,.pick c x y,ty,ps,af,gd⟩ ⟨n,sl,m⟩ a :=
  (cR hx ▸ aI6 rfl (cR hc))
theorem fG {op:BinOp} {t yt:TypeId} {x y:Operand} {u v r:Value}  (hx:ev sl x=some (.s u)) (hy:ev sl y=some (.s v)) (h:uW P op t u v=some r):cH P ⟨some d,.binOp op t x y yt,ty,ps,af,gd⟩ ⟨n,sl,m⟩ (.s r) :=
  (aW3 rfl (cR hx) (cR hy) h)
theorem p_not {t:TypeId} {x:Operand} {b:Bool}  (hx:ev sl x=some (.s (.bool b))):cH P ⟨some d,.unOp .not t x,ty,ps,af,gd⟩ ⟨n,sl,m⟩ (.s (.bool !b)) :=
  (aM8 rfl (cR hx))
theorem gO {t:TypeId} {x:Operand} {s:ByteArray}  (hx:ev sl x=some (.s (.string s))) (ht:P.underlying t=some .string):cH P ⟨some d,.call { callee:=.builtin .len,args:=#[x],argTypes:=#[t] },ty,ps,af,gd⟩ ⟨n,sl,m⟩ (.s (.int .i64 s.size)) :=
  (aKn rfl ht (cR hx))
theorem aW8 {t e k:Nat} {x:Operand} {xs:List (List AV)}  (hx:ev sl x=some (.sl k xs)) (ht:elem? P t=some e):cH P ⟨some d,.call { callee:=.builtin .len,args:=#[x],argTypes:=#[t] },ty,ps,af,gd⟩ ⟨n,sl,m⟩ (.s (.int .i64 xs.length)) :=
  (aM9 rfl ht (cR hx))
theorem aUt {t e g k off c:Nat} {x:Operand}  (hx:ev sl x=some (.own g k off c)) (ht:elem? P t=some e):cH P ⟨some d,.call { callee:=.builtin .len,args:=#[x],argTypes:=#[t] },ty,ps,af,gd⟩ ⟨n,sl,m⟩ (.s (.int .i64 c)) :=
  (aKo rfl ht (cR hx))
theorem p_min {t1 t2:TypeId} {x y:Operand} {k k':IntKind} {a b:Int}  (hx:ev sl x=some (.s (.int k a))) (hy:ev sl y=some (.s (.int k' b))):cH P ⟨some d,.call { callee:=.builtin .min,args:=#[x,y],argTypes:=#[t1,t2] },ty,ps,af,gd⟩ ⟨n,sl,m⟩ (.s (.int k (min a b))) :=
  (aW1 rfl (cR hx) (cR hy))
theorem aTu {t1 t2:TypeId} {x y:Operand} {k k':IntKind} {a b:Int}  (hx:ev sl x=some (.s (.int k a))) (hy:ev sl y=some (.s (.int k' b))):cH P ⟨some d,.call { callee:=.builtin .max,args:=#[x,y],argTypes:=#[t1,t2] },ty,ps,af,gd⟩ ⟨n,sl,m⟩ (.s (.int k (max a b))) :=
  (aW2 rfl (cR hx) (cR hy))
theorem aUw {x:Operand} {i:Nat} {vs:List AV} {c:AV}  (hx:ev sl x=some (.tup vs)) (hi:vs[i]?=some c):cH P ⟨some d,.extract x i,ty,ps,af,gd⟩ ⟨n,sl,m⟩ c :=
  (aKp rfl (cR hx) hi)
theorem bG {x i:Operand} {t e k:Nat} {xs:List (List AV)} {c:List AV} {kd:IntKind} {z:Int}  (hx:ev sl x=some (.sl k xs)) (hi:ev sl i=some (.s (.int kd z))) (ht:elem? P t=some e) (hc:cells? P e=some k)
    (hn:0≤z∧xs[z.toNat]?=some c):cH P ⟨some d,.indexAddr t x i,ty,ps,af,gd⟩ ⟨n,sl,m⟩ (.adr c) :=
  (aAl rfl ht hc (cR hx) (cR hi) hn)
theorem cB {x i:Operand} {t e g k off c:Nat} {kd:IntKind} {z:Int}  (hx:ev sl x=some (.own g k off c)) (hi:ev sl i=some (.s (.int kd z))) (ht:elem? P t=some e) (hc:cells? P e=some k)
    (hn:0≤z∧z<c):cH P ⟨some d,.indexAddr t x i,ty,ps,af,gd⟩ ⟨n,sl,m⟩ (.ref g k (off+z.toNat) 0) :=
  (rF rfl ht hc (cR hx) (cR hi) hn)
theorem aKs {x:Operand} {t:Nat} {c:AV} {cs:List AV}  (hx:ev sl x=some (.adr cs)) (ht:agg? P t=some false) (hc:cs[0]?=some c):cH P ⟨some d,.load t x,ty,ps,af,gd⟩ ⟨n,sl,m⟩ c :=
  (aH9 rfl ht (cR hx) hc)
theorem xX {x:Operand} {t k:Nat} {cs cs':List AV}  (hx:ev sl x=some (.adr cs)) (ht:agg? P t=some true) (hn:cells? P t=some k) (hc:Nat.ble k cs.length=true) (he:cs.take k=cs'):cH P ⟨some d,.load t x,ty,ps,af,gd⟩ ⟨n,sl,m⟩ (.agg cs') :=
  (he ▸ aFz rfl ht hn (cR hx) (Nat.le_of_ble_eq_true hc))
theorem iW {x:Operand} {t g k j f:Nat} {c:AV} {mm:AM}  (hx:ev sl x=some (.ref g k j f)) (ht:agg? P t=some false) (hm:lk m g=some mm) (hc:(mm.at k j f)[0]?=some c):cH P ⟨some d,.load t x,ty,ps,af,gd⟩ ⟨n,sl,m⟩ c :=
  (aH8 rfl ht (cR hx) (by rw[← lL]; exact hm) hc)
theorem cD {x:Operand} {t g k j f c:Nat} {mm:AM} {cs':List AV}  (hx:ev sl x=some (.ref g k j f)) (ht:agg? P t=some true) (hn:cells? P t=some c) (hm:lk m g=some mm) (hc:Nat.ble c (mm.at k j f).length=true) (he:(mm.at k j f).take c=cs'):cH P ⟨some d,.load t x,ty,ps,af,gd⟩ ⟨n,sl,m⟩ (.agg cs') :=
  (he ▸ wF rfl ht hn (cR hx) (by rw[← lL]; exact hm) (Nat.le_of_ble_eq_true hc))
theorem bM {x:Operand} {t u f off c:Nat} {cs cs':List AV}  (hx:ev sl x=some (.adr cs)) (ht:field? P t f=some (off,u)) (hu:cells? P u=some (c+1)) (he:cs.drop off=cs'):cH P ⟨some d,.fieldAddr t x f,ty,ps,af,gd⟩ ⟨n,sl,m⟩ (.adr cs') :=
  (he ▸ zF rfl ht hu (by omega) (cR hx))
theorem aUv {x:Operand} {t u f off c g k j i i':Nat}  (hx:ev sl x=some (.ref g k j i)) (ht:field? P t f=some (off,u)) (hu:cells? P u=some (c+1)) (he:i+off=i'):cH P ⟨some d,.fieldAddr t x f,ty,ps,af,gd⟩ ⟨n,sl,m⟩ (.ref g k j i') :=
  (he ▸ rG rfl ht hu (by omega) (cR hx))
theorem p_fld1 {x:Operand} {t u f off:Nat} {cs:List AV} {c:AV}  (hx:ev sl x=some (.agg cs)) (ht:field? P t f=some (off,u)) (hu:agg? P u=some false) (hc:cs[off]?=some c):cH P ⟨some d,.field t x f,ty,ps,af,gd⟩ ⟨n,sl,m⟩ c :=
  (aCw rfl ht hu (cR hx) hc)
theorem p_flds {x:Operand} {t u f off c:Nat} {cs cs':List AV}  (hx:ev sl x=some (.agg cs)) (ht:field? P t f=some (off,u)) (hu:agg? P u=some true) (hn:cells? P u=some c) (hc:Nat.ble (off+c) cs.length=true) (he:(cs.drop off).take c=cs'):cH P ⟨some d,.field t x f,ty,ps,af,gd⟩ ⟨n,sl,m⟩ (.agg cs') :=
  (he ▸ aNa rfl ht hu hn (cR hx) (Nat.le_of_ble_eq_true hc))
theorem qT {x i:Operand} {t:Nat} {s:ByteArray} {kd:IntKind} {z:Int} {b:UInt8}  (hx:ev sl x=some (.s (.string s))) (hi:ev sl i=some (.s (.int kd z))) (ht:P.underlying t=some .string) (hn:0≤z∧s.data[z.toNat]?=some b):cH P ⟨some d,.index t x i,ty,ps,af,gd⟩ ⟨n,sl,m⟩ (.s (.int .u8 b.toNat)) :=
  (aF0 rfl ht (cR hx) (cR hi) hn)
theorem fO {x:Operand} {lo hi:Option Operand} {t e k l h:Nat} {xs ys:List (List AV)}  (hx:ev sl x=some (.sl k xs)) (ht:elem? P t=some e) (hc:cells? P e=some k)
    (hl:bnd ⟨n,sl,m⟩ 0 lo=some l) (hh:bnd ⟨n,sl,m⟩ xs.length hi=some h) (h1:l≤h) (h2:h≤xs.length) (he:(xs.take h).drop l=ys):cH P ⟨some d,.slice t x lo hi none,ty,ps,af,gd⟩ ⟨n,sl,m⟩ (.sl k ys) :=
  (he ▸ aH6 rfl ht hc (cR hx) hl hh h1 h2)
theorem eW {x:Operand} {lo hi:Option Operand} {t e g k off c l h:Nat}  (hx:ev sl x=some (.own g k off c)) (ht:elem? P t=some e) (hc:cells? P e=some k)
    (hl:bnd ⟨n,sl,m⟩ 0 lo=some l) (hh:bnd ⟨n,sl,m⟩ c hi=some h) (h1:l≤h) (h2:h≤c):cH P ⟨some d,.slice t x lo hi none,ty,ps,af,gd⟩ ⟨n,sl,m⟩ (.own g k (off+l) (h - l)) :=
  (aFy rfl ht hc (cR hx) hl hh h1 h2)
theorem bO {t yt:TypeId} {x y:Operand} {a b:Int} (hx:ev sl x=some (.s (.int .i64 a))) (hy:ev sl y=some (.s (.int .i64 b))) (h1:-9223372036854775808≤a+b) (h2:a+b≤9223372036854775807):cH P ⟨some d,.binOp .add t x y yt,ty,ps,af,gd⟩ ⟨n,sl,m⟩ (.s (.int .i64 (a+b))) :=
  fG hx hy (by simp [uW,aCh,wrap_i64 h1 h2])
theorem eZ {t yt:TypeId} {x y:Operand} {a b:Int} (hx:ev sl x=some (.s (.int .i64 a))) (hy:ev sl y=some (.s (.int .i64 b))) (h1:-9223372036854775808≤a - b) (h2:a - b≤9223372036854775807):cH P ⟨some d,.binOp .sub t x y yt,ty,ps,af,gd⟩ ⟨n,sl,m⟩ (.s (.int .i64 (a - b))) :=
  fG hx hy (by simp [uW,aCh,wrap_i64 h1 h2])
theorem eY {f:Nat} {l:List Operand} {cs:List AV} (hl:evs sl [] l=some cs):cH P ⟨some d,.makeFunc (.func f) #[] l.toArray,ty,ps,af,gd⟩ ⟨n,sl,m⟩ (.fn f cs):=by
  have h:=uQ (n:=n) (m:=m) hl
  rw[List.append_nil] at h
  exact h ▸ aH7 rfl
theorem bR {t:Nat} {parts:List (Nat×Operand)} {zs:List Value} {pl:List (Nat×Nat)} {ps':List (Nat×AV)} {cs:List AV} (hps:evp sl parts=some ps') (hz:zeros? P t=some zs) (hp:places? P t=some pl)
    (h1:∀ x∈ps',∀ c∈x.2.cells,c.one=true) (hc:aBe (fun i=>pl[i]?) (zs.map .s) ps'=some cs):cH P ⟨some d,.build t parts.toArray,ty,ps,af,gd⟩ ⟨n,sl,m⟩ (.agg cs):=by
  have h:=aGp (n:=n) (m:=m) hps
  exact aRa rfl hz hp (fun x hx=>h1 (x.1,St.ev ⟨n,sl,m⟩ x.2) (h ▸ List.mem_map.2 ⟨x,hx,rfl⟩)) (h ▸ hc)
def fsl (sl:List (Nat×AV)):FS:=fun t=>(lk sl t).getD .bad
theorem fs_fsl (σ:St):σ.fs=fsl σ.slots:=by funext t; simp [St.fs,fsl,lL]
theorem aN4 (sl:List (Nat×AV)) (d:Nat) (av:AV):vO (fsl sl) (some d) av=fsl ((d,av)::sl):=by
  funext t
  simp only[vO,fsl,lk]
  by_cases h:t=d
  · subst h; rw[if_pos rfl,Nat.beq_refl]; rfl
  · rw[if_neg h]
    have:Nat.beq d t=false:=by
      cases hb:Nat.beq d t with
      | true=>exact absurd (Nat.eq_of_beq_eq_true hb).symm h
      | false=>rfl
    rw[this]
theorem cP (hf:Fit w0 p0) {id:Nat} {l:List Oper} {K:FS→Prop} (hm:P.follows .mixedOrders=true) (hB:Region.lexB .any l.toArray=true)
    (hK:K=fun s=>∃ σ':St,σ'.n=n∧σ'.mem=m∧kP (fun t=>some (s t)) σ'.slots∧mD σ'.slots=true∧Q .normal σ') (h:rN P l.toArray n m K l (fsl sl)):AW P w0 p0 (.region id l.toArray true) ⟨n,sl,m⟩ Q :=
  aG2 hf hm hB (by rw[fs_fsl]; subst hK; exact h)
theorem lex_end {K:FS→Prop} {sl':List (Nat×AV)} (hK:K=fun s=>∃ σ':St,σ'.n=n∧σ'.mem=m∧kP (fun t=>some (s t)) σ'.slots∧mD σ'.slots=true∧Q .normal σ') (hc:pJ sl sl') (hnb:mD sl'=true) (h:Q .normal ⟨n,sl',m⟩):rN P ops n m K [] (fsl sl):=by
  subst hK
  refine⟨⟨n,sl',m⟩,rfl,rfl,?_,hnb,h⟩
  have:∀ l,pJ sl l→kP (fun t=>some (fsl sl t)) l:=by
    intro l
    induction l with
    | nil=>exact fun _=>trivial
    | cons x r ih=>exact fun h=>⟨by simp [fsl,h.1],ih h.2⟩
  exact this _ hc
def inL (l:List Nat) (t:Nat):Bool:=match l with | []=>false | x::r=>match Nat.beq x t with | true=>true | false=>inL r t
theorem aK5:∀ {l:List Nat} {t:Nat},inL l t=true→t∈l
  | [],_,h=>by simp [inL] at h
  | x::r,t,h=>by
    simp only[inL] at h
    split at h
    · rename_i hb; rw[Nat.eq_of_beq_eq_true hb]; simp
    · exact List.mem_cons_of_mem _ (aK5 h)
def aB4 (looks:List Nat) (sl:List (Nat×AV)):List (Nat×AV)→Prop
  | []=>True
  | (t,a)::r=>(inL looks t=true∧lk sl t=some a)∧aB4 looks sl r
theorem aXw {K:FS→Prop} {o:Oper} {av:AV} {d:Nat} (ho:o.dst=some d) (hd:lt d n=true) (hw:lD ops o (fsl sl)=some true) (hst:aTd P ops n m o (fsl sl) av) (hk:rN P ops n m K rest (fsl ((d,av)::sl))):rN P ops n m K (o::rest) (fsl sl) :=
  ⟨av,⟨by rw[ho]; exact uR hd,.inl ⟨hw,hst⟩⟩,by rw[ho,aN4]; exact hk⟩
theorem bQ {K:FS→Prop} {op:Op} {av:AV} {gd:Option (Nat×Bool)} (L:List (Nat×AV)) (hd:lt d n=true) (hw:lD ops ⟨some d,op,ty,ps,af,gd⟩ (fsl sl)=some true) (hL:aB4 (Oper.looksAt ops ⟨some d,op,ty,ps,af,gd⟩) sl L) (hnb:mD L=true)
    (h:cH P ⟨some d,op,ty,ps,af,gd⟩ ⟨n,L,m⟩ av) (hk:rN P ops n m K rest (fsl ((d,av)::sl))):rN P ops n m K (⟨some d,op,ty,ps,af,gd⟩::rest) (fsl sl):=by
  refine aXw rfl hd hw (aUl L ?_ hnb h) hk
  have:∀ l,aB4 (Oper.looksAt ops ⟨some d,op,ty,ps,af,gd⟩) sl l→kP (fun t=>if t∈Oper.looksAt ops ⟨some d,op,ty,ps,af,gd⟩ then some (fsl sl t) else none) l:=by
    intro l
    induction l with
    | nil=>exact fun _=>trivial
    | cons x r ih=>exact fun h=>⟨by simp only; rw[if_pos (aK5 h.1.1)]; simp [fsl,h.1.2],ih h.2⟩
  exact this _ hL
theorem aZ {K:FS→Prop} {op:Op} {gd:Option (Nat×Bool)} (hd:lt d n=true) (hw:lD ops ⟨some d,op,ty,ps,af,gd⟩ (fsl sl)=some false) (hk:rN P ops n m K rest (fsl ((d,.s undef)::sl))):rN P ops n m K (⟨some d,op,ty,ps,af,gd⟩::rest) (fsl sl) :=
  ⟨.s undef,⟨uR hd,.inr ⟨hw,rfl⟩⟩,by rw[aN4]; exact hk⟩
theorem fC {K:FS→Prop} {l:List Oper} (g:Nat) {t:Bool} (b:Bool) (hg:lk sl g=some (.s (.bool t))) (h1:t=b→rN P ops n m K l (fsl ((g,.s (.bool b))::sl))) (h2:t=(!b)→rN P ops n m K l (fsl ((g,.s (.bool !b))::sl))):rN P ops n m K l (fsl sl):=by
  have hsame:∀ c,t=c→fsl ((g,.s (.bool c))::sl)=fsl sl:=by
    rintro c rfl
    funext x
    simp only[fsl,lk]
    cases hb:Nat.beq g x with
    | true=>rw[← Nat.eq_of_beq_eq_true hb,hg]
    | false=>rfl
  rcases (by cases t <;> cases b <;> simp:t=b∨t=!b) with h | h
  · rw[← hsame b h]; exact h1 h
  · rw[← hsame (!b) h]; exact h2 h
end
theorem aBo {s:ByteArray} {k:Nat} (h:k<s.size):s.data[((k:Nat):Int).toNat]?=some s[k]:=by
  rw[Int.toNat_natCast]; exact Array.getElem?_eq_getElem h
theorem aAu {α:Type} {s:List α} {k:Nat} (h:k<s.length):s[((k:Nat):Int).toNat]?=some s[k]:=by
  rw[Int.toNat_natCast]; exact List.getElem?_eq_getElem h
theorem dM {k:IntKind} {a b:Int} (h:a=b):AV.s (.int k a)=.s (.int k b):=by rw[h]
theorem aO {a b:Bool} (h:a=b):AV.s (.bool a)=.s (.bool b):=by rw[h]
end Go.Abs
set_option linter.unusedVariables false
set_option linter.unusedSimpArgs false
namespace Go.Abs
open Go Go.RowKit
variable {P:Program} {w0:World} {p0:Hp}
def yV (P:Program) (o:Oper) (σ:St) (av:AV):Prop :=
  ∀ (act:Act) (w:World) (p:Hp),SlotsRel w p σ.slots act.tmps→MemRel w p σ.mem→(∀ b,p.A b→b<w.heap.size) →
    ∀ (next:Act→World→Prop) (Q:Exit→Act→World→Prop),(∀ v w',Grow w w'→RelV w' p av v→next (act.put o.dst v) w')→o.wp P act w next Q
theorem Grow.alloc (w:World) (o:Obj):Grow w (w.alloc o):=⟨rfl,⟨rfl,Nat.le_refl _⟩,rfl,by simp,fun b hb=>Below.heap_alloc _ _ _ hb⟩
theorem aE9 {w:World} {p:Hp} {mem:Mem} (hm:MemRel w p mem) (hA:∀ b,p.A b→b<w.heap.size) (o:Obj):Stable (w.alloc o) p w.heap.size :=
  ⟨by simp,(fun g hg=>absurd (hm.lt hg) (Nat.lt_irrefl _)),fun h=>absurd (hA _ h) (Nat.lt_irrefl _)⟩
theorem aUq {o:Oper} {σ:St} {elem:TypeId} {x:Operand} {av:AV} (ho:o.op=.box elem x) (hx:σ.ev x=av) (h1:∀ c∈av.cells,c.leaf=true):yV P o σ (.adr av.cells):=by
  subst hx
  intro a w p hs hm hA next Q hn
  have hrun:(execOp a.eval o).run P w=.ok (.value (.pointer (some ⟨w.heap.size,0,none⟩))) (w.alloc (.cells (a.eval x).cells elem)):=by
    simp [execOp,ho,Instr.box,newVar,newRow]
  unfold Oper.wp
  rw[hrun]
  have hg:=Grow.alloc w (.cells (a.eval x).cells elem)
  have hk:=hg.keeps hm
  refine hn _ _ hg ?_
  obtain ⟨hl,hc⟩:=((dW hs x).keep hk).cells (fun c hc=>AV.one_of_leaf (h1 c hc))
  refine .adr _ w.heap.size 0 (fun i=>((a.eval x).cells[i]?).getD undef) (aE9 hm hA _) h1 (fun i c hi=>?_) (fun i c hi=>?_)
  · obtain ⟨u,hu,hr⟩:=hc i c hi
    rw[Nat.zero_add,iP (heap_alloc_new w _),hu]; rfl
  · obtain ⟨u,hu,hr⟩:=hc i c hi
    rw[hu]; exact hr
theorem aBs {o:Oper} {σ:St} {t e k by_ len:Nat} {parts:List (Nat×Operand)} {xs:List (List AV)} (ho:o.op=.buildSlice t len parts.toArray)
    (ht:appT? P t=some (e,k,by_)) (hidx:parts.map (·.1)=List.range len) (hbig:len*k≤2 ^ 24)
    (hxs:(parts.map fun x=>(σ.ev x.2).cells)=xs) (hx:∀ x∈xs,x.length=k∧∀ c∈x,c.leaf=true):yV P o σ (.sl k xs):=by
  intro a w p hs hm hA next Q hn
  obtain ⟨he,hk,hk0,i,z,hi,hz,_,_,hzc⟩:=appT?_inv ht
  have hz1:(zeroValue e).run P w=.ok z w:=by simp [zeroValue,typeInfo,hi,hz]
  have hlen:parts.length=len:=by have:=congrArg List.length hidx; simpa using this
  let z0:Array Value:=if len*k=0 then #[] else z.cells
  let init:Array Value:=(Array.range (len*k)).map (fun i=>z0[i % z0.size]!)
  have hinit:init.size=len*k:=by simp [init]
  have hxs':∀ x∈(parts.map fun x=>(x.1,σ.ev x.2)),x.2.cells.length=k:=by
    intro x hx'
    simp only[List.mem_map] at hx'
    obtain ⟨y,hy,rfl⟩:=hx'
    exact(hx _ (hxs ▸ List.mem_map.2 ⟨y,hy,rfl⟩)).1
  have hfill:∃ cells',Instr.fill (fun i=>some (i*k,k)) init (parts.map fun x=>(x.1,a.eval x.2))=some cells'∧RelL w p xs.flatten cells'.toList:=by
    refine aGo hs _ parts (init.toList.map .s) _ init ⟨by simp,fun i c v hc hv=>?_⟩ (fun x hx' c hc=>AV.one_of_leaf ((hx _ (hxs ▸ List.mem_map.2 ⟨x,hx',rfl⟩)).2 c hc)) ?_
    · simp only[List.getElem?_map,hv,Option.map_some,Option.some.injEq] at hc
      subst hc; exact .s v
    · have:=aCi (k:=k) (parts.map fun x=>(x.1,σ.ev x.2)) 0 (init.toList.map .s) (by simpa [List.map_map,Function.comp_def,hlen,List.range_eq_range'] using hidx) hxs' (by simp [hlen,hinit])
      rw[this]
      simp only[Nat.zero_mul,List.take_zero,List.nil_append,Nat.zero_add,List.length_map,hlen]
      rw[List.drop_eq_nil_of_le (by simp [hinit]),List.append_nil,← hxs,List.map_map]
      rfl
  have hsz:xs.length=len:=by rw[← hxs]; simpa using hlen
  have hall:∀ x∈xs,x.length=k:=fun x h=>(hx x h).1
  obtain ⟨cells',hc1,hc2⟩:=hfill
  have hrun:(execOp a.eval o).run P w=.ok (.value (.slice (some ⟨w.heap.size,0,none⟩) len len)) (w.alloc (.cells cells' e)):=by
    simp only[execOp,ho,Instr.buildSlice]
    by_cases h0:len*k=0
    · simp [Sem.run_bind,run_underlying (elem?_inv he),eI hk,h0,newRow]
      have:init=#[]:=by apply Array.eq_empty_of_size_eq_zero; rw[hinit,h0]
      rw[this] at hc1
      rw[show Array.map (fun _=>(default:Value)) (Array.range 0)=#[] from (by apply Array.eq_empty_of_size_eq_zero; simp),hc1]; simp
    · have hng:¬ (16777216<len*k):=by omega
      simp [Sem.run_bind,run_underlying (elem?_inv he),eI hk,h0,hz1,hng,newRow]
      have:init=Array.map (fun i=>z.cells[i % z.cells.size]!) (Array.range (len*k)):=by simp [init,z0,h0]
      rw[this] at hc1
      rw[hc1]; simp
  unfold Oper.wp
  rw[hrun]
  have hg:=Grow.alloc w (.cells cells' e)
  have hkp:=hg.keeps hm
  refine hn _ _ hg ?_
  have hcs:cells'.size=len*k:=by have:=hc2.1; rw[oB hall,hsz] at this; simpa using this.symm
  have hmax:len≤maxLen:=by
    have:len≤len*k:=Nat.le_mul_of_pos_right _ hk0
    unfold maxLen; omega
  have key:=RelV.slc (w:=w.alloc (.cells cells' e)) (p:=p) k xs w.heap.size 0 len (fun j i=>(cells'[j*k+i]?).getD undef) (aE9 hm hA _) (by omega) hmax hx
    (fun j x i c hj hi=>by
      have hfl:=sL hall hj hi
      have hlt:j*k+i<cells'.size:=by
        have:=(List.getElem?_eq_some_iff.1 hfl).1
        rw[hc2.1] at this; simpa using this
      rw[Nat.zero_add,iP (heap_alloc_new w _)]
      simp [hlt])
    (fun j x i c hj hi=>by
      have hfl:=sL hall hj hi
      have hlt:j*k+i<cells'.size:=by
        have:=(List.getElem?_eq_some_iff.1 hfl).1
        rw[hc2.1] at this; simpa using this
      have:=(hc2.2 _ c cells'[j*k+i] hfl (by simp [hlt])).keep hkp
      simpa [hlt] using this)
  rwa [hsz] at key
theorem aMt {o:Oper} {σ:St} {fo:Operand} {xs:List Operand} {ts:Array TypeId} {f:Nat} {cap:List AV} {r:AV} (ho:o.op=.call { callee:=.value fo,args:=xs.toArray,argTypes:=ts })
    (hent:∀ args w,(callFunc f args).run P w=.ok (.enter f args) w) (hfo:σ.ev fo=.fn f cap) (hcl:∀ a∈xs.map σ.ev++cap,a.clean (fun _=>false)=true)
    (hden:Den P f (xs.map σ.ev++cap) (·=r)):yV P o σ r:=by
  intro a w p hs hm hA0 next Q' hn
  obtain ⟨vals,hrun,hrel⟩:=rT (P:=P) ho hent hs hfo
  unfold Oper.wp
  rw[hrun]
  simp only[Oper.upon]
  have hA:∀ b,p.all b→b<w.heap.size:=fun b hb=>by
    rcases hb with hb | ⟨g,hg⟩
    · exact hA0 b hb
    · exact hm.lt hg
  refine(hden p.all w vals hA ⟨hrel.1,fun i c v hc hv=>(hrel.2 i c v hc hv).move (ok:=fun _=>false) (fun b hb=>⟨⟨hb.1,(fun _ h=>by cases h),?_⟩,rfl⟩) (fun _ _ h=>by cases h) (hcl c (List.mem_of_getElem? hc))⟩).mono ?_
  · rintro (h | ⟨g,hg⟩)
    · exact hb.2.2 h
    · exact hb.2.1 g hg
  · rintro e w' ⟨v,r',rfl,rfl,hE',hr⟩
    refine hn _ _ ⟨hE'.os,hE'.tape,hE'.output,hE'.size,fun b hb=>?_⟩ ?_
    · by_cases hA':p.all b
      · exact hE'.others b hb hA'
      · exact(hE'.stab b ⟨hb,(fun g h=>by cases h),hA'⟩).2
    · exact hr.move (p:=iB p.all) (q:=p) (ok:=fun _=>true) (fun b (hb:Stable w' (iB p.all) b)=>⟨⟨hb.1,fun g hg=>hb.2.2 (Or.inr ⟨g,hg⟩:p.all b),fun h=>hb.2.2 (Or.inl h:p.all b)⟩,rfl⟩) (fun _ _ _ h=>by cases h) (AV.clean_true _)
theorem aMs {o:Oper} {σ:St} {fo:Operand} {xs:List Operand} {ts:Array TypeId} {f:Nat} {cap:List AV} {r:AV} (ho:o.op=.call { callee:=.value fo,args:=xs.toArray,argTypes:=ts })
    (hent:∀ args w,(callFunc f args).run P w=.ok (.enter f args) w) (hfo:σ.ev fo=.fn f cap)
    (hden:Den P f ((xs.map σ.ev++cap).map (AV.conv σ.mem)) (·=r)) (hfl:r.flat=true):yV P o σ r:=by
  intro a w p hs hm hA next Q' hn
  obtain ⟨vals,hrun,hrel⟩:=rT (P:=P) ho hent hs hfo
  unfold Oper.wp
  rw[hrun]
  simp only[Oper.upon]
  refine(hden p.A w vals hA ⟨by simpa using hrel.1,fun i c v hc hv=>?_⟩).mono ?_
  · rw[List.getElem?_map] at hc
    cases hi:(xs.map σ.ev++cap)[i]? with
    | none=>simp [hi] at hc
    | some c'=>simp [hi] at hc; subst hc; exact(hrel.2 i c' v hi hv).conv hm
  · rintro e w' ⟨v,r',rfl,rfl,hE',hr⟩
    refine hn _ _ ⟨hE'.os,hE'.tape,hE'.output,hE'.size,fun b hb=>?_⟩ (hr.flat _ _ hfl)
    by_cases hA':p.A b
    · exact hE'.others b hb hA'
    · exact(hE'.stab b ⟨hb,(fun g h=>by cases h),hA'⟩).2
section
variable {ops:Array Oper} {rest:List Oper} {n d ty:Nat} {ps:String} {af:Array Edge} {gd:Option (Nat×Bool)} {sl:List (Nat×AV)} {m:Mem} {Q:Exit→St→Prop}
theorem cE {t:Nat} {x:Operand} {av:AV} {cs:List AV} (hx:ev sl x=some av) (hc:av.cells=cs) (h1:∀ c∈cs,c.leaf=true):yV P ⟨some d,.box t x,ty,ps,af,gd⟩ ⟨n,sl,m⟩ (.adr cs) :=
  hc ▸ aUq rfl (cR hx) (hc ▸ h1)
theorem aS {t e k by_ len:Nat} {parts:List (Nat×Operand)} {ps':List (Nat×AV)} {xs:List (List AV)} (ht:appT? P t=some (e,k,by_)) (hps:evp sl parts=some ps') (hidx:ps'.map (·.1)=List.range len) (hbig:Nat.ble (len*k) 16777216=true)
    (hxs:(ps'.map fun x=>x.2.cells)=xs) (hx:∀ x∈xs,x.length=k∧∀ c∈x,c.leaf=true):yV P ⟨some d,.buildSlice t len parts.toArray,ty,ps,af,gd⟩ ⟨n,sl,m⟩ (.sl k xs):=by
  have h:=aGp (n:=n) (m:=m) hps
  refine aBs rfl ht ?_ (Nat.le_of_ble_eq_true hbig) ?_ hx
  · rw[← h] at hidx; simpa [List.map_map,Function.comp_def] using hidx
  · rw[← h] at hxs; simpa [List.map_map,Function.comp_def] using hxs
theorem aK {fo:Operand} {xs:List Operand} {ts:Array TypeId} {f:Nat} {cap args:List AV} {r:AV} (hfo:ev sl fo=some (.fn f cap)) (hargs:evs sl cap xs=some args)
    (hent:∀ args w,(callFunc f args).run P w=.ok (.enter f args) w) (hcl:cleanL (fun _=>false) args=true) (hden:Den P f args (·=r)):yV P ⟨some d,.call { callee:=.value fo,args:=xs.toArray,argTypes:=ts },ty,ps,af,gd⟩ ⟨n,sl,m⟩ r:=by
  have h:=uQ (n:=n) (m:=m) hargs
  exact aMt rfl hent (cR hfo) (fun a ha=>mW (h ▸ hcl) a ha) (h ▸ hden)
theorem sG {fo:Operand} {xs:List Operand} {ts:Array TypeId} {f:Nat} {cap args args':List AV} {r:AV} (hfo:ev sl fo=some (.fn f cap)) (hargs:evs sl cap xs=some args) (hconv:convL m args=args')
    (hent:∀ args w,(callFunc f args).run P w=.ok (.enter f args) w) (hden:Den P f args' (·=r)) (hfl:r.flat=true):yV P ⟨some d,.call { callee:=.value fo,args:=xs.toArray,argTypes:=ts },ty,ps,af,gd⟩ ⟨n,sl,m⟩ r:=by
  have h:=uQ (n:=n) (m:=m) hargs
  exact aMs rfl hent (cR hfo) (by rw[h,← wV,hconv]; exact hden) hfl
theorem aI {op:Op} {av:AV} (hf:Fit w0 p0) (hd:lt d n=true) (h:yV P ⟨some d,op,ty,ps,af,none⟩ ⟨n,sl,m⟩ av) (hk:fL P w0 p0 ops rest ⟨n,(d,av)::sl,m⟩ Q) :
    fL P w0 p0 ops (⟨some d,op,ty,ps,af,none⟩::rest) ⟨n,sl,m⟩ Q:=by
  refine gD rfl ?_
  intro a w next Q' ⟨h1,h2,p,hE,hs,hm⟩ hn
  refine h a w p hs hm (fun b hb=>Nat.lt_of_lt_of_le (hf.others b (hE.A ▸ hb)) hE.size) _ _ fun v w' hg hv=>?_
  refine hn _ _ _ hk ?_
  have hkp:=hg.keeps hm
  exact⟨h1,by simpa [Act.put] using h2,p,hE.step hkp hg.os hg.tape hg.output hg.size rfl (fun b hb _=>hg.heap b hb) (fun g h1 h2=>absurd h1 h2),(hs.keep hkp).put (by rw[h2]; exact pU hd) hv,
    ⟨hm.dom,fun g m hl=>(hm.holds g m hl).keep hkp fun b hb=>hg.heap b (hm.lt hb),hm.inj,hm.avoid⟩⟩
theorem bJ {K:FS→Prop} {op:Op} {av:AV} {gd:Option (Nat×Bool)} (L:List (Nat×AV)) (hd:lt d n=true) (hw:lD ops ⟨some d,op,ty,ps,af,gd⟩ (fsl sl)=some true) (hL:aB4 (Oper.looksAt ops ⟨some d,op,ty,ps,af,gd⟩) sl L) (hnb:mD L=true)
    (h:yV P ⟨some d,op,ty,ps,af,gd⟩ ⟨n,L,m⟩ av) (hk:rN P ops n m K rest (fsl ((d,av)::sl))):rN P ops n m K (⟨some d,op,ty,ps,af,gd⟩::rest) (fsl sl):=by
  refine aXw rfl hd hw (fun act w p hn hs hm hA next Q hnx=>h act w p (fun t b hb=>?_) hm hA next Q hnx) hk
  have hcov:∀ l,aB4 (Oper.looksAt ops ⟨some d,op,ty,ps,af,gd⟩) sl l→kP (fun t=>if t∈Oper.looksAt ops ⟨some d,op,ty,ps,af,gd⟩ then some (fsl sl t) else none) l:=by
    intro l
    induction l with
    | nil=>exact fun _=>trivial
    | cons x r ih=>exact fun h=>⟨by simp only; rw[if_pos (aK5 h.1.1)]; simp [fsl,h.1.2],ih h.2⟩
  have h1:=nG (hcov _ hL) t b hb
  split at h1
  · rename_i hmem
    cases h1
    rcases hs t hmem with h2 | h2
    · rw[h2] at hb; exact absurd hb (rK hnb t)
    · exact h2
  · cases h1
end
end Go.Abs
set_option linter.unusedVariables false
set_option linter.unusedSimpArgs false
namespace Go.Abs
open Go Go.RowKit
variable {P:Program} {w0:World} {p0:Hp}
theorem aLu {ops:Array Oper} {o:Oper} {rest:List Oper} {σ:St} {Q:Exit→St→Prop} {j:Nat} {b:Bool} {d:Nat} (hg:o.guard=some (j,b))
    (hj:(ops[j]?).bind (·.dst)=some d) (hd:bL σ.slots d=some (.s undef)) (hdst:∀ x,o.dst=some x→x<σ.n)
    (h2:fL P w0 p0 ops rest (σ.putO o.dst (.s undef)) Q):fL P w0 p0 ops (o::rest) σ Q:=by
  intro a w hr
  have hy:yielded ops a.tmps j=none:=by
    obtain ⟨_,_,p,_,hs,_⟩:=hr
    obtain ⟨v,hv1,hv2⟩:=hs d _ hd
    cases hv2
    simp [yielded,hj,hv1,undef]
  refine wpList_step fun K hK=>?_
  have hw:¬ Region.wanted o (yielded ops a.tmps)=true:=by simp [Region.wanted,hg,hy]
  rw[if_neg hw]
  exact hK _ _ (h2 _ w (hr.putO o.dst hdst _ _ fun _ _ _ _=>.s _))
section
variable {n:Nat} {sl:List (Nat×AV)} {m:Mem} {ops:Array Oper} {rest:List Oper} {Q:Exit→St→Prop} {d ty:Nat} {ps:String} {af:Array Edge}
theorem dI {op:Op} {j g:Nat} {b:Bool} (hg:(ops[j]?).bind (·.dst)=some g) (hb:lk sl g=some (.s undef)) (hd:lt d n=true)
    (hk:fL P w0 p0 ops rest ⟨n,(d,.s undef)::sl,m⟩ Q):fL P w0 p0 ops (⟨some d,op,ty,ps,af,some (j,b)⟩::rest) ⟨n,sl,m⟩ Q :=
  aLu rfl hg (by rw[← lL]; exact hb) (uR hd) hk
end
def fE (x:Option Nat) (A:Nat→Prop):Hp:={ o:=fun g=>if g=E0 then some x else none,A:=A }
theorem iA {x:Option Nat} {A:Nat→Prop} {g:Nat} {y:Option Nat} (h:(fE x A).o g=some y):g=E0∧x=y:=by
  simp only[fE] at h
  split at h
  · rename_i e; cases h; exact⟨e,rfl⟩
  · cases h
theorem eN (x:Option Nat) (A:Nat→Prop):(fE x A).o E0=some x:=by simp [fE]
def DenM (P:Program) (f:Nat) (args:List AV) (k:Nat) (xs:List (List AV)) (Q:AV→List (List AV)→Prop):Prop :=
  ∀ (A:Nat→Prop) (w:World) (x:Option Nat) (vals:List Value),(∀ b,A b→b<w.heap.size)→(∀ b,x=some b→¬ A b)→RelL w (fE x A) args vals→AMRel w (fE x A) E0 (.buf k xs) →
    Calls P f vals.toArray w (fun e w'=>∃ v r ys,e=.returned v∧Q r ys∧Ext w (fE x A) w' (fE x A)∧AMRel w' (fE x A) E0 (.buf k ys)∧RelV w' (fE x A) r v)
theorem DenM.mono {f:Nat} {args:List AV} {k:Nat} {xs:List (List AV)} {Q Q':AV→List (List AV)→Prop} (h:DenM P f args k xs Q) (hq:∀ r ys,Q r ys→Q' r ys):DenM P f args k xs Q' :=
  fun A w x vals hA hx hr hm=>(h A w x vals hA hx hr hm).mono fun _ _ ⟨v,r,ys,h1,h2,h3⟩=>⟨v,r,ys,h1,hq r ys h2,h3⟩
def retM (P:Program) (fn:Func) (k:Nat) (Q:AV→List (List AV)→Prop):Exit→St→Prop
  | .ret,σ=>∃ σ' r ys,Le σ σ'∧σ'.mem=[(E0,.buf k ys)]∧zU P fn σ'=some r∧Q r ys
  | .normal,σ=>∃ σ' r ys,Le σ σ'∧σ'.mem=[(E0,.buf k ys)]∧zU P fn σ'=some r∧Q r ys
  | _,_=>False
theorem aC3 {w:World} {x:Option Nat} {A:Nat→Prop} {k:Nat} {xs:List (List AV)} (hx:∀ b,x=some b→¬ A b) (hm:AMRel w (fE x A) E0 (.buf k xs)):MemRel w (fE x A) [(E0,.buf k xs)]:=by
  refine⟨fun g hl=>?_,fun g m hl=>?_,fun g g' b h1 h2=>?_,fun g b h=>?_⟩
  · simp only[bL] at hl
    split at hl
    · cases hl
    · rename_i hne; simp [fE]; exact fun e=>hne e.symm
  · simp only[bL] at hl
    split at hl
    · rename_i e; subst e; cases hl; exact hm
    · cases hl
  · exact(iA h1).1.trans (iA h2).1.symm
  · exact hx b (iA h).2
theorem iK {f:Nat} {fn:Func} {c:Code} {args:List AV} {k:Nat} {xs:List (List AV)} {Q:AV→List (List AV)→Prop} (hf:P.funcs[f]?=some fn) (hb:fn.body=some c) (hn:args.length≤fn.ntmps)
    (h:∀ w0 x A,Fit w0 (fE x A)→AW P w0 (fE x A) c ⟨fn.ntmps,iD 0 args,[(E0,.buf k xs)]⟩ (retM P fn k Q)):DenM P f args k xs Q:=by
  intro A w x vals hA hx hr hbuf
  refine calls_of_wp hf hb ?_
  have hfit:Fit w (fE x A):=⟨fun g hg=>by simp [fE]; omega,hA⟩
  have hrel:Rel w (fE x A) ⟨fn.ntmps,iD 0 args,[(E0,.buf k xs)]⟩ { tmps:=vals.toArray++Array.replicate (fn.ntmps - vals.toArray.size) undef,defers:=[] } w:=by
    refine⟨rfl,by have:=hr.1; simp; omega,fE x A,Ext.refl _ _,fun t a ht=>?_,aC3 hx hbuf⟩
    obtain ⟨_,ht⟩:=jW args 0 t a ht
    simp only[Nat.sub_zero] at ht
    have hlt:t<vals.length:=by rw[← hr.1]; exact(List.getElem?_eq_some_iff.1 ht).1
    exact⟨vals[t],by rw[Array.getElem?_append_left (by simpa using hlt)]; simp [hlt],hr.2 t a _ ht (by simp [hlt])⟩
  refine wp_mono (h w x A hfit _ w hrel) ?_
  rintro e a' w' ⟨σ',hq,hrel'⟩
  have fin:(∃ σ'' r ys,Le σ' σ''∧σ''.mem=[(E0,.buf k ys)]∧zU P fn σ''=some r∧Q r ys)→a'.defers=[]∧∃ v,(results fn a'.tmps).run P w'=.ok v w'∧∃ v' r ys,Ending.returned v=.returned v'∧Q r ys∧Ext w (fE x A) w' (fE x A)∧AMRel w' (fE x A) E0 (.buf k ys)∧RelV w' (fE x A) r v':=by
    rintro ⟨σ'',r,ys,hle,hmem,hres,hQ⟩
    obtain ⟨h1,h2,p,hE,hs,hm⟩:=hle _ _ _ _ hrel'
    obtain ⟨v,hv,hrv⟩:=wX hs hm r hres
    have hE0:bL σ''.mem E0=some (.buf k ys):=by rw[hmem]; simp [bL]
    have hpE:p.o E0=some x:=by
      rcases hE.name E0 x (eN x A) with h | h
      · exfalso
        rcases hm.holds E0 _ hE0 with h' | ⟨b,cur,T,h',_⟩
        · rw[h] at h'; exact absurd h'.2 (by simp)
        · rw[h] at h'; cases h'
      · exact h.1
    have hp:p=fE x A:=by
      have ho:p.o=(fE x A).o:=by
        funext g
        by_cases hg:g=E0
        · subst hg; rw[hpE,eN]
        · rw[hm.dom g (by rw[hmem]; simp [bL]; exact fun e=>hg e.symm)]; simp [fE,hg]
      have hA':p.A=A:=hE.A
      cases p; simp only at ho hA'; subst ho; subst hA'; rfl
    subst hp
    exact⟨h1,v,hv,v,r,ys,rfl,hQ,hE,hm.holds E0 _ hE0,hrv⟩
  cases e with
  | normal=>exact fin hq
  | ret=>exact fin hq
  | _=>exact hq.elim
def AV.toE (g:Nat):AV→AV
  | .own g' k off n=>if g'=g then .own E0 k off n else .bad
  | a=>if a.clean (fun _=>false) then a else .bad
def AV.fromE (g:Nat):AV→AV
  | .own g' k off n=>if g'=E0 then .own g k off n else .bad
  | a=>if a.clean (fun _=>false) then a else .bad
def Hp.but (p:Hp) (g:Nat):Nat→Prop:=fun b=>p.A b∨∃ g',g'≠g∧p.o g'=some (some b)
theorem aFa {w:World} {p:Hp} {g:Nat} {x:Option Nat} (hx:p.o g=some x) {b:Nat} (h:Stable w (fE x (p.but g)) b):Stable w p b:=by
  refine⟨h.1,fun g' hg'=>?_,fun hA=>h.2.2 (.inl hA)⟩
  by_cases e:g'=g
  · subst e; rw[hx] at hg'; cases hg'; exact h.2.1 E0 (eN _ _)
  · exact h.2.2 (.inr ⟨g',e,hg'⟩)
theorem zT {w:World} {p:Hp} {g:Nat} {x:Option Nat} (hx:p.o g=some x) {b:Nat} (h:Stable w p b):Stable w (fE x (p.but g)) b:=by
  refine⟨h.1,fun g' hg'=>?_,?_⟩
  · have:=(iA hg').2; subst this; exact h.2.1 g hx
  · rintro (hA | ⟨g',_,hg'⟩)
    · exact h.2.2 hA
    · exact h.2.1 g' hg'
theorem RelV.toE {w:World} {p:Hp} {g:Nat} {x:Option Nat} (hx:p.o g=some x) {a:AV} {v:Value} (h:RelV w p a v):RelV w (fE x (p.but g)) (a.toE g) v:=by
  have hc:∀ {a:AV} {v:Value},RelV w p a v→RelV w (fE x (p.but g)) (if a.clean (fun _=>false) then a else .bad) v:=by
    intro a v h
    split
    · rename_i hc; exact h.move (ok:=fun _=>false) (fun b hb=>⟨zT hx hb,rfl⟩) (fun _ _ h _=>by cases h) hc
    · exact .bad v
  cases h with
  | ownn g' k hg =>
    simp only[AV.toE]; split
    · rename_i e; subst e; rw[hx] at hg; cases hg; exact .ownn _ _ (eN _ _)
    · exact .bad _
  | own g' k off n b cap cur T hg h1 h2 h3 h4 =>
    simp only[AV.toE]; split
    · rename_i e; subst e; rw[hx] at hg; cases hg; exact .own _ _ _ _ _ _ _ _ (eN _ _) h1 h2 h3 h4
    · exact .bad _
  | own0 g' k off b a hg =>
    simp only[AV.toE]; split
    · rename_i e; subst e; rw[hx] at hg; cases hg; exact .own0 _ _ _ _ _ (eN _ _)
    · exact .bad _
  | s v=>exact hc (.s v)
  | agg cs vs hl h=>exact hc (.agg cs vs hl h)
  | tup cs vs hl h=>exact hc (.tup cs vs hl h)
  | sln k a cap hcap=>exact hc (.sln k a cap hcap)
  | slc k xs b off cap f hb hn hcap hk hcc hr=>exact hc (.slc k xs b off cap f hb hn hcap hk hcc hr)
  | adr cs b off f hb hk hcc hr=>exact hc (.adr cs b off f hb hk hcc hr)
  | ref g' k j f b hg=>exact hc (.ref g' k j f b hg)
  | fn f cs vs hl h=>exact hc (.fn f cs vs hl h)
  | bad v=>exact .bad v
theorem RelV.fromE {w:World} {p:Hp} {g:Nat} {x:Option Nat} (hx:p.o g=some x) {a:AV} {v:Value} (h:RelV w (fE x (p.but g)) a v):RelV w p (a.fromE g) v:=by
  have hc:∀ {a:AV} {v:Value},RelV w (fE x (p.but g)) a v→RelV w p (if a.clean (fun _=>false) then a else .bad) v:=by
    intro a v h
    split
    · rename_i hc; exact h.move (ok:=fun _=>false) (fun b hb=>⟨aFa hx hb,rfl⟩) (fun _ _ h _=>by cases h) hc
    · exact .bad v
  cases h with
  | ownn g' k hg =>
    obtain ⟨e,e'⟩:=iA hg; subst e; subst e'
    simp only[AV.fromE,if_pos]; exact .ownn _ _ hx
  | own g' k off n b cap cur T hg h1 h2 h3 h4 =>
    obtain ⟨e,e'⟩:=iA hg; subst e; subst e'
    simp only[AV.fromE,if_pos]; exact .own _ _ _ _ _ _ _ _ hx h1 h2 h3 h4
  | own0 g' k off b a hg =>
    obtain ⟨e,e'⟩:=iA hg; subst e; subst e'
    simp only[AV.fromE,if_pos]; exact .own0 _ _ _ _ _ hx
  | s v=>exact hc (.s v)
  | agg cs vs hl h=>exact hc (.agg cs vs hl h)
  | tup cs vs hl h=>exact hc (.tup cs vs hl h)
  | sln k a cap hcap=>exact hc (.sln k a cap hcap)
  | slc k xs b off cap f hb hn hcap hk hcc hr=>exact hc (.slc k xs b off cap f hb hn hcap hk hcc hr)
  | adr cs b off f hb hk hcc hr=>exact hc (.adr cs b off f hb hk hcc hr)
  | ref g' k j f b hg=>exact hc (.ref g' k j f b hg)
  | fn f cs vs hl h=>exact hc (.fn f cs vs hl h)
  | bad v=>exact .bad v
theorem AMRel.toE {w:World} {p:Hp} {g k:Nat} {xs:List (List AV)} {x:Option Nat} (hx:p.o g=some x) (h:AMRel w p g (.buf k xs)):AMRel w (fE x (p.but g)) E0 (.buf k xs):=by
  rcases h with ⟨h1,h2⟩ | ⟨b,cur,T,h1,h2,h3,h4,h5⟩
  · rw[hx] at h2; cases h2; exact .inl ⟨h1,eN _ _⟩
  · rw[hx] at h1; cases h1
    refine .inr ⟨b,cur,T,eN _ _,h2,h3,h4,fun j y i c hy hc=>?_⟩
    obtain ⟨v,hv,hr⟩:=h5 j y i c hy hc
    exact⟨v,hv,hr.move (ok:=fun _=>false) (fun b hb=>⟨zT hx hb,rfl⟩) (fun _ _ h _=>by cases h) (AV.clean_of_leaf ((h4 y (List.mem_of_getElem? hy)).2 c (List.mem_of_getElem? hc)))⟩
theorem AMRel.fromE {w:World} {p:Hp} {g k:Nat} {xs:List (List AV)} {x:Option Nat} (hx:p.o g=some x) (h:AMRel w (fE x (p.but g)) E0 (.buf k xs)):AMRel w p g (.buf k xs):=by
  rcases h with ⟨h1,h2⟩ | ⟨b,cur,T,h1,h2,h3,h4,h5⟩
  · have:=(iA h2).2; subst this; exact .inl ⟨h1,hx⟩
  · have:=(iA h1).2; subst this
    refine .inr ⟨b,cur,T,hx,h2,h3,h4,fun j y i c hy hc=>?_⟩
    obtain ⟨v,hv,hr⟩:=h5 j y i c hy hc
    exact⟨v,hv,hr.move (ok:=fun _=>false) (fun b hb=>⟨aFa hx hb,rfl⟩) (fun _ _ h _=>by cases h) (AV.clean_of_leaf ((h4 y (List.mem_of_getElem? hy)).2 c (List.mem_of_getElem? hc)))⟩
theorem aV4 {o:Oper} {σ:St} {K:St→Prop} (hf:Fit w0 p0) {fo:Operand} {xs:List Operand} {ts:Array TypeId} {f g k:Nat} {cap args:List AV} {ys:List (List AV)} {Q:AV→List (List AV)→Prop}
    (ho:o.op=.call { callee:=.value fo,args:=xs.toArray,argTypes:=ts })
    (hent:∀ args w,(callFunc f args).run P w=.ok (.enter f args) w) (hd:∀ x,o.dst=some x→x<σ.n) (hfo:σ.ev fo=.fn f cap) (hg:bL σ.mem g=some (.buf k ys)) (hargs:(xs.map σ.ev++cap).map (AV.toE g)=args)
    (hden:DenM P f args k ys Q) (hK:∀ r zs,Q r zs→K ({ σ with mem:=mU g (.buf k zs) σ.mem }.putO o.dst (r.fromE g))):AOp P w0 p0 o σ K:=by
  intro a w next Q' ⟨h1,h2,p,hE,hs,hm⟩ hn
  obtain ⟨vals,hrun,hrel⟩:=rT (P:=P) ho hent hs hfo
  unfold Oper.wp
  rw[hrun]
  simp only[Oper.upon]
  obtain ⟨x,hx⟩:∃ x,p.o g=some x:=by
    rcases hm.holds g _ hg with h | ⟨b,cur,T,h,_⟩
    · exact⟨_,h.2⟩
    · exact⟨_,h⟩
  have hA:∀ b,p.but g b→b<w.heap.size:=fun b hb=>by
    rcases hb with hb | ⟨g',_,hg'⟩
    · exact Nat.lt_of_lt_of_le (hf.others b (hE.A ▸ hb)) hE.size
    · exact hm.lt hg'
  have hxA:∀ b,x=some b→¬ p.but g b:=by
    rintro b rfl (h | ⟨g',h1,h2⟩)
    · exact hm.avoid g b hx h
    · exact h1 (hm.inj g' g b h2 hx)
  refine(hden (p.but g) w x vals hA hxA ?_ ((hm.holds g _ hg).toE hx)).mono ?_
  · rw[← hargs]
    refine⟨by simpa using hrel.1,fun i c v hc hv=>?_⟩
    rw[List.getElem?_map] at hc
    cases hi:(xs.map σ.ev++cap)[i]? with
    | none=>simp [hi] at hc
    | some c'=>simp [hi] at hc; subst hc; exact(hrel.2 i c' v hi hv).toE hx
  · rintro e w' ⟨v,r,zs,rfl,hQ,hE',hb',hr⟩
    have hsame:∀ b,p.but g b→w'.heap[b]?=w.heap[b]?:=fun b hb=>hE'.others b (hA b hb) hb
    have hkeep:Keeps w p w' p:=by
      refine⟨fun b hb=>⟨⟨Nat.lt_of_lt_of_le hb.1 hE'.size,hb.2⟩,(hE'.stab b (zT hx hb)).2⟩,fun _ _ h=>h,fun g' b hg' cur T hh=>?_⟩
      by_cases e:g'=g
      · subst e; rw[hx] at hg'; cases hg'
        rcases hE'.name E0 (some b) (eN _ _) with h | ⟨_,h⟩
        · rw[eN] at h; cases h
        · exact h b rfl cur T hh
      · exact⟨cur,by rw[hsame b (.inr ⟨g',e,hg'⟩)]; exact hh,rfl⟩
    have hE2:Ext w0 p0 w' p:=hE.step hkeep hE'.os hE'.tape hE'.output hE'.size rfl (fun b _ hA=>hsame b (.inl hA)) (fun g h1 h2=>absurd h1 h2)
    have hm':MemRel w' p (mU g (.buf k zs) σ.mem):=by
      refine⟨fun g' hl=>?_,fun g' m' hl=>?_,hm.inj,hm.avoid⟩
      · rw[jE g _ _ (by rw[hg]; rfl)] at hl
        split at hl
        · cases hl
        · exact hm.dom g' hl
      · rw[jE g _ _ (by rw[hg]; rfl)] at hl
        split at hl
        · rename_i e; subst e; cases hl; exact hb'.fromE hx
        · rename_i e
          exact(hm.holds g' m' hl).keep hkeep fun b hb=>hsame b (.inr ⟨g',e,hb⟩)
    have hr':RelV w' p (r.fromE g) v:=hr.fromE hx
    refine hn _ _ _ (hK r zs hQ) ?_
    cases hdd:o.dst with
    | none=>exact⟨h1,h2,p,hE2,hs.keep hkeep,hm'⟩
    | some d=>exact⟨h1,by simpa [Act.put,St.putO,St.put] using h2,p,hE2,(hs.keep hkeep).put (by rw[h2]; exact hd d hdd) hr',hm'⟩
section
variable {n:Nat} {sl:List (Nat×AV)} {m:Mem} {ops:Array Oper} {rest:List Oper} {Q:Exit→St→Prop} {d ty:Nat} {ps:String} {af:Array Edge}
theorem gE (hf:Fit w0 p0) {fo:Operand} {xs:List Operand} {ts:Array TypeId} {f:Nat} (g:Nat) {k:Nat} {cap args args':List AV} {ys:List (List AV)} {R:AV→List (List AV)→Prop} (hd:lt d n=true) (hfo:ev sl fo=some (.fn f cap)) (hargs:evs sl cap xs=some args)
    (hg:lk m g=some (.buf k ys)) (hto:args.map (AV.toE g)=args')
    (hent:∀ args w,(callFunc f args).run P w=.ok (.enter f args) w) (hden:DenM P f args' k ys R) (hk:∀ r zs,R r zs→fL P w0 p0 ops rest ⟨n,(d,r.fromE g)::sl,mU g (.buf k zs) m⟩ Q) :
    fL P w0 p0 ops (⟨some d,.call { callee:=.value fo,args:=xs.toArray,argTypes:=ts },ty,ps,af,none⟩::rest) ⟨n,sl,m⟩ Q :=
  gD rfl (aV4 hf rfl hent (uR hd) (cR hfo) (by rw[← lL]; exact hg) (by rw[uQ hargs]; exact hto) hden hk)
end
end Go.Abs
set_option linter.unusedVariables false
set_option linter.unusedSimpArgs false
namespace Go.Abs
open Go Go.RowKit
variable {P:Program} {w0:World} {p0:Hp}
theorem aEb (d:Nat) {t e:Nat} (ht:elem? P t=some e) (a:Option Addr) (n c:Nat) (w:World):(Op.equalIn (d+1) t (.slice a n c) (.slice none 0 0)).run P w=.ok a.isNone w:=by
  cases a <;> simp [Op.equalIn,run_underlying (elem?_inv ht)]
theorem aH0 {t e:Nat} (ht:elem? P t=some e) (a:Option Addr) (n c:Nat) (w:World):(Op.equal t (.slice a n c) (.slice none 0 0)).run P w=.ok a.isNone w :=
  aEb 9999 ht a n c w
theorem aVz {o:Oper} {σ:St} {K:St→Prop} {t e yt:TypeId} {x y:Operand} (ho:o.op=.binOp .eql t x y yt) (hd:∀ x,o.dst=some x→x<σ.n) (ht:elem? P t=some e) (hy:σ.ev y=.s (.slice none 0 0))
    {R:Bool→Prop} (hx:∀ (w:World) (p:Hp) v,RelV w p (σ.ev x) v→∃ a n c,v=.slice a n c∧R a.isNone) (hK:∀ b,R b→K (σ.putO o.dst (.s (.bool b)))):AOp P w0 p0 o σ K:=by
  intro a w next Q hr hn
  obtain ⟨h1,h2,p,hE,hs,hm⟩:=hr
  obtain ⟨ad,n,c,hv,hR⟩:=hx w p _ (dW (a:=a) hs x)
  have e2:=oL (act:=a) hs hy
  have hg:Sem.run P (eqGuard .eql t x y (.slice ad n c) (.slice none 0 0)) w=.ok () w:=by
    simp [eqGuard,Program.eqGuardType,elem?_inv ht]
  have hrun:(execOp a.eval o).run P w=.ok (.value (.bool ad.isNone)) w:=by
    simp only[execOp,ho,hv,e2]
    simp [hg,binOp,aH0 ht]
  unfold Oper.wp
  rw[hrun]
  simp only[Oper.upon]
  exact hn _ _ _ (hK _ hR) (Rel.putO ⟨h1,h2,p,hE,hs,hm⟩ o.dst hd _ _ fun _ _ _ _=>.s _)
section
variable {n:Nat} {sl:List (Nat×AV)} {m:Mem} {ops:Array Oper} {rest:List Oper} {Q:Exit→St→Prop} {d ty:Nat} {ps:String} {af:Array Edge}
theorem oN {t e yt k:Nat} {x y:Operand} {xs:List (List AV)} (hd:lt d n=true) (hx:ev sl x=some (.sl k xs)) (hy:ev sl y=some (.s (.slice none 0 0))) (ht:elem? P t=some e)
    (hk:∀ b:Bool,(b=true→xs=[])→fL P w0 p0 ops rest ⟨n,(d,.s (.bool b))::sl,m⟩ Q):fL P w0 p0 ops (⟨some d,.binOp .eql t x y yt,ty,ps,af,none⟩::rest) ⟨n,sl,m⟩ Q :=
  gD rfl (aVz rfl (uR hd) ht (cR hy) (R:=fun b=>b=true→xs=[]) (fun w p v h=>by
    rw[cR hx] at h
    cases h with
    | sln=>exact⟨_,_,_,rfl,fun _=>rfl⟩
    | slc=>exact⟨_,_,_,rfl,fun h=>by cases h⟩) hk)
theorem yN {k:Nat} {gd:Option (Nat×Bool)}:cH P ⟨some d,.assign (.const (.slice none 0 0)),ty,ps,af,gd⟩ ⟨n,sl,m⟩ (.sl k []) :=
  fun act w p hs _=>⟨.slice none 0 0,by simp [execOp,Act.eval],.sln k none 0 (by simp [maxLen])⟩
end
def DenO (P:Program) (f:Nat) (args:List AV) (k:Nat) (Q:List (List AV)→Prop):Prop :=
  ∀ (A:Nat→Prop) (w:World) (vals:List Value),(∀ b,A b→b<w.heap.size)→RelL w (iB A) args vals →
    Calls P f vals.toArray w (fun e w'=>∃ v ys x,e=.returned v∧Q ys∧(∀ b,x=some b→w.heap.size≤b)∧Ext w (iB A) w' (fE x A)∧AMRel w' (fE x A) E0 (.buf k ys)∧RelV w' (fE x A) (.own E0 k 0 ys.length) v)
theorem DenO.mono {f:Nat} {args:List AV} {k:Nat} {Q Q':List (List AV)→Prop} (h:DenO P f args k Q) (hq:∀ ys,Q ys→Q' ys):DenO P f args k Q' :=
  fun A w vals hA hr=>(h A w vals hA hr).mono fun _ _ ⟨v,ys,x,h1,h2,h3⟩=>⟨v,ys,x,h1,hq ys h2,h3⟩
def retO (P:Program) (fn:Func) (k:Nat) (Q:List (List AV)→Prop):Exit→St→Prop
  | .ret,σ=>∃ g ys,g<E0∧bL σ.mem g=some (.buf k ys)∧zU P fn σ=some (.own g k 0 ys.length)∧Q ys
  | .normal,σ=>∃ g ys,g<E0∧bL σ.mem g=some (.buf k ys)∧zU P fn σ=some (.own g k 0 ys.length)∧Q ys
  | _,_=>False
theorem ext_new {w:World} {A:Nat→Prop} {w':World} {p:Hp} (h:Ext w (iB A) w' p) {g b:Nat} (hg:p.o g=some (some b)) (hA:∀ b,A b→¬ p.o g=some (some b)):w.heap.size≤b:=by
  by_cases hb:b<w.heap.size
  · exfalso
    by_cases hAb:A b
    · exact hA b hAb hg
    · exact(h.stab b ⟨hb,(fun _ h=>by cases h),hAb⟩).1.2.1 g hg
  · omega
theorem gK {f:Nat} {fn:Func} {c:Code} {args:List AV} {k:Nat} {Q:List (List AV)→Prop} (hf:P.funcs[f]?=some fn) (hb:fn.body=some c) (hn:args.length≤fn.ntmps)
    (h:∀ w0 A,Fit w0 (iB A)→AW P w0 (iB A) c ⟨fn.ntmps,iD 0 args,[]⟩ (retO P fn k Q)):DenO P f args k Q:=by
  intro A w vals hA hr
  refine calls_of_wp hf hb ?_
  have hfit:Fit w (iB A):=⟨fun _ _=>rfl,hA⟩
  have hrel:Rel w (iB A) ⟨fn.ntmps,iD 0 args,[]⟩ { tmps:=vals.toArray++Array.replicate (fn.ntmps - vals.toArray.size) undef,defers:=[] } w:=by
    refine⟨rfl,by have:=hr.1; simp; omega,iB A,Ext.refl _ _,fun t a ht=>?_,⟨fun _ _=>rfl,fun g m h=>by simp [bL] at h,(fun g g' b h=>by cases h),(fun g b h=>by cases h)⟩⟩
    obtain ⟨_,ht⟩:=jW args 0 t a ht
    simp only[Nat.sub_zero] at ht
    have hlt:t<vals.length:=by rw[← hr.1]; exact(List.getElem?_eq_some_iff.1 ht).1
    exact⟨vals[t],by rw[Array.getElem?_append_left (by simpa using hlt)]; simp [hlt],hr.2 t a _ ht (by simp [hlt])⟩
  refine wp_mono (h w A hfit _ w hrel) ?_
  rintro e a' w' ⟨σ',hq,h1,h2,p,hE,hs,hm⟩
  have fin:(∃ g ys,g<E0∧bL σ'.mem g=some (.buf k ys)∧zU P fn σ'=some (.own g k 0 ys.length)∧Q ys)→a'.defers=[]∧∃ v,(results fn a'.tmps).run P w'=.ok v w' ∧
      ∃ v' ys x,Ending.returned v=.returned v'∧Q ys∧(∀ b,x=some b→w.heap.size≤b)∧Ext w (iB A) w' (fE x A)∧AMRel w' (fE x A) E0 (.buf k ys)∧RelV w' (fE x A) (.own E0 k 0 ys.length) v':=by
    rintro ⟨g,ys,hgE,hl,hres,hQ⟩
    obtain ⟨v,hv,hrv⟩:=wX hs hm _ hres
    obtain ⟨x,hx⟩:∃ x,p.o g=some x:=by
      rcases hm.holds g _ hl with h | ⟨b,cur,T,h,_⟩
      · exact⟨_,h.2⟩
      · exact⟨_,h⟩
    -- what this call's own other blocks are is forgotten
    have hpA:p.A=A:=hE.A
    have hst:∀ b,Stable w (iB A) b→Stable w' (fE x A) b:=fun b hb=>by
      have h:=(hE.stab b hb).1
      exact⟨h.1,fun g' hg'=>by have:=(iA hg').2; subst this; exact h.2.1 g hx,hpA ▸ h.2.2⟩
    have hmv:∀ b,Stable w' p b→Stable w' (fE x A) b:=fun b hb=>⟨hb.1,fun g' hg'=>by have:=(iA hg').2; subst this; exact hb.2.1 g hx,hpA ▸ hb.2.2⟩
    refine⟨h1,v,hv,v,ys,x,rfl,hQ,?_,?_,?_,?_⟩
    · rintro b rfl
      exact ext_new hE hx fun b' hA' h'=>hm.avoid g b' h' (hpA ▸ hA')
    · exact⟨hE.os,hE.tape,hE.output,hE.size,rfl,fun b hb=>⟨hst b hb,(hE.stab b hb).2⟩,hE.others,fun g' x' h'=>by cases h'⟩
    · rcases hm.holds g _ hl with ⟨e1,e2⟩ | ⟨b,cur,T,h1,h2,h3,h4,h5⟩
      · rw[hx] at e2; cases e2; exact .inl ⟨e1,eN _ _⟩
      · rw[hx] at h1; cases h1
        refine .inr ⟨b,cur,T,eN _ _,h2,h3,h4,fun j y i c hy hc=>?_⟩
        obtain ⟨u,hu,hr⟩:=h5 j y i c hy hc
        exact⟨u,hu,hr.move (ok:=fun _=>false) (fun b hb=>⟨hmv b hb,rfl⟩) (fun _ _ h _=>by cases h) (AV.clean_of_leaf ((h4 y (List.mem_of_getElem? hy)).2 c (List.mem_of_getElem? hc)))⟩
    · generalize ys.length=n at hrv ⊢
      cases hrv with
      | ownn _ _ hg=>rw[hx] at hg; cases hg; exact .ownn _ _ (eN _ _)
      | own _ _ _ _ _ _ _ _ hg e1 e2 e3 e4=>rw[hx] at hg; cases hg; exact .own _ _ _ _ _ _ _ _ (eN _ _) e1 e2 e3 e4
      | own0 _ _ _ _ _ hg=>rw[hx] at hg; cases hg; exact .own0 _ _ _ _ _ (eN _ _)
  cases e with
  | normal=>exact fin hq
  | ret=>exact fin hq
  | _=>exact hq.elim
theorem aV3 {o:Oper} {σ:St} {K:St→Prop} (hf:Fit w0 p0) {fo:Operand} {xs:List Operand} {ts:Array TypeId} {f g k:Nat} {cap args:List AV} {Q:List (List AV)→Prop}
    (ho:o.op=.call { callee:=.value fo,args:=xs.toArray,argTypes:=ts })
    (hent:∀ args w,(callFunc f args).run P w=.ok (.enter f args) w) (hd:∀ x,o.dst=some x→x<σ.n) (hfo:σ.ev fo=.fn f cap) (hargs:xs.map σ.ev++cap=args) (hcl:cleanL (fun _=>false) args=true) (hg:σ.fresh g)
    (hden:DenO P f args k Q) (hK:∀ zs,Q zs→K ({ σ with mem:=(g,.buf k zs)::σ.mem }.putO o.dst (.own g k 0 zs.length))):AOp P w0 p0 o σ K:=by
  intro a w next Q' ⟨h1,h2,p,hE,hs,hm⟩ hn
  obtain ⟨vals,hrun,hrel⟩:=rT (P:=P) ho hent hs hfo
  rw[hargs] at hrel
  unfold Oper.wp
  rw[hrun]
  simp only[Oper.upon]
  have hA:∀ b,p.all b→b<w.heap.size:=fun b hb=>by
    rcases hb with hb | ⟨g,hg⟩
    · exact Nat.lt_of_lt_of_le (hf.others b (hE.A ▸ hb)) hE.size
    · exact hm.lt hg
  have hall:∀ b,Stable w p b→Stable w (iB p.all) b:=fun b hb=>⟨hb.1,(fun _ h=>by cases h),fun h=>h.elim hb.2.2 fun⟨g,hg⟩=>hb.2.1 g hg⟩
  refine(hden p.all w vals hA ⟨hrel.1,fun i c v hc hv=>(hrel.2 i c v hc hv).move (ok:=fun _=>false) (fun b hb=>⟨hall b hb,rfl⟩) (fun _ _ h=>by cases h) (mW hcl c (List.mem_of_getElem? hc))⟩).mono ?_
  rintro e w' ⟨v,zs,x,rfl,hQ,hnew,hE',hb',hr⟩
  have hpg:p.o g=none:=hm.dom g hg.2
  have hsame:∀ b,b<w.heap.size→w'.heap[b]?=w.heap[b]?:=fun b hb=>by
    by_cases h:p.all b
    · exact hE'.others b hb h
    · exact(hE'.stab b ⟨hb,(fun _ h=>by cases h),h⟩).2
  let q:=p.upd g (some x)
  have hqg:q.o g=some x:=by simp [q,Hp.upd]
  have hqo:∀ g',g'≠g→q.o g'=p.o g':=fun g' h=>by simp [q,Hp.upd,h]
  have hkeep:Keeps w p w' q:=by
    refine⟨fun b hb=>⟨⟨Nat.lt_of_lt_of_le hb.1 hE'.size,fun g' hg'=>?_,hb.2.2⟩,hsame b hb.1⟩,fun g' y hg'=>?_,fun g' b hg' cur T hh=>⟨cur,by rw[hsame b (hm.lt hg')]; exact hh,rfl⟩⟩
    · by_cases e:g'=g
      · subst e; rw[hqg] at hg'; cases hg'; have:=hnew b rfl; have:=hb.1; omega
      · rw[hqo g' e] at hg'; exact hb.2.1 g' hg'
    · have:g'≠g:=fun e=>by subst e; rw[hpg] at hg'; cases hg'
      rw[hqo g' this]; exact hg'
  have hE2:Ext w0 p0 w' q:=hE.step hkeep hE'.os hE'.tape hE'.output hE'.size rfl (fun b hb _=>hsame b hb) (fun g' h1 h2=>by
    by_cases e:g'=g
    · subst e; exact hf.names _ hg.1
    · rw[hqo g' e] at h2; exact absurd h1 h2)
  have hst':∀ b,Stable w' (fE x p.all) b→Stable w' q b:=fun b hb=>by
    refine⟨hb.1,fun g' hg'=>?_,fun h=>hb.2.2 (.inl h)⟩
    by_cases e:g'=g
    · subst e; rw[hqg] at hg'; cases hg'; exact hb.2.1 E0 (eN _ _)
    · rw[hqo g' e] at hg'; exact hb.2.2 (.inr ⟨g',hg'⟩)
  have hm':MemRel w' q ((g,.buf k zs)::σ.mem):=by
    refine⟨fun g' hl=>?_,fun g' m' hl=>?_,fun g1 g2 b e1 e2=>?_,fun g' b hg' hAb=>?_⟩
    · rw[dB] at hl
      split at hl
      · cases hl
      · rename_i e; rw[hqo g' (fun h=>e h.symm)]; exact hm.dom g' hl
    · rw[dB] at hl
      split at hl
      · rename_i e; subst e; cases hl
        rcases hb' with ⟨e1,e2⟩ | ⟨b,cur,T,h1,h2,h3,h4,h5⟩
        · have:=(iA e2).2; subst this; exact .inl ⟨e1,hqg⟩
        · have:=(iA h1).2; subst this
          refine .inr ⟨b,cur,T,hqg,h2,h3,h4,fun j y i c hy hc=>?_⟩
          obtain ⟨u,hu,hr⟩:=h5 j y i c hy hc
          exact⟨u,hu,hr.move (ok:=fun _=>false) (fun b hb=>⟨hst' b hb,rfl⟩) (fun _ _ h _=>by cases h) (AV.clean_of_leaf ((h4 y (List.mem_of_getElem? hy)).2 c (List.mem_of_getElem? hc)))⟩
      · exact(hm.holds g' m' hl).keep hkeep fun b hb=>hsame b (hm.lt hb)
    · by_cases e1':g1=g
      · by_cases e2':g2=g
        · rw[e1',e2']
        · exfalso; rw[e1',hqg] at e1; rw[hqo g2 e2'] at e2; cases e1; have:=hnew b rfl; have:=hm.lt e2; omega
      · by_cases e2':g2=g
        · exfalso; rw[e2',hqg] at e2; rw[hqo g1 e1'] at e1; cases e2; have:=hnew b rfl; have:=hm.lt e1; omega
        · rw[hqo g1 e1'] at e1; rw[hqo g2 e2'] at e2; exact hm.inj g1 g2 b e1 e2
    · by_cases e:g'=g
      · subst e; rw[hqg] at hg'; cases hg'; have:=hnew b rfl; have:=hA b (.inl hAb); omega
      · rw[hqo g' e] at hg'; exact hm.avoid g' b hg' hAb
  have hr':RelV w' q (.own g k 0 zs.length) v:=by
    generalize zs.length=n at hr ⊢
    cases hr with
    | ownn _ _ hg=>have:=(iA hg).2; subst this; exact .ownn _ _ hqg
    | own _ _ _ _ _ _ _ _ hg e1 e2 e3 e4=>have:=(iA hg).2; subst this; exact .own _ _ _ _ _ _ _ _ hqg e1 e2 e3 e4
    | own0 _ _ _ _ _ hg=>have:=(iA hg).2; subst this; exact .own0 _ _ _ _ _ hqg
  refine hn _ _ _ (hK zs hQ) ?_
  cases hdd:o.dst with
  | none=>exact⟨h1,h2,q,hE2,hs.keep hkeep,hm'⟩
  | some d=>exact⟨h1,by simpa [Act.put,St.putO,St.put] using h2,q,hE2,(hs.keep hkeep).put (by rw[h2]; exact hd d hdd) hr',hm'⟩
section
variable {n:Nat} {sl:List (Nat×AV)} {m:Mem} {ops:Array Oper} {rest:List Oper} {Q:Exit→St→Prop} {d ty:Nat} {ps:String} {af:Array Edge}
theorem iN (hf:Fit w0 p0) {fo:Operand} {xs:List Operand} {ts:Array TypeId} {f k:Nat} {cap args:List AV} {R:List (List AV)→Prop} (hd:lt d n=true) (hE:lt d E0=true) (hl:lk m d=none) (hfo:ev sl fo=some (.fn f cap)) (hargs:evs sl cap xs=some args)
    (hent:∀ args w,(callFunc f args).run P w=.ok (.enter f args) w) (hcl:cleanL (fun _=>false) args=true) (hden:DenO P f args k R) (hk:∀ zs,R zs→fL P w0 p0 ops rest ⟨n,(d,.own d k 0 zs.length)::sl,(d,.buf k zs)::m⟩ Q) :
    fL P w0 p0 ops (⟨some d,.call { callee:=.value fo,args:=xs.toArray,argTypes:=ts },ty,ps,af,none⟩::rest) ⟨n,sl,m⟩ Q :=
  gD rfl (aV3 hf rfl hent (uR hd) (cR hfo) (uQ hargs) hcl (rQ hE hl) hden hk)
end
end Go.Abs
set_option linter.unusedVariables false
set_option linter.unusedSimpArgs false
namespace Go.Abs
open Go Go.RowKit
variable {P:Program} {w0:World} {p0:Hp}
theorem aV6 {o:Oper} {σ:St} {K:St→Prop} (hf:Fit w0 p0) {elem:TypeId} {d:Nat} {zs:List Value} (ho:o.op=.alloc elem) (hdst:o.dst=some d) (hd:d<σ.n) (hfr:σ.fresh d) (hz:zeros? P elem=some zs)
    (hk:K ({ σ with mem:=(d,.box (zs.map .s))::σ.mem }.put d (.ref d 0 0 0))):AOp P w0 p0 o σ K:=by
  intro a w next Q hr hn
  obtain ⟨z,hz1,hz2⟩:=zeros?_inv hz w
  have hrun:(execOp a.eval o).run P w=.ok (.value (.pointer (some ⟨w.heap.size,0,none⟩))) (w.alloc (.cells z.cells elem)):=by
    simp [execOp,ho,Instr.alloc,hz1,newVar,newRow]
  unfold Oper.wp
  rw[hrun]
  refine hn _ _ _ hk ?_
  have:=xV hf hr hfr o.dst (fun y hy=>by rw[hdst] at hy; cases hy; exact hd) z.cells elem (.box (zs.map .s)) (.ref d 0 0 0) (.pointer (some ⟨w.heap.size,0,none⟩)) ?_ ?_
  · rw[hdst] at this ⊢; exact this
  · intro p hs hm hkp
    refine⟨w.heap.size,_,elem,by simp [Hp.upd],heap_alloc_new w _,by rw[← hz2]; simp,fun i c hc=>?_⟩
    rw[List.getElem?_map] at hc
    cases hzi:zs[i]? with
    | none=>simp [hzi] at hc
    | some v =>
      simp [hzi] at hc
      subst hc
      exact⟨v,by rw[← Array.getElem?_toList,hz2,hzi],.s v⟩
  · intro p hm
    exact .ref d 0 0 0 w.heap.size (by simp [Hp.upd])
section
variable {n:Nat} {sl:List (Nat×AV)} {m:Mem} {ops:Array Oper} {rest:List Oper} {Q:Exit→St→Prop} {d ty:Nat} {ps:String} {af:Array Edge}
theorem aW (hf:Fit w0 p0) {t:Nat} {zs:List Value} (hd:lt d n=true) (hE:lt d E0=true) (hl:lk m d=none) (hz:zeros? P t=some zs) (hk:fL P w0 p0 ops rest ⟨n,(d,.ref d 0 0 0)::sl,(d,.box (zs.map .s))::m⟩ Q) :
    fL P w0 p0 ops (⟨some d,.alloc t,ty,ps,af,none⟩::rest) ⟨n,sl,m⟩ Q :=
  gD rfl (aV6 hf rfl rfl (pU hd) (rQ hE hl) hz hk)
end
end Go.Abs
set_option linter.unusedVariables false
set_option linter.unusedSimpArgs false
namespace Go.Abs
open Go Go.RowKit
variable {P:Program} {w0:World} {p0:Hp}
def froz (m:Mem) (l:List (Nat×AV)):List (Nat×AV)→Prop
  | []=>True
  | (t,a')::r=>(∃ a,lk l t=some a∧a.only (fun _=>false) m=a')∧froz m l r
theorem aJr {m:Mem} {l:List (Nat×AV)}:∀ {l':List (Nat×AV)},froz m l l'→∀ t a',bL l' t=some a'→∃ a,bL l t=some a∧a.only (fun _=>false) m=a'
  | [],_,_,_,h=>by simp [bL] at h
  | (t0,a0)::r,h,t,a',hl=>by
    simp only[bL] at hl
    split at hl
    · rename_i e; subst e; cases hl
      obtain ⟨a,h1,h2⟩:=h.1
      exact⟨a,by rw[← lL]; exact h1,h2⟩
    · exact aJr h.2 t a' hl
theorem aUy (m:Mem):∀ l:Mem,Mem.only (fun _=>false) m l=[]:=by
  intro l
  induction l with
  | nil=>rfl
  | cons x r ih=>obtain ⟨g,a⟩:=x; simp [Mem.only,ih]
theorem sW (m:Mem) (f:AV→AV):∀ (l:List (Nat×AV)) (t:Nat),bL (l.map fun x=>(x.1,f x.2)) t=(bL l t).map f
  | [],t=>rfl
  | (d,a)::r,t=>by
    simp only[List.map_cons,bL]
    split
    · rfl
    · exact sW m f r t
theorem yA {n:Nat} {sl sl':List (Nat×AV)} {m:Mem} (h:froz m sl sl'):Le ⟨n,sl,m⟩ ⟨n,sl',[]⟩:=by
  refine(Le.only (fun _=>false) ⟨n,sl,m⟩).trans ?_
  intro w0 p0 a w ⟨h1,h2,p,hE,hs,hm⟩
  refine⟨h1,h2,p,hE,fun t a' ht=>?_,?_⟩
  · obtain ⟨b,hb1,hb2⟩:=aJr h t a' ht
    refine hs t a' ?_
    show bL (sl.map fun x=>(x.1,x.2.only (fun _=>false) m)) t=some a'
    rw[sW m (fun x=>x.only (fun _=>false) m),hb1,← hb2]; rfl
  · have:(St.only (fun _=>false) ⟨n,sl,m⟩).mem=[]:=aUy m m
    rw[this] at hm; exact hm
theorem uM {mem:Mem} {g k n:Nat} {xs:List (List AV)} (hl:bL mem g=some (.buf k xs)) (hn:n=xs.length):(AV.own g k 0 n).only (fun _=>false) mem=.sl k xs:=by
  subst hn
  simp [AV.only,hl]
end Go.Abs
set_option linter.unusedVariables false
set_option linter.unusedSimpArgs false
namespace Go.Abs
open Go Go.RowKit
variable {P:Program} {w0:World} {p0:Hp}
def qS (P:Program) (w0:World) (p0:Hp) (ops:Array Oper) (Q:Exit→St→Prop) (fuel:Nat) (listed:Array Bool) (σ:St):Prop :=
  ∀ a w,Rel w0 p0 σ a w→wpAny P .any ops (fun e a' w'=>∃ σ',Q e σ'∧Rel w0 p0 σ' a' w') fuel listed a w
theorem Rel.drew {σ:St} {a:Act} {w:World} (h:Rel w0 p0 σ a w):Rel w0 p0 σ a { w with drawn:=w.drawn+1 }:=by
  obtain ⟨h1,h2,p,hE,hs,hm⟩:=h
  have hg:Grow w { w with drawn:=w.drawn+1 }:=⟨rfl,⟨rfl,Nat.le_succ _⟩,rfl,Nat.le_refl _,fun _ _=>rfl⟩
  have hk:=hg.keeps hm
  exact⟨h1,h2,p,hE.step hk hg.os hg.tape hg.output hg.size rfl (fun b hb _=>hg.heap b hb) (fun g h1 h2=>absurd h1 h2),hs.keep hk,⟨hm.dom,fun g m hl=>(hm.holds g m hl).keep hk fun _ _=>rfl,hm.inj,hm.avoid⟩⟩
theorem kQ {ops:Array Oper} {Q:Exit→St→Prop} {fuel:Nat} {listed:Array Bool} {σ σ':St} (hl:Le σ σ') (h:qS P w0 p0 ops Q fuel listed σ'):qS P w0 p0 ops Q fuel listed σ :=
  fun a w hr=>h a w (hl _ _ _ _ hr)
theorem bX {ops:Array Oper} {Q:Exit→St→Prop} {fuel:Nat} {listed:Array Bool} {σ:St} (hr:Region.ready .any ops listed=[]) (h:Q .normal σ):qS P w0 p0 ops Q fuel listed σ:=by
  intro a w hrel
  cases fuel with
  | zero=>exact⟨hr,σ,h,hrel⟩
  | succ n=>exact⟨fun _=>⟨σ,h,hrel⟩,fun i hi=>by rw[hr] at hi; simp at hi⟩
def aYa (P:Program) (w0:World) (p0:Hp) (ops:Array Oper) (Q:Exit→St→Prop) (fuel:Nat) (listed:Array Bool) (σ:St):List Nat→Prop
  | []=>True
  | i::r=>(∃ o,ops[i]?=some o∧o.guard=none∧AOp P w0 p0 o σ (qS P w0 p0 ops Q fuel (listed.setIfInBounds i true)))∧aYa P w0 p0 ops Q fuel listed σ r
theorem aG {ops:Array Oper} {Q:Exit→St→Prop} {fuel:Nat} {listed:Array Bool} {σ:St} (i:Nat) (l:List Nat) (hr:Region.ready .any ops listed=i::l) (h:aYa P w0 p0 ops Q fuel listed σ (i::l)):qS P w0 p0 ops Q (fuel+1) listed σ:=by
  intro a w hrel
  refine⟨fun he=>(by rw[hr] at he; cases he),?_⟩
  rw[hr]
  have key:∀ l,aYa P w0 p0 ops Q fuel listed σ l→∀ j∈l,wpOp P ops (fun e a' w'=>∃ σ',Q e σ'∧Rel w0 p0 σ' a' w') j (wpAny P .any ops (fun e a' w'=>∃ σ',Q e σ'∧Rel w0 p0 σ' a' w') fuel (listed.setIfInBounds j true)) a w:=by
    intro l
    induction l with
    | nil=>intro _ j hj; simp at hj
    | cons x r ih =>
      intro h j hj
      rcases List.mem_cons.1 hj with e | e
      · subst e
        obtain ⟨o,ho,hg,hop⟩:=h.1
        unfold wpOp
        simp only[ho]
        rw[if_pos (by simp [Region.wanted,hg])]
        exact .inl (hop a w _ _ hrel fun σ' a' w' h1 h2=>h1 a' w' h2)
      · exact ih h.2 j e
  exact key _ h
theorem eH {id:Nat} {l:List Oper} {σ:St} {Q:Exit→St→Prop} (hm:P.follows .mixedOrders=true) (h:qS P w0 p0 l.toArray Q l.toArray.size (Array.replicate l.toArray.size false) σ):AW P w0 p0 (.region id l.toArray true) σ Q :=
  fun a w hr=>wp_region_any hm (h a _ hr.drew)
end Go.Abs
set_option linter.unusedVariables false
set_option linter.unusedSimpArgs false
namespace Go.Abs
open Go Go.RowKit
variable {P:Program} {w0:World} {p0:Hp}
theorem aXh {n:Nat} {sl sl':List (Nat×AV)} {m m':Mem} (h:pJ sl sl') (hm:∀ g,bL m g=bL m' g):Le ⟨n,sl,m⟩ ⟨n,sl',m'⟩:=by
  refine(kI (m:=m) h).trans ?_
  intro w0 p0 a w ⟨h1,h2,p,hE,hs,hmem⟩
  exact⟨h1,h2,p,hE,hs,⟨fun g hl=>hmem.dom g ((hm g).trans hl),fun g x hl=>hmem.holds g x ((hm g).trans hl),hmem.inj,hmem.avoid⟩⟩
end Go.Abs
