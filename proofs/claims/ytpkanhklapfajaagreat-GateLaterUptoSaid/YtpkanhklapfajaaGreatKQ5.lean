import Derived.WalkKit
import Derived.WalkSpells
import Derived.WalkLawsBesides
import Derived.Deep.LoopGhost
import Derived.ChangeKeysEq
import Derived.Still
import Derived.Lib.AppendZeros
import Derived.Laws.StructEq
import Derived.OpenShut
import Derived.Scope
import Derived.Shelf.SlSortCmp.Kit1
import Derived.Shelf.SlSortCmp.InsertionK
import Derived.Lib.SlicesCompact
import Derived.ProofKit
import Derived.ChangeSame
import Derived.Carry
import Derived.SliceStrings
import Derived.ChangeMaps5
import Derived.Deep.Slices
import Derived.Test.YtpkanhklapfajaaGreatRows
import Derived.Shelf.Abstract
import Derived.Shelf.SlSortCmp.WholeK
import Derived.Shelf.SlSortCmp.Whole1
import Derived.Shelf.SlSortCmp.NoneTotal
import Derived.Deep.RegionLaw
import Derived.Lib.Walk
import Derived.Lib.Overlaps
import Derived.Lib.AppendZerosOnto
import Derived.Laws.CopyRow
import Derived.Test.YtpkanhklapfajaaGreatKQ1
import Derived.Test.YtpkanhklapfajaaGreatKQ2
import Derived.Test.YtpkanhklapfajaaGreatKQ3
import Derived.Test.YtpkanhklapfajaaGreatKQ4
set_option maxRecDepth 20000
set_option maxHeartbeats 16000000
set_option linter.unusedVariables false
set_option linter.unusedSimpArgs false
namespace Go.Proofs.YtpkanhklapfajaaGreat
open Go Go.Abs Go.RowKit Go.Lib
theorem aL3 {P:Program} (w:World) {o:Oper} {a:Act} {K:Act→World→Prop} {Q:Exit→Act→World→Prop} (d s:Operand) (t t':TypeId)
    (ho:o.op=.call { callee:=.builtin .copy,args:=#[d,s],argTypes:=#[t,t'] }) (v u:Value) (hd:a.eval d=v) (hs:a.eval s=u) {v':Value} {w':World}
    (hr:(Builtin.copy_ #[t,t'] o.type #[v,u]).run P w=.ok v' w') (h:K (a.put o.dst v') w'):o.wp P a w K Q:=by
  unfold Oper.wp execOp
  simp only[ho,resolve,invoke,builtin,Sem.run_bind,Sem.run_pure,Result.andThen_ok,List.map_toArray,List.map_cons,List.map_nil,hd,hs,hr]
  exact h
theorem zY {P:Program} (w:World) {ops:Array Oper} {rest:List Oper} {o:Oper} {a:Act} {Q:Exit→Act→World→Prop} (hgd:o.guard=none) (d s:Operand) (t t':TypeId)
    (ho:o.op=.call { callee:=.builtin .copy,args:=#[d,s],argTypes:=#[t,t'] }) (v u:Value) (hd:a.eval d=v) (hs:a.eval s=u) {v':Value} {w':World}
    (hr:(Builtin.copy_ #[t,t'] o.type #[v,u]).run P w=.ok v' w') (h:wpList P ops Q rest (a.put o.dst v') w'):wpList P ops Q (o::rest) a w :=
  wpList_plain hgd fun _ hK=>aL3 w d s t t' ho v u hd hs hr (hK _ _ h)
theorem aE8 {P:Program} {ops:Array Oper} {o:Oper} {a:Act} {w:World} {K:Act→World→Prop} {Q:Exit→Act→World→Prop} {E:Prop}
    (hg:o.guard=none) (d x:Operand) (dT sT:TypeId) (hop:o.op=Op.call { callee:=Callee.builtin Builtin.copy,args:=#[d,x],argTypes:=#[dT,sT] })
    (v u:Value) (hd:a.eval d=v) (hx:a.eval x=u) {v':Value} {w':World} (hr:(Builtin.copy_ #[dT,sT] o.type #[v,u]).run P w=.ok v' w') (hK:K (a.put o.dst v') w') :
    if Region.wanted o (yielded ops a.tmps)=true then Oper.wp P o a w K Q else E:=by
  have hw:Region.wanted o (yielded ops a.tmps)=true:=by simp [Region.wanted,hg]
  rw[if_pos hw]
  exact aL3 w d x dT sT hop v u hd hx hr hK
theorem xT {P:Program} (w:World) (dT sT ty elem:TypeId) (g o dLen dCap k m:Nat) (a:Addr) (sLen sCap:Nat) (cur:Array Value) (t:TypeId) (cs:List Value)
    (hu:P.underlying dT=some (.slice elem)) (hs:cells? P elem=some k) (hg:w.heap[g]?=some (.cells cur t (0,0))) (hm:Nat.min sLen dLen=m) (hn:cs.length=m*k)
    (hsrc:∀ j v,cs[j]?=some v→w.cell? (a.add j)=some v) (hfit:o+cs.length≤cur.size) (h1:∀ v∈cs,v.oneCell'=true) :
    (Builtin.copy_ #[dT,sT] ty #[.slice (some ⟨g,o,none⟩) dLen dCap,.slice (some a) sLen sCap]).run P w =
      .ok (goInt m) (w.setRow g (cur.toList.take o++cs++cur.toList.drop (o+cs.length)).toArray):=by
  have hf:=run_firstCells_some (P:=P) w k m a sLen sCap cs hn hsrc
  have hst:=run_storeCells_at P g o t cs 0 cur w hg (by simpa using hfit) h1
  simp only[Nat.add_zero] at hst
  simp [Builtin.copy_,run_underlying hu,Builtin.lenOf,eI hs,hm,hf,hst]
theorem aFh {l:List Value} {o:Nat} {cs:List Value} (h:o+cs.length≤l.length) (q:Nat):(l.take o++cs++l.drop (o+cs.length))[q]?=if q<o then l[q]? else if q<o+cs.length then cs[q - o]? else l[q]?:=by
  have ht:(l.take o).length=o:=by rw[List.length_take]; omega
  rw[List.append_assoc]
  by_cases h1:q<o
  · rw[if_pos h1,List.getElem?_append_left (by omega),List.getElem?_take,if_pos h1]
  · rw[if_neg h1,List.getElem?_append_right (by omega),ht]
    by_cases h2:q<o+cs.length
    · rw[if_pos h2,List.getElem?_append_left (by omega)]
    · rw[if_neg h2,List.getElem?_append_right (by omega),List.getElem?_drop]
      congr 1; omega
theorem aF5 (w:World) (vb b o m vc lb cb:Nat) (vcur cur:Array Value) (T1 T2:TypeId) (hv:w.heap[vb]?=some (.cells vcur T1 (0,0))) (hb:w.heap[b]?=some (.cells cur T2 (0,0))) (hne:vb≠b) (h0:cur.size≠0) :
    (callFunc 185 #[.slice (some ⟨vb,0,none⟩) m vc,.slice (some ⟨b,o,none⟩) lb cb]).run Tryz.prog w=.ok (.value (.bool false)) w:=by
  rw[run_callFunc_extern Tryz.func185 (by kernel_rfl) (by kernel_rfl) (by kernel_rfl) (e:=Extern.SlicesOverlaps.overlaps #[40,40] #[4]) (by kernel_rfl),
    Lib.run_overlaps_apart w 40 4 113 (elem?_inv kF) 2 (eI gR) ⟨vb,0,none⟩ ⟨b,o,none⟩ m vc lb cb hne T1 T2 vcur.size cur.size (by simp [World.shape?,hv]) (by simp [World.shape?,hb]) h0 (by simp [World.frozen?,hv]) (by simp [World.frozen?,hv])]
  rfl
set_option maxRecDepth 100000 in
theorem aKy (b n c i vb vc:Nat) (cur vcur:Array Value) (T T2:TypeId) (w:World) (hb:w.heap[b]?=some (.cells cur T (0,0))) (hv:w.heap[vb]?=some (.cells vcur T2 (0,0))) (hne:vb≠b)
    (hi:i<n) (hroom:n+1≤c) (hc63:c≤9223372036854775807) (hsz:c*2≤cur.size) (hvs:2≤vcur.size) (hone:∀ (j:Nat) (v:Value),j<n*2→cur[j]?=some v→v.oneCell'=true) (honv:∀ (j:Nat) (v:Value),j<2→vcur[j]?=some v→v.oneCell'=true) :
    Calls Tryz.prog 165 #[.slice (some ⟨b,0,none⟩) n c,.int .i64 i,.slice (some ⟨vb,0,none⟩) 1 vc] w fun e w'=>e=.returned (.slice (some ⟨b,0,none⟩) (n+1) c) ∧
      ∃ cs,w'=w.drew.setRow b cs∧cs.size=cur.size∧∀ q,q<(n+1)*2→cs[q]?=if q<i*2 then cur[q]? else if q<i*2+2 then vcur[q - i*2]? else cur[q - 2]?:=by
  have hb':w.drew.heap[b]?=some (.cells cur T (0,0)):=hb
  have hcell:∀ j,j<cur.size→w.drew.cell? ⟨b,j,none⟩=cur[j]?:=fun j hj=>by simp [World.cell?,hb']
  obtain ⟨mid,hmid⟩:∃ mid,mid=(cur.toList.drop (i*2)).take ((n - i)*2):=⟨_,rfl⟩
  have hml:mid.length=(n - i)*2:=by rw[hmid]; simp only[List.length_take,List.length_drop,Array.length_toList]; omega
  have hmg:∀ t,t<(n - i)*2→mid[t]?=cur[i*2+t]?:=fun t ht=>by rw[hmid,List.getElem?_take,if_pos ht,List.getElem?_drop,Array.getElem?_toList]
  have hm1:∀ v∈mid,v.oneCell'=true:=fun v hv=>by
    obtain ⟨t,ht⟩:=List.getElem?_of_mem hv
    have ht2:=(List.getElem?_eq_some_iff.1 ht).1
    rw[hml] at ht2
    rw[hmg t ht2] at ht
    exact hone _ _ (by omega) ht
  obtain ⟨cs1,hcs1⟩:∃ cs1,cs1=(cur.toList.take ((i+1)*2)++mid++cur.toList.drop ((i+1)*2+mid.length)).toArray:=⟨_,rfl⟩
  have hc1s:cs1.size=cur.size:=by rw[hcs1]; simp only[List.size_toArray,List.length_append,List.length_take,List.length_drop,Array.length_toList,hml]; omega
  have hcp1:∀ ty dc sc,(Builtin.copy_ #[40,40] ty #[.slice (some ⟨b,(i+1)*2,none⟩) (n - i) dc,.slice (some ⟨b,i*2,none⟩) (n+1 - i) sc]).run Tryz.prog w.drew=.ok (goInt ((n - i:Nat):Int)) (w.drew.setRow b cs1):=fun ty dc sc=>by
    rw[hcs1]
    exact xT w.drew 40 40 ty 113 b ((i+1)*2) (n - i) dc 2 (n - i) ⟨b,i*2,none⟩ (n+1 - i) sc cur T mid (elem?_inv kF) gR hb' (by simp only[Nat.min_def]; split <;> omega) hml
      (fun j v hj=>by
        have hj2:=(List.getElem?_eq_some_iff.1 hj).1
        rw[hml] at hj2
        rw[hmg j hj2] at hj
        rw[Addr.add_lit]
        exact(hcell _ (by omega)).trans hj) (by rw[hml]; omega) hm1
  obtain ⟨W1,hW1⟩:∃ W1,W1=w.drew.setRow b cs1:=⟨_,rfl⟩
  have hb1:W1.heap[b]?=some (.cells cs1 T (0,0)):=by rw[hW1]; exact setRow_heap _ b cur cs1 T _ hb'
  have hv1:W1.heap[vb]?=some (.cells vcur T2 (0,0)):=by rw[hW1]; exact(setRow_other w.drew b vb cs1 hne).trans hv
  obtain ⟨vs,hvl⟩:∃ vs,vs=vcur.toList.take 2:=⟨_,rfl⟩
  have hvsl:vs.length=1*2:=by rw[hvl]; simp only[List.length_take,Array.length_toList]; omega
  have hvg:∀ t,t<2→vs[t]?=vcur[t]?:=fun t ht=>by rw[hvl,List.getElem?_take,if_pos ht,Array.getElem?_toList]
  obtain ⟨cs2,hcs2⟩:∃ cs2,cs2=(cs1.toList.take (i*2)++vs++cs1.toList.drop (i*2+vs.length)).toArray:=⟨_,rfl⟩
  have hcp2:∀ (W:World),W.heap=W1.heap→∀ ty dc,(Builtin.copy_ #[40,40] ty #[.slice (some ⟨b,i*2,none⟩) (n+1 - i) dc,.slice (some ⟨vb,0,none⟩) 1 vc]).run Tryz.prog W=.ok (goInt 1) (W.setRow b cs2):=fun W hW ty dc=>by
    rw[hcs2]
    exact xT W 40 40 ty 113 b (i*2) (n+1 - i) dc 2 1 ⟨vb,0,none⟩ 1 vc cs1 T vs (elem?_inv kF) gR (by rw[hW]; exact hb1) (by simp only[Nat.min_def]; split <;> omega) hvsl
      (fun j v hj=>by
        have hj2:=(List.getElem?_eq_some_iff.1 hj).1
        rw[hvg j (by omega)] at hj
        rw[Addr.add_lit,Nat.zero_add]
        simp only[World.cell?,hW,hv1]
        exact hj) (by rw[hvsl,hc1s]; omega) (fun v hv=>by
        obtain ⟨t,ht⟩:=List.getElem?_of_mem hv
        have ht2:=(List.getElem?_eq_some_iff.1 ht).1
        rw[hvg t (by omega)] at ht
        exact honv t v (by omega) ht)
  have hov:∀ o lb cb,(callFunc 185 #[.slice (some ⟨vb,0,none⟩) 1 vc,.slice (some ⟨b,o,none⟩) lb cb]).run Tryz.prog w=.ok (.value (.bool false)) w:=fun o lb cb=>aF5 w vb b o 1 vc lb cb vcur cur T2 T hv hb hne (by omega)
  have hfin:∀ q,q<(n+1)*2→cs2[q]?=if q<i*2 then cur[q]? else if q<i*2+2 then vcur[q - i*2]? else cur[q - 2]?:=fun q hq=>by
    rw[hcs2,List.getElem?_toArray,aFh (by rw[hvsl,Array.length_toList,hc1s]; omega),hvsl]
    have e1:cs1.toList[q]?=if q<(i+1)*2 then cur[q]? else if q<(i+1)*2+(n - i)*2 then mid[q - (i+1)*2]? else cur[q]?:=by
      rw[hcs1,aFh (by rw[hml,Array.length_toList]; omega),hml,Array.getElem?_toList]
    by_cases h1:q<i*2
    · rw[if_pos h1,if_pos h1,e1,if_pos (by omega)]
    · rw[if_neg h1,if_neg h1]
      by_cases h2:q<i*2+2
      · rw[if_pos h2,if_pos h2,hvg _ (by omega)]
      · rw[if_neg h2,if_neg h2,e1,if_neg (by omega),if_pos (by omega),hmg _ (by omega)]
        congr 1; omega
  have hc2s:cs2.size=cur.size:=by rw[hcs2]; simp only[List.size_toArray,List.length_append,List.length_take,List.length_drop,Array.length_toList,hvsl,hc1s]; omega
  rw[← hW1] at hcp1
  have mixed:=bE
  have hz1:¬ (((1:Nat):Int)=0):=by decide
  have hz2:¬ ((i:Int)=(n:Int)):=by omega
  have hin:i≤n:=by omega
  have htn:((i:Int)+1).toNat=i+1:=by omega
  have hw1:IntKind.i64.wrap ((i:Int)+1)=(i:Int)+1:=by rw[IntKind.wrap_i64]; omega
  have hw2:IntKind.i64.wrap ((n:Int)+1)=(n:Int)+1:=by rw[IntKind.wrap_i64]; omega
  have hb1':(0:Int)≤(i:Int)+1:=by omega
  have hb2:¬ (c=i+1):=by omega
  have hb3:(i:Int)≤(n:Int)+1:=by omega
  have hb4:¬ (c=i):=by omega
  have hic:i≤c:=by omega
  have hgt:¬ ((c:Int)<(n:Int)+1):=by omega
  have hn0:(0:Int)≤(n:Int)+1:=by omega
  have htn2:((n:Int)+1).toNat=n+1:=by omega
  have hfin2:Hid (cs2.size=cur.size∧∀ q,q<(n+1)*2→cs2[q]?=if q<i*2 then cur[q]? else if q<i*2+2 then vcur[q - i*2]? else cur[q - 2]?):=⟨hc2s,hfin⟩
  clear hfin hc2s hcs2 hvg hvsl hvl hm1 hmg hml hmid hcs1 hc1s hcell hone honv hb1 hv1
  go_enter Tryz.func165,Tryz.ntmps165
  go_wp2_with (simp only[hov])
  go_region_law_o (refine aE8 rfl _ _ 40 40 rfl _ _ (by simp [Act.eval,Act.put]) (by simp [Act.eval,Act.put]) (hcp1 _ _ _) ?_)
  go_wp2_with (at_builtin; refine zY _ rfl _ _ 40 40 rfl _ _ rfl rfl (hcp2 _ rfl _ _) ?_)
  go_ret
  refine⟨rfl,cs2,?_,hfin2.out⟩
  exact setRow_setRow _ _ _ _
def aQs (w:World) (x:Option Nat) (n i:Nat) (old:Nat→Option Value) (vcur:Array Value) (e:Ending) (w':World):Prop :=
  ∃ b' cap' cs T,e=.returned (.slice (some ⟨b',0,none⟩) (n+1) cap')∧n+1≤cap'∧cap'≤9223372036854775807∧w'.heap[b']?=some (.cells cs T (0,0))∧cap'*2≤cs.size∧(x=some b'∨w.heap.size≤b')∧w.heap.size≤w'.heap.size∧(∀ b,b<w.heap.size→x≠some b→w'.heap[b]?=w.heap[b]?)∧w'.os=w.os∧(w'.tape=w.tape∧w.drawn≤w'.drawn)∧w'.output=w.output ∧
    ∀ q,q<(n+1)*2→cs[q]?=if q<i*2 then old q else if q<i*2+2 then vcur[q - i*2]? else old (q - 2)
theorem vZ (w:World) (b:Nat) (cs:Array Value):(w.setRow b cs).heap.size=w.heap.size:=by simp [World.setRow]
theorem aNv {w w1:World} {b n c i:Nat} {cur vcur cs:Array Value} {T:TypeId} (h1:w1.heap=w.heap) (h2:w1.os=w.os) (h3:w1.tape=w.tape∧w.drawn≤w1.drawn) (h4:w1.output=w.output) (hb:w.heap[b]?=some (.cells cur T (0,0))) (hroom:n+1≤c) (hc63:c≤9223372036854775807) (hsz:c*2≤cur.size) (hcs:cs.size=cur.size)
    (hq:∀ q,q<(n+1)*2→cs[q]?=if q<i*2 then cur[q]? else if q<i*2+2 then vcur[q - i*2]? else cur[q - 2]?):aQs w (some b) n i (fun q=>cur[q]?) vcur (.returned (.slice (some ⟨b,0,none⟩) (n+1) c)) (w1.setRow b cs):=by
  refine⟨b,c,cs,T,rfl,hroom,hc63,setRow_heap _ b cur cs T _ (by rw[h1]; exact hb),by omega,.inl rfl,by rw[vZ,h1]; exact Nat.le_refl _,fun b' hb' hne=>?_,h2,h3,h4,hq⟩
  rw[setRow_other w1 b b' cs (fun e=>hne (by rw[e])),h1]
set_option maxRecDepth 100000 in
theorem aEe (b n c vb vc:Nat) (cur vcur:Array Value) (T T2:TypeId) (w:World) (hb:w.heap[b]?=some (.cells cur T (0,0))) (hv:w.heap[vb]?=some (.cells vcur T2 (0,0)))
    (hroom:n+1≤c) (hc63:c≤9223372036854775807) (hsz:c*2≤cur.size) (hvs:2≤vcur.size) (honv:∀ (j:Nat) (v:Value),j<2→vcur[j]?=some v→v.oneCell'=true) :
    Calls Tryz.prog 165 #[.slice (some ⟨b,0,none⟩) n c,.int .i64 n,.slice (some ⟨vb,0,none⟩) 1 vc] w (aQs w (some b) n n (fun q=>cur[q]?) vcur):=by
  obtain ⟨he,hck,hk0,i0,z,hi0,hzz,hik,hby,hzc⟩:=appT?_inv mA
  obtain ⟨vs,hvl⟩:∃ vs,vs=vcur.toList.take 2:=⟨_,rfl⟩
  have hvsl:vs.length=1*2:=by rw[hvl]; simp only[List.length_take,Array.length_toList]; omega
  have hvg:∀ t,t<2→vs[t]?=vcur[t]?:=fun t ht=>by rw[hvl,List.getElem?_take,if_pos ht,Array.getElem?_toList]
  obtain ⟨cs,hcs⟩:∃ cs,cs=(cur.toList.take (n*2)++vs++cur.toList.drop (n*2+vs.length)).toArray:=⟨_,rfl⟩
  have hrun:∀ ty,(Builtin.append_ #[40,40] ty #[.slice (some ⟨b,0,none⟩) n c,.slice (some ⟨vb,0,none⟩) 1 vc]).run Tryz.prog w=.ok (.slice (some ⟨b,0,none⟩) (n+1) c) (w.setRow b cs):=fun ty=>by
    rw[hcs]
    exact oQ he hck b n c cur hb ⟨vb,0,none⟩ 1 vc vs hvsl
      (fun j v hj=>by
        have hj2:=(List.getElem?_eq_some_iff.1 hj).1
        rw[hvg j (by omega)] at hj
        rw[Addr.add_lit,Nat.zero_add]
        simp only[World.cell?,hv]
        exact hj) (fun v hv=>by
        obtain ⟨t,ht⟩:=List.getElem?_of_mem hv
        have ht2:=(List.getElem?_eq_some_iff.1 ht).1
        rw[hvg t (by omega)] at ht
        exact honv t v (by omega) ht) hroom (by rw[hvsl]; omega)
  have hsz2:cs.size=cur.size:=by rw[hcs]; simp only[List.size_toArray,List.length_append,List.length_take,List.length_drop,Array.length_toList,hvsl]; omega
  have hq:Hid (aQs w (some b) n n (fun q=>cur[q]?) vcur (.returned (.slice (some ⟨b,0,none⟩) (n+1) c)) (w.setRow b cs)):=aNv rfl rfl ⟨rfl,Nat.le_refl _⟩ rfl hb hroom hc63 hsz hsz2 (fun q hq=>by
    rw[hcs,List.getElem?_toArray,aFh (by rw[hvsl,Array.length_toList]; omega),hvsl,Array.getElem?_toList]
    by_cases h1:q<n*2
    · rw[if_pos h1,if_pos h1]
    · rw[if_neg h1,if_neg h1,if_pos (by omega),if_pos (by omega),hvg _ (by omega)])
  have mixed:=bE
  have hz1:¬ (((1:Nat):Int)=0):=by decide
  have hnc:n≤c:=by omega
  clear hcs hvg hvsl hvl honv hsz2 hv hb
  go_enter Tryz.func165,Tryz.ntmps165
  go_wp2_with (at_builtin; refine Lib.wpList_append_run _ rfl _ _ _ _ rfl _ _ rfl rfl _ _ (hrun _) ?_)
  go_ret
  exact hq.out
set_option maxRecDepth 100000 in
theorem qG (base:Option Addr) (n c vb vc:Nat) (old:Nat→Option Value) (x:Option Nat) (vcur:Array Value) (T2:TypeId) (w:World) (hv:w.heap[vb]?=some (.cells vcur T2 (0,0)))
    (hnc:n≤c) (hroom:c<n+1) (hbig:(n+1)*24≤140737488355328) (hnil:base=none→n=0) (olds:List Value) (hol:olds.length=n*2) (hog:∀ q,q<n*2→olds[q]?=old q)
    (hcs:∀ a,base=some a→∀ j v,olds[j]?=some v→w.cell? (a.add j)=some v) (hvs:2≤vcur.size) (honv:∀ (j:Nat) (v:Value),j<2→vcur[j]?=some v→v.oneCell'=true) :
    Calls Tryz.prog 165 #[.slice base n c,.int .i64 n,.slice (some ⟨vb,0,none⟩) 1 vc] w (aQs w x n n old vcur):=by
  obtain ⟨he,hck,hk0,i0,z,hi0,hzz,hik,hby,hzc⟩:=appT?_inv mA
  obtain ⟨vs,hvl⟩:∃ vs,vs=vcur.toList.take 2:=⟨_,rfl⟩
  have hvsl:vs.length=1*2:=by rw[hvl]; simp only[List.length_take,Array.length_toList]; omega
  have hvg:∀ t,t<2→vs[t]?=vcur[t]?:=fun t ht=>by rw[hvl,List.getElem?_take,if_pos ht,Array.getElem?_toList]
  have hsrc:Src Tryz.prog i0.size 40 (.slice (some ⟨vb,0,none⟩) 1 vc) 1 vs w:=by
    rw[hik]
    exact Src.ofSlice w (elem?_inv he) ⟨vb,0,none⟩ 1 vc vs hvsl (fun j v hj=>by
        have hj2:=(List.getElem?_eq_some_iff.1 hj).1
        rw[hvg j (by omega)] at hj
        rw[Addr.add_lit,Nat.zero_add]
        simp only[World.cell?,hv]
        exact hj) (fun v hv=>by
        obtain ⟨t,ht⟩:=List.getElem?_of_mem hv
        have ht2:=(List.getElem?_eq_some_iff.1 ht).1
        rw[hvg t (by omega)] at ht
        exact honv t v (by omega) ht)
  have hold:(Builtin.firstCells i0.size n (.slice base n c)).run Tryz.prog w.drew=.ok olds.toArray w.drew:=by
    rw[hik]
    cases base with
    | none =>
      have h0:=hnil rfl
      subst h0
      obtain rfl:olds=[]:=List.length_eq_zero_iff.1 (by omega)
      exact run_firstCells_none w.drew 2 0 0 c
    | some a =>
      exact run_firstCells_some w.drew 2 n a n c olds hol (fun j v hj=>hcs a rfl j v hj)
  have hrun:∀ ty,(Builtin.append_ #[40,40] ty #[.slice base n c,.slice (some ⟨vb,0,none⟩) 1 vc]).run Tryz.prog w=_:=fun ty =>
    run_append_grow_src w 40 40 ty 113 i0 z (elem?_inv he) hi0 hzz base n c olds hold _ 1 vs hsrc hroom (by omega) (by rw[hby]; exact growslice_fits hroom hbig)
  obtain ⟨G,hG⟩:∃ G,G=grownCap w (n+1) c 113:=⟨_,rfl⟩
  have hGn:n+1≤G:=by rw[hG]; exact grownCap_ge w _ _ _
  have hG63:G≤9223372036854775807:=by
    have:=grownCap_le_maxLen w (n+1) c 113 (by unfold maxLen; omega)
    rw[← hG] at this
    unfold maxLen at this
    omega
  rw[← hG] at hrun
  obtain ⟨row,hrow⟩:∃ row:Array Value,row=(olds++vs).toArray++Builtin.zeroCells z.cells (G - (n+1)):=⟨_,rfl⟩
  rw[← hrow] at hrun
  have hrs:row.size=G*2:=by rw[hrow,Array.size_append,size_zeroCells,hzc,List.size_toArray,List.length_append,hol,hvsl]; omega
  have hq:Hid (aQs w x n n old vcur (.returned (.slice (some ⟨w.heap.size,0,none⟩) (n+1) G)) (w.drew.alloc (.cells row 113 (0,0)))):=by
    refine⟨w.heap.size,G,row,113,rfl,hGn,hG63,heap_alloc_new w.drew _,by omega,.inr (Nat.le_refl _),by simp,fun b' hb' _=>Below.heap_alloc w.drew _ _ hb',rfl,⟨rfl,Nat.le_succ _⟩,rfl,fun q hq=>?_⟩
    rw[hrow,Array.getElem?_append_left (by rw[List.size_toArray,List.length_append,hol,hvsl]; omega),List.getElem?_toArray]
    by_cases h1:q<n*2
    · rw[if_pos h1,List.getElem?_append_left (by omega),hog q h1]
    · rw[if_neg h1,if_pos (by omega),List.getElem?_append_right (by omega),hol,hvg _ (by omega)]
  have mixed:=bE
  have hz1:¬ (((1:Nat):Int)=0):=by decide
  clear hrow hrs hvg hvsl hvl honv hv hsrc hold hG hGn hG63 hog hol
  go_enter Tryz.func165,Tryz.ntmps165
  cases base with
  | none =>
    have h0:=hnil rfl
    subst h0
    go_wp2_with (at_builtin; refine Lib.wpList_append_run _ rfl _ _ _ _ rfl _ _ rfl rfl _ _ (hrun _) ?_)
    go_ret
    exact hq.out
  | some a =>
    obtain ⟨ab,ao,asp⟩:=a
    go_wp2_with (at_builtin; refine Lib.wpList_append_run _ rfl _ _ _ _ rfl _ _ rfl rfl _ _ (hrun _) ?_)
    all_goals (go_ret; exact hq.out)
set_option maxRecDepth 100000 in
theorem aNs (b n c i vb vc:Nat) (cur vcur:Array Value) (T T2:TypeId) (w:World) (hb:w.heap[b]?=some (.cells cur T (0,0))) (hv:w.heap[vb]?=some (.cells vcur T2 (0,0)))
    (hi:i<n) (hnc:n≤c) (hroom:c<n+1) (hbig:(n+1)*24≤140737488355328) (hsz:c*2≤cur.size) (hvs:2≤vcur.size) (hone:∀ (j:Nat) (v:Value),j<n*2→cur[j]?=some v→v.oneCell'=true) (honv:∀ (j:Nat) (v:Value),j<2→vcur[j]?=some v→v.oneCell'=true) :
    Calls Tryz.prog 165 #[.slice (some ⟨b,0,none⟩) n c,.int .i64 i,.slice (some ⟨vb,0,none⟩) 1 vc] w (aQs w (some b) n i (fun q=>cur[q]?) vcur):=by
  obtain ⟨he,hck,hk0,i0,z,hi0,hzz,hik,hby,hzc⟩:=appT?_inv mA
  have hbw:b<w.heap.size:=(Array.getElem?_eq_some_iff.1 hb).1
  have hvw:vb<w.heap.size:=(Array.getElem?_eq_some_iff.1 hv).1
  have hcell:∀ j,j<cur.size→w.drew.cell? ⟨b,j,none⟩=cur[j]?:=fun j hj=>by
    have hb':w.drew.heap[b]?=some (.cells cur T (0,0)):=hb
    simp [World.cell?,hb']
  obtain ⟨vs,hvl⟩:∃ vs,vs=vcur.toList.take 2:=⟨_,rfl⟩
  have hvsl:vs.length=1*2:=by rw[hvl]; simp only[List.length_take,Array.length_toList]; omega
  have hvg:∀ t,t<2→vs[t]?=vcur[t]?:=fun t ht=>by rw[hvl,List.getElem?_take,if_pos ht,Array.getElem?_toList]
  have hv1:∀ v∈vs,v.oneCell'=true:=fun v hv=>by
    obtain ⟨t,ht⟩:=List.getElem?_of_mem hv
    have ht2:=(List.getElem?_eq_some_iff.1 ht).1
    rw[hvg t (by omega)] at ht
    exact honv t v (by omega) ht
  obtain ⟨pre,hpl⟩:∃ pre,pre=cur.toList.take (i*2):=⟨_,rfl⟩
  have hpll:pre.length=i*2:=by rw[hpl]; simp only[List.length_take,Array.length_toList]; omega
  have hpg:∀ t,t<i*2→pre[t]?=cur[t]?:=fun t ht=>by rw[hpl,List.getElem?_take,if_pos ht,Array.getElem?_toList]
  obtain ⟨mid,hmid⟩:∃ mid,mid=(cur.toList.drop (i*2)).take ((n - i)*2):=⟨_,rfl⟩
  have hml:mid.length=(n - i)*2:=by rw[hmid]; simp only[List.length_take,List.length_drop,Array.length_toList]; omega
  have hmg:∀ t,t<(n - i)*2→mid[t]?=cur[i*2+t]?:=fun t ht=>by rw[hmid,List.getElem?_take,if_pos ht,List.getElem?_drop,Array.getElem?_toList]
  have hm1:∀ v∈mid,v.oneCell'=true:=fun v hv=>by
    obtain ⟨t,ht⟩:=List.getElem?_of_mem hv
    have ht2:=(List.getElem?_eq_some_iff.1 ht).1
    rw[hml] at ht2
    rw[hmg t ht2] at ht
    exact hone _ _ (by omega) ht
  have hold:(Builtin.firstCells i0.size i (.slice (some ⟨b,0,none⟩) i c)).run Tryz.prog w.drew=.ok pre.toArray w.drew:=by
    rw[hik]
    exact run_firstCells_some w.drew 2 i ⟨b,0,none⟩ i c pre hpll (fun j v hj=>by
      have hj2:=(List.getElem?_eq_some_iff.1 hj).1
      rw[hpll] at hj2
      rw[hpg j hj2] at hj
      rw[Addr.add_lit,Nat.zero_add]
      exact(hcell _ (by omega)).trans hj)
  have hik2:i+(n+1 - i)=n+1:=by omega
  have hkk:(n:Int)+1 - (i:Int)=((n+1 - i:Nat):Int):=by omega
  have hrun:∀ ty,(Builtin.append_ #[40,3] ty #[.slice (some ⟨b,0,none⟩) i c,.int .i64 ((n:Int)+1 - (i:Int))]).run Tryz.prog w =
      .ok (.slice (some ⟨w.heap.size,0,none⟩) (n+1) (grownCap w (n+1) c 113)) (w.drew.alloc (.cells (pre.toArray++Builtin.zeroCells z.cells (n+1 - i)++Builtin.zeroCells z.cells (grownCap w (n+1) c 113 - (n+1))) 113)):=fun ty=>by
    have h:=Lib.run_append_grow_zeros w 40 3 ty 113 i0 z .i64 .i64 (elem?_inv he) Tryz.underlying3 hi0 hzz (some ⟨b,0,none⟩) i c pre hold (n+1 - i) (by omega) (by omega) (by omega) (by omega) (by rw[hby]; omega) (by rw[hby,hik2]; exact growslice_fits hroom hbig)
    rw[hik2] at h
    rw[hkk]
    exact h
  obtain ⟨G,hG⟩:∃ G,G=grownCap w (n+1) c 113:=⟨_,rfl⟩
  have hGn:n+1≤G:=by rw[hG]; exact grownCap_ge w _ _ _
  have hG63:G≤9223372036854775807:=by
    have:=grownCap_le_maxLen w (n+1) c 113 (by unfold maxLen; omega)
    rw[← hG] at this
    unfold maxLen at this
    omega
  rw[← hG] at hrun
  obtain ⟨row,hrow⟩:∃ row:Array Value,row=pre.toArray++Builtin.zeroCells z.cells (n+1 - i)++Builtin.zeroCells z.cells (G - (n+1)):=⟨_,rfl⟩
  rw[← hrow] at hrun
  have hrs:row.size=G*2:=by rw[hrow,Array.size_append,Array.size_append,size_zeroCells,size_zeroCells,hzc,List.size_toArray,hpll]; omega
  have hrg:∀ q,q<i*2→row[q]?=cur[q]?:=fun q hq=>by
    rw[hrow,Array.append_assoc,Array.getElem?_append_left (by rw[List.size_toArray]; omega),List.getElem?_toArray,hpg q hq]
  obtain ⟨W1,hW1⟩:∃ W1,W1=w.drew.alloc (.cells row 113):=⟨_,rfl⟩
  rw[← hW1] at hrun
  have hN:W1.heap[w.heap.size]?=some (.cells row 113 (0,0)):=by rw[hW1]; exact heap_alloc_new w.drew _
  have hO:∀ b',b'<w.heap.size→W1.heap[b']?=w.heap[b']?:=fun b' h=>by rw[hW1]; exact Below.heap_alloc w.drew _ _ h
  obtain ⟨cs1,hcs1⟩:∃ cs1,cs1=(row.toList.take (i*2)++vs++row.toList.drop (i*2+vs.length)).toArray:=⟨_,rfl⟩
  have hc1s:cs1.size=G*2:=by rw[hcs1]; simp only[List.size_toArray,List.length_append,List.length_take,List.length_drop,Array.length_toList,hvsl,hrs]; omega
  have hcpA:∀ (W:World),W.heap=W1.heap→∀ ty dc,(Builtin.copy_ #[40,40] ty #[.slice (some ⟨w.heap.size,i*2,none⟩) (n+1 - i) dc,.slice (some ⟨vb,0,none⟩) 1 vc]).run Tryz.prog W=.ok (goInt 1) (W.setRow w.heap.size cs1):=fun W hW ty dc=>by
    rw[hcs1]
    exact xT W 40 40 ty 113 w.heap.size (i*2) (n+1 - i) dc 2 1 ⟨vb,0,none⟩ 1 vc row 113 vs (elem?_inv he) hck (by rw[hW]; exact hN) (by simp only[Nat.min_def]; split <;> omega) hvsl
      (fun j v hj=>by
        have hj2:=(List.getElem?_eq_some_iff.1 hj).1
        rw[hvg j (by omega)] at hj
        rw[Addr.add_lit,Nat.zero_add]
        simp only[World.cell?,hW,hO vb hvw,hv]
        exact hj) (by rw[hvsl,hrs]; omega) hv1
  obtain ⟨cs2,hcs2⟩:∃ cs2,cs2=(cs1.toList.take ((i+1)*2)++mid++cs1.toList.drop ((i+1)*2+mid.length)).toArray:=⟨_,rfl⟩
  have hc2s:cs2.size=G*2:=by rw[hcs2]; simp only[List.size_toArray,List.length_append,List.length_take,List.length_drop,Array.length_toList,hml,hc1s]; omega
  have hcpB:∀ (W:World),W.heap=(W1.setRow w.heap.size cs1).heap→∀ ty dc sc,(Builtin.copy_ #[40,40] ty #[.slice (some ⟨w.heap.size,(i+1)*2,none⟩) (n - i) dc,.slice (some ⟨b,i*2,none⟩) (n - i) sc]).run Tryz.prog W=.ok (goInt ((n - i:Nat):Int)) (W.setRow w.heap.size cs2):=fun W hW ty dc sc=>by
    rw[hcs2]
    exact xT W 40 40 ty 113 w.heap.size ((i+1)*2) (n - i) dc 2 (n - i) ⟨b,i*2,none⟩ (n - i) sc cs1 113 mid (elem?_inv he) hck (by rw[hW]; exact setRow_heap _ _ row cs1 _ _ hN) (by simp only[Nat.min_def]; split <;> omega) hml
      (fun j v hj=>by
        have hj2:=(List.getElem?_eq_some_iff.1 hj).1
        rw[hml] at hj2
        rw[hmg j hj2] at hj
        rw[Addr.add_lit]
        simp only[World.cell?,hW,setRow_other W1 _ b cs1 (by omega:b≠w.heap.size),hO b hbw,hb]
        exact hj) (by rw[hml,hc1s]; omega) hm1
  have hq:∀ (W:World),W.heap=(W1.setRow w.heap.size cs1).heap→W.os=w.os→(W.tape=w.tape∧w.drawn≤W.drawn)→W.output=w.output→Hid (aQs w (some b) n i (fun q=>cur[q]?) vcur (.returned (.slice (some ⟨w.heap.size,0,none⟩) (n+1) G)) (W.setRow w.heap.size cs2)):=fun W hW h1 h2 h3=>by
    refine⟨w.heap.size,G,cs2,113,rfl,hGn,hG63,setRow_heap _ _ cs1 cs2 _ _ (by rw[hW]; exact setRow_heap _ _ row cs1 _ _ hN),by omega,.inr (Nat.le_refl _),?_,fun b' hb' _=>?_,h1,h2,h3,fun q hq=>?_⟩
    · rw[vZ,hW,vZ,hW1]; simp
    · rw[setRow_other W _ b' cs2 (by omega),hW,setRow_other W1 _ b' cs1 (by omega),hO b' hb']
    · have e1:cs1.toList[q]?=if q<i*2 then row.toList[q]? else if q<i*2+1*2 then vs[q - i*2]? else row.toList[q]?:=by
        rw[hcs1,aFh (by rw[hvsl,Array.length_toList,hrs]; omega),hvsl]
      rw[hcs2,List.getElem?_toArray,aFh (by rw[hml,Array.length_toList,hc1s]; omega),hml]
      by_cases h1:q<i*2
      · rw[if_pos (by omega),if_pos h1,e1,if_pos h1,Array.getElem?_toList,hrg q h1]
      · rw[if_neg h1]
        by_cases h2:q<i*2+2
        · rw[if_pos (by omega),if_pos h2,e1,if_neg h1,if_pos (by omega),hvg _ (by omega)]
        · rw[if_neg (by omega),if_neg h2,if_pos (by omega),hmg _ (by omega)]
          congr 1; omega
  have hE:∀ x,(w.alloc (.cells row 113)).drew=x→x.heap=W1.heap:=fun x h=>by rw[← h,hW1]; rfl
  have hW1o:W1.os=w.os∧(W1.tape=w.tape∧w.drawn≤W1.drawn)∧W1.output=w.output:=by rw[hW1]; exact⟨rfl,⟨rfl,Nat.le_succ _⟩,rfl⟩
  have mixed:=bE
  have hz1:¬ (((1:Nat):Int)=0):=by decide
  have hz2:¬ ((i:Int)=(n:Int)):=by omega
  have hz3:(c:Int)<(n:Int)+1:=by omega
  have hGi:¬ (G=i):=by omega
  have hGim:¬ (G=i+1):=by omega
  have hci:¬ (c=i):=by omega
  have hw1:IntKind.i64.wrap ((i:Int)+1)=(i:Int)+1:=by rw[IntKind.wrap_i64]; omega
  have hw2:IntKind.i64.wrap ((n:Int)+1)=(n:Int)+1:=by rw[IntKind.wrap_i64]; omega
  have hw3:IntKind.i64.wrap ((n:Int)+1 - (i:Int))=(n:Int)+1 - (i:Int):=by rw[IntKind.wrap_i64]; omega
  have hb1:(0:Int)≤(i:Int)+1:=by omega
  have hin:i≤n:=by omega
  have htn:((i:Int)+1).toNat=i+1:=by omega
  have hb3:(i:Int)≤(n:Int):=by omega
  have hic:i≤c:=by omega
  have hi1:i≤n+1:=by omega
  clear hkk hold hrow hG hcs1 hcs2 hrg hrs hmid hml hmg hm1 hpl hpll hpg hvl hvsl hvg hv1 hcell hone honv hc1s hc2s hN hO hik2
  go_enter Tryz.func165,Tryz.ntmps165
  go_wp2_with (first
    | (at_builtin; refine Lib.wpList_append_run _ rfl _ _ _ _ rfl _ _ rfl rfl _ _ (hrun _) ?_)
    | (at_builtin; refine zY _ rfl _ _ 40 40 rfl _ _ rfl rfl (hcpA _ rfl _ _) ?_))
  go_region_law_o (refine aE8 rfl _ _ 40 40 rfl (.slice (some ⟨w.heap.size,(i+1)*2,none⟩) (n - i) (G - (i+1))) (.slice (some ⟨b,i*2,none⟩) (n - i) (c - i)) (by simp [Act.eval,Act.put]) (by simp [Act.eval,Act.put]) (hcpB _ (by rw[hW1]; rfl) 3 (G - (i+1)) (c - i)) ?_)
  go_wp2
  go_ret
  exact hq _ (by rw[hW1]; rfl) rfl ⟨rfl,Nat.le_trans (Nat.le_succ _) (Nat.le_succ _)⟩ rfl
theorem pick3 {α:Type} {l:List α} {y:α} {i j:Nat} (hi:i≤l.length) (hj:j<l.length+1):(l.take i++y::l.drop i)[j]?=if j<i then l[j]? else if j=i then some y else l[j - 1]?:=by
  have ht:(l.take i).length=i:=by rw[List.length_take]; omega
  by_cases h1:j<i
  · rw[if_pos h1,List.getElem?_append_left (by omega),List.getElem?_take,if_pos h1]
  · rw[if_neg h1,List.getElem?_append_right (by omega),ht]
    by_cases h2:j=i
    · rw[if_pos h2,h2,Nat.sub_self]; rfl
    · rw[if_neg h2,show j - i=(j - i - 1)+1 from by omega,List.getElem?_cons_succ,List.getElem?_drop]
      congr 1; omega
theorem aNt (xs:List (List AV)) (y:List AV) (n i:Nat) (hn:n=xs.length) (hi:i≤n) (hbig:(n+1)*24≤140737488355328) :
    DenX Tryz.prog 165 [.own E0 2 0 n,.s (.int .i64 (i:Nat)),.own E1 2 0 1] [(E0,.buf 2 xs),(E1,.buf 2 [y])] (fun r m=>r=.own E0 2 0 (n+1)∧m=[(E0,.buf 2 (xs.take i++y::xs.drop i))]):=by
  intro A w o vals hA hdom hm hr
  obtain ⟨v0,v1,v2,rfl⟩:∃ v0 v1 v2,vals=[v0,v1,v2]:=by
    have:=hr.1
    match vals,this with
    | [a,b,c],_=>exact⟨a,b,c,rfl⟩
  have r0:=hr.2 0 _ v0 rfl rfl
  have r1:=hr.2 1 _ v1 rfl rfl
  have r2:=hr.2 2 _ v2 rfl rfl
  cases r1
  have hl0:=hm.holds E0 (.buf 2 xs) rfl
  have hl1:=hm.holds E1 (.buf 2 [y]) rfl
  rcases hl1 with ⟨hx,_⟩ | ⟨vb,vcur,T2,hvE,hv,hvs,hvk,hvc⟩
  · cases hx
  obtain ⟨vc,rfl⟩:∃ vc,v2=.slice (some ⟨vb,0,none⟩) 1 vc:=by
    cases r2 with
    | own _ _ _ _ b' cap cur' T' hg h1 h2 h3 h4 =>
      have hg':o E1=some (some b'):=hg
      have hvE':o E1=some (some vb):=hvE
      rw[hg'] at hvE'; cases hvE'
      exact⟨cap,by simp⟩
  have hyl:y.length=2∧∀ c∈y,c.leaf=true:=hvk y (by simp)
  have hyc:∀ (q:Nat) (c:AV),y[q]?=some c→∃ v,vcur[q]?=some v∧RelV w ⟨o,A⟩ c v:=fun q c hc=>by
    obtain ⟨v,h1,h2⟩:=hvc 0 y q c rfl hc
    exact⟨v,by simpa using h1,h2⟩
  have honv:∀ (j:Nat) (v:Value),j<2→vcur[j]?=some v→v.oneCell'=true:=fun j v hj hv'=>by
    have hlt:j<y.length:=by rw[hyl.1]; exact hj
    obtain ⟨u,h1,h2⟩:=hyc j y[j] (List.getElem?_eq_getElem hlt)
    rw[hv'] at h1; cases h1
    exact h2.one (AV.one_of_leaf (hyl.2 _ (List.getElem_mem hlt)))
  have hvs2:2≤vcur.size:=by simpa using hvs
  -- what was there,cell by cell
  obtain ⟨x,old,hrun,hxo,hoc,hk⟩:∃ (x:Option Nat) (old:Nat→Option Value),Calls Tryz.prog 165 [v0,.int .i64 (i:Nat),.slice (some ⟨vb,0,none⟩) 1 vc].toArray w (aQs w x n i old vcur)∧(∀ b,x=some b→o E0=some (some b)) ∧
      (∀ (j:Nat) z (q:Nat) c,xs[j]?=some z→z[q]?=some c→∃ v,old (j*2+q)=some v∧RelV w ⟨o,A⟩ c v)∧(∀ z∈xs,z.length=2∧∀ c∈z,c.leaf=true):=by
    have hempty:n=0→xs=[]:=fun h=>List.eq_nil_of_length_eq_zero (by omega)
    cases r0 with
    | ownn _ _ hg =>
      have hx0:=hempty rfl
      have hi0:i=0:=by omega
      subst hi0; subst hx0
      exact⟨none,fun _=>none,qG none 0 0 vb vc (fun _=>none) none vcur T2 w hv (Nat.le_refl _) (by omega) hbig (fun _=>rfl) [] rfl (fun q hq=>by omega) (fun a ha=>by cases ha) hvs2 honv,(fun b hb=>by cases hb),(fun j z q c h=>by simp at h),by simp⟩
    | own0 _ _ _ b a hg =>
      have hx0:=hempty rfl
      have hi0:i=0:=by omega
      subst hi0; subst hx0
      exact⟨some b,fun _=>none,qG (some ⟨b,a,none⟩) 0 0 vb vc (fun _=>none) (some b) vcur T2 w hv (Nat.le_refl _) (by omega) hbig (fun h=>by cases h) [] rfl (fun q hq=>by omega) (fun a ha j v hj=>by simp at hj) hvs2 honv,(fun b hb=>by cases hb; exact hg),(fun j z q c h=>by simp at h),by simp⟩
    | own _ _ _ _ b cap cur' T' hg h1 h2 h3 h4 =>
      rcases hl0 with ⟨_,hb⟩ | ⟨b0,cur,T,hbE,hh,hcs,hck,hcell⟩
      · have hg':o E0=some (some b):=hg
        have hb':o E0=some none:=hb
        rw[hg'] at hb'; cases hb'
      · have hg':o E0=some (some b):=hg
        have hb':o E0=some (some b0):=hbE
        rw[hg'] at hb'; cases hb'
        obtain ⟨e1,e2⟩:cur=cur'∧T=T':=by rw[hh] at h3; cases h3; exact⟨rfl,rfl⟩
        subst e1; subst e2
        have hsz:cap*2≤cur.size:=by omega
        have hc63:cap≤9223372036854775807:=by simpa [maxLen] using h2
        have hne:vb≠b:=fun e=>by
          have:=hm.inj E0 E1 b hg' (by rw[← e]; exact hvE)
          exact absurd this (by decide)
        have hone:∀ (j:Nat) (v:Value),j<n*2→cur[j]?=some v→v.oneCell'=true:=fun j v hj hv'=>by
          have hj2:j / 2<xs.length:=by rw[← hn]; omega
          have hy':xs[j / 2]?=some xs[j / 2]:=List.getElem?_eq_getElem hj2
          have hl:=hck _ (List.mem_of_getElem? hy')
          have hq:j % 2<(xs[j / 2]).length:=by rw[hl.1]; omega
          obtain ⟨u,hu,hru⟩:=hcell (j / 2) _ (j % 2) _ hy' (List.getElem?_eq_getElem hq)
          rw[show j / 2*2+j % 2=j by omega,hv'] at hu
          cases hu
          exact hru.one (AV.one_of_leaf (hl.2 _ (List.getElem_mem hq)))
        refine⟨some b,fun q=>cur[q]?,?_,(fun b' hb'=>by cases hb'; exact hg'),hcell,hck⟩
        have hv0:(⟨b,0*2,none⟩:Addr)=⟨b,0,none⟩:=by simp
        rw[hv0]
        by_cases hin:i<n
        · by_cases hroom:n+1≤cap
          · refine(aKy b n cap i vb vc cur vcur T T2 w hh hv hne hin hroom hc63 hsz hvs2 hone honv).mono ?_
            rintro e w' ⟨rfl,cs,rfl,hcsz,hq⟩
            exact aNv rfl rfl ⟨rfl,Nat.le_succ _⟩ rfl hh hroom hc63 hsz hcsz hq
          · exact aNs b n cap i vb vc cur vcur T T2 w hh hv hin h1 (by omega) hbig hsz hvs2 hone honv
        · have hie:i=n:=by omega
          rw[hie]
          by_cases hroom:n+1≤cap
          · exact aEe b n cap vb vc cur vcur T T2 w hh hv hroom hc63 hsz hvs2 honv
          · have htl:(cur.toList.take (n*2)).length=n*2:=by rw[List.length_take,Array.length_toList]; omega
            exact qG (some ⟨b,0,none⟩) n cap vb vc (fun q=>cur[q]?) (some b) vcur T2 w hv h1 (by omega) hbig (fun h=>by cases h) (cur.toList.take (n*2)) htl (fun q hq=>by rw[List.getElem?_take,if_pos hq,Array.getElem?_toList]) (fun a ha j v hj=>by
              cases ha
              have hj2:=(List.getElem?_eq_some_iff.1 hj).1
              rw[htl] at hj2
              rw[List.getElem?_take,if_pos hj2,Array.getElem?_toList] at hj
              rw[Addr.add_lit,Nat.zero_add]
              simp only[World.cell?,hh]
              exact hj) hvs2 honv
  refine hrun.mono ?_
  rintro e w' ⟨b',cap',cs,T,rfl,q1,q2,q3,q4,q5,q6,q7,q8,q9,q10,q11⟩
  have hnx:∀ b,Stable w ⟨o,A⟩ b→x≠some b:=fun b hb hx=>hb.2.1 E0 (hxo b hx)
  have hst:∀ b,Stable w ⟨o,A⟩ b→Stable w' ⟨fun g=>if g=E0 then some (some b') else none,A⟩ b∧w'.heap[b]?=w.heap[b]?:=fun b hb=>by
    refine⟨⟨Nat.lt_of_lt_of_le hb.1 q6,fun g hg=>?_,hb.2.2⟩,q7 b hb.1 (hnx b hb)⟩
    simp only at hg
    split at hg
    · cases hg
      rcases q5 with h | h
      · exact hnx b' hb h
      · have:=hb.1; omega
    · cases hg
  have hmv:∀ (a:AV) (v:Value),a.leaf=true→RelV w ⟨o,A⟩ a v→RelV w' ⟨fun g=>if g=E0 then some (some b') else none,A⟩ a v:=fun a v hlf h=>h.move (ok:=fun _=>false) hst (fun _ _ h _=>by cases h) (AV.clean_of_leaf hlf)
  have hlen:(xs.take i++y::xs.drop i).length=n+1:=by simp only[List.length_append,List.length_take,List.length_cons,List.length_drop]; omega
  have hA':¬ A b':=fun h=>by
    rcases q5 with h1 | h1
    · exact hm.avoid E0 b' (hxo b' h1) h
    · have:=hA b' h; omega
  refine⟨_,.own E0 2 0 (n+1),[(E0,.buf 2 (xs.take i++y::xs.drop i))],fun g=>if g=E0 then some (some b') else none,rfl,⟨rfl,rfl⟩,⟨q8,q9,q10,q6,fun b hb hno=>q7 b hb fun hx=>hno E0 (hxo b hx)⟩,fun g b hg=>?_,⟨fun g hg=>?_,fun g m hg=>?_,fun g g' b h1 h2=>?_,fun g b hg=>?_⟩,rfl,?_⟩
  · try simp only at hg
    split at hg
    · cases hg
      rcases q5 with h | h
      · exact .inl ⟨E0,hxo b' h⟩
      · exact .inr h
    · cases hg
  · show (if g=E0 then some (some b') else none)=none
    rw[dB] at hg
    split at hg
    · cases hg
    · rename_i hne; rw[if_neg (fun e=>hne e.symm)]
  · rw[dB] at hg
    split at hg
    · rename_i e; subst e; cases hg
      refine .inr ⟨b',cs,T,by simp,q3,by rw[hlen]; omega,fun z hz=>?_,fun j z q c hz hc=>?_⟩
      · rcases List.mem_append.1 hz with hz | hz
        · exact hk z (List.mem_of_mem_take hz)
        · rcases List.mem_cons.1 hz with rfl | hz
          · exact hyl
          · exact hk z (List.mem_of_mem_drop hz)
      · have hj:j<n+1:=by rw[← hlen]; exact(List.getElem?_eq_some_iff.1 hz).1
        rw[pick3 (by omega) (by omega)] at hz
        by_cases h1:j<i
        · rw[if_pos h1] at hz
          have hzk:=hk z (List.mem_of_getElem? hz)
          have hq:q<2:=by rw[← hzk.1]; exact(List.getElem?_eq_some_iff.1 hc).1
          obtain ⟨v,hv1,hv2⟩:=hoc j z q c hz hc
          exact⟨v,by rw[q11 _ (by omega),if_pos (by omega)]; exact hv1,hmv _ _ (hzk.2 c (List.mem_of_getElem? hc)) hv2⟩
        · rw[if_neg h1] at hz
          by_cases h2:j=i
          · rw[if_pos h2] at hz
            cases hz
            have hq:q<2:=by rw[← hyl.1]; exact(List.getElem?_eq_some_iff.1 hc).1
            obtain ⟨v,hv1,hv2⟩:=hyc q c hc
            refine⟨v,?_,hmv _ _ (hyl.2 c (List.mem_of_getElem? hc)) hv2⟩
            rw[q11 _ (by omega),if_neg (by omega),if_pos (by omega),show j*2+q - i*2=q from by omega]; exact hv1
          · rw[if_neg h2] at hz
            have hzk:=hk z (List.mem_of_getElem? hz)
            have hq:q<2:=by rw[← hzk.1]; exact(List.getElem?_eq_some_iff.1 hc).1
            obtain ⟨v,hv1,hv2⟩:=hoc (j - 1) z q c hz hc
            refine⟨v,?_,hmv _ _ (hzk.2 c (List.mem_of_getElem? hc)) hv2⟩
            rw[q11 _ (by omega),if_neg (by omega),if_neg (by omega),show j*2+q - 2=(j - 1)*2+q from by omega]; exact hv1
    · cases hg
  · try simp only at h1 h2
    split at h1
    · split at h2
      · rename_i e1 e2; rw[e1,e2]
      · cases h2
    · cases h1
  · try simp only at hg
    split at hg
    · cases hg; exact hA'
    · cases hg
  · have:=RelV.own (w:=w') (p:=⟨fun g=>if g=E0 then some (some b') else none,A⟩) E0 2 0 (n+1) b' cap' cs T (by simp) q1 (by simpa [maxLen] using q2) q3 (by omega)
    simpa using this
end Go.Proofs.YtpkanhklapfajaaGreat
set_option linter.unusedVariables false
set_option linter.unusedSimpArgs false
namespace Go.Proofs.YtpkanhklapfajaaGreat
open Go Go.Abs
theorem vR {g:Nat} {cap:List AV} (hent:∀ args w,(callFunc g args).run Tryz.prog w=.ok (.enter g args) w) (hcl:cleanL (fun _=>false) cap=true) (p:Us→Bool) (l:List Us) (hl:l.length≤9223372036854775807) (hp:∀ x∈l,Den Tryz.prog g (.agg (usC x)::cap) (·=.s (.bool (p x)))) :Den Tryz.prog 139 [.sl 2 (l.map usC),.fn g cap]  (·=.s (.int .i64 (qH p l))):=by
 refine aR Tryz.func139 rfl (Nat.le_of_ble_eq_true rfl) (fun w0 A hf=>(aC (fun K1 hK1=>(aB (aE aA 1 rfl (aD (hK1 _ (aC (fun K2 hK2=>(aC (fun K3 hK3=>(aB (aE aA 3 rfl (aD (hK3 _ (aP ?_))))))))))))))))
 refine bT (ι:=Nat) (fun k=>⟨19,[(0,.sl 2 (l.map usC)),(1,.fn g cap),(7,.s (.int .i64 ((l.map usC).length:Nat))),(8,.s (.int .i64 (k:Nat)))],[]⟩) (fun k=>k≤l.length∧∀ (j:Nat) (hj:j<l.length),j<k→p l[j]=false) (fun k=>l.length - k) 0 ?_ ?_ ?_
 · exact⟨by omega,by omega⟩
 · exact cQ rfl
 ·
  rintro k hC
  obtain ⟨h1,h2⟩:=hC
  refine aC (fun K4 hK4=>(aB (aE aA 1 rfl (aD (hK4 _ (aC (fun K5 hK5=>(aL rfl (fun hc1=>?_) (fun hc1=>?_)))))))))
  ·
   simp only[bs] at hc1
   refine aN (hK5 _ (aC (fun K6 hK6=>(aP (aC (fun K7 hK7=>(aB (aE aA 2 rfl (aD (hK7 _ (aC (fun K8 hK8=>(aB (aE aA 3 rfl ?_))))))))))))))
   refine aH rfl (bG rfl rfl fJ eG (by first | exact ixm (by omega) | assumption | exact⟨by decide,rfl⟩)) ?_
   refine aE aA 1 rfl (aI hf rfl (aK rfl rfl hent (by rw[gV,hcl]; rfl) (hp _ (List.getElem_mem _))) ?_)
   refine aD (hK8 _ (aL rfl (fun hc2=>?_) (fun hc2=>?_)))
   ·
    refine aC (fun K9 hK9=>(aB (aE aA 2 rfl (aD (hK9 _ (aJ ?_))))))
    refine⟨_,rfl,?_⟩
    refine dM ?_
    rw[oT (by omega) h2 (by assumption)]
   ·
    refine aN (hK6 _ (aB ?_))
    refine aH rfl (bO rfl rfl (by omega) (by omega)) ?_
    refine aE aA 1 rfl (aD ?_)
    exact⟨k+1,⟨by omega,fun j hj hjk=>by
      by_cases e:j=k
      · subst e; simp_all
      · exact h2 j hj (by omega)⟩,by omega,cQ rfl⟩
  ·
   simp only[bs] at hc1
   refine bF (hK2 _ (aC (fun K10 hK10=>(aB (aE aA 1 rfl (aD (hK10 _ (aJ ?_))))))))
   refine⟨_,rfl,?_⟩
   refine dM ?_
   rw[qU (fun j hj=>h2 j hj (by omega))]
theorem aHw {g:Nat} {cap:List AV} (hent:∀ args w,(callFunc g args).run Tryz.prog w=.ok (.enter g args) w) (hcl:cleanL (fun _=>false) cap=true) (p:Us→Bool) (l:List Us) (hl:l.length≤9223372036854775807) (hp:∀ x∈l,Den Tryz.prog g (.agg (usC x)::cap) (·=.s (.bool (p x)))) :Den Tryz.prog 87 [.sl 2 (l.map usC),.fn g cap]  (·=.s (.bool (l.any p))):=by
 refine aR Tryz.func87 rfl (Nat.le_of_ble_eq_true rfl) (fun w0 A hf=>(aC (fun K1 hK1=>(aB (aE aA 1 rfl (aD (hK1 _ (aC (fun K2 hK2=>(aB (aE aA 2 rfl (aI hf rfl (aK rfl rfl aDy (by show (true&&(cleanL (fun _=>false) cap&&true))=true; rw[hcl]; rfl) (vR hent hcl p l hl hp)) ?_))))))))))))
 refine aE aA 2 rfl (aD (hK2 _ (aJ ?_)))
 refine⟨_,rfl,?_⟩
 refine aO ?_
 rw[← pW]
theorem aD7 {g:Nat} {cap:List AV} (hent:∀ args w,(callFunc g args).run Tryz.prog w=.ok (.enter g args) w) (hcl:cleanL (fun _=>false) cap=true) (hcv:∀ m,convL m cap=cap) (p:Us→Bool) (l:List Us) (n:Nat) (hn:n=l.length) (hl:l.length≤9223372036854775807) (hp:∀ x∈l,Den Tryz.prog g (.agg (usC x)::cap) (·=.s (.bool (p x)))) :DenM Tryz.prog 160 [.own E0 2 0 n,.fn g cap] 2 ((l.map usC)) (fun r ys=>r=.own E0 2 0 (l.filter fun x=>!p x).length∧ys=((l.filter fun x=>!p x).map usC)):=by
 subst hn
 have hq0:∀ j,((l.take j).filter fun x=>!p x).length≤j:=fun j=>iX _ l j
 have hq1:∀ j,((l.take j).filter fun x=>!p x).length≤l.length:=fun j=>iJ _ l j
 refine iK Tryz.func160 rfl (Nat.le_of_ble_eq_true rfl) (fun w0 x0 A hf=>?_)
 refine aC (fun K1 hK1=>(aB (aH rfl (bK) (aD (hK1 _ (aC (fun K2 hK2=>(aB (aE aA 2 rfl (aI hf rfl (sG rfl rfl (by show [AV.conv _ _,AV.fn g (convL _ cap)]=_; rw[hcv,cI (g:=E0) rfl (by simp)]) aDy (vR hent hcl p l hl hp) rfl) ?_))))))))))
 refine aE aA 1 rfl (aD (hK2 _ (aC (fun K3 hK3=>(aC (fun K4 hK4=>(aB (aE aA 2 rfl (aD (hK4 _ (aL rfl (fun hc1=>?_) (fun hc1=>?_))))))))))))
 ·
  simp only[bs] at hc1
  refine aC (fun K5 hK5=>(aB (aE aA 2 rfl (aD (hK5 _ (aJ ?_))))))
  have hno:qH p l=-1:=by simpa using hc1
  rcases eP p l with ⟨_,hn⟩ | ⟨k,hk,e,_⟩
  · exact⟨_,.own E0 2 0 l.length,(l.map usC),Le.refl _,rfl,rfl,by rw[gU p l hn],by rw[gU p l hn]⟩
  · exfalso; omega
 ·
  simp only[bs] at hc1
  refine aN (hK3 _ (aC (fun K6 hK6=>(aC (fun K7 hK7=>(aB ?_))))))
  rcases eP p l with ⟨e0,_⟩ | ⟨k0,hk0,ek0,hpk0,hbef⟩
  · exact absurd e0 (by simpa using hc1)
  have hst:=lX (fun x=>!p x) l k0 hk0 (fun j hj hjk=>by simp [hbef j hj hjk]) (by simp [hpk0])
  rw[ek0]
  refine aE aA 1 rfl ?_
  refine aH rfl (bO rfl rfl (by omega) (by omega)) ?_
  refine aE aA 1 rfl (aD (hK7 _ (aP (bT (ι:=Nat) (fun j=>⟨42,[(0,.own E0 2 0 l.length),(1,.fn g cap),(5,.s (.int .i64 (((l.take j).filter fun x=>!p x).length:Nat))),(6,.s (.int .i64 (j:Nat)))],[(E0,.buf 2 ((jX (fun x=>!p x) l j).map usC))]⟩) (fun j=>j≤l.length) (fun j=>l.length - j) (k0+1) ?_ ?_ ?_))))
  · exact hk0
  · rw[hst.1,hst.2]; exact kI ⟨rfl,rfl,rfl,rfl,trivial⟩
  ·
   rintro j hC
   let q:=fun x=>!p x
   have hle:((l.take j).filter q).length≤j:=hq0 j
   have hle2:((l.take j).filter fun x=>!p x).length≤j:=hq0 j
   refine aC (fun K8 hK8=>(aC (fun K9 hK9=>(aB (aE aA 4 rfl (aD (hK9 _ (aL rfl (fun hc2=>?_) (fun hc2=>?_)))))))))
   ·
    simp only[bs] at hc2
    refine aN (hK8 _ (aC (fun K10 hK10=>(aP (aC (fun K11 hK11=>(aB (aE aA 2 rfl ?_))))))))
    refine aH rfl (cB rfl rfl fJ eG (by omega)) ?_
    refine aH rfl (cD rfl aO0 eG rfl (qK (c:=2) (k:=j) (enc:=usC) (by omega) (by rw[eQ]; omega) rfl) (cs':=usC l[j]) (by rw[nV (c:=2) (k:=j) (enc:=usC) (by omega) (by rw[eQ]; omega) rfl,qV q l j j (by omega) hle])) ?_
    refine bY hf rfl oG rfl eG rfl rfl rfl rfl (lf rfl) (aD (hK11 _ (aC (fun K12 hK12=>(aB (aE aA 2 rfl (aI hf rfl (aK rfl rfl hent (by rw[gV,hcl]; rfl) (hp _ (List.getElem_mem _))) ?_)))))))
    refine aE aA 1 rfl (aD (hK12 _ (aL rfl (fun hc3=>?_) (fun hc3=>?_))))
    ·
     simp only[bs] at hc3
     refine aC (fun K13 hK13=>(aB (aE aA 3 rfl ?_)))
     refine aH rfl (cB rfl rfl fJ eG (by omega)) ?_
     refine bB hf rfl rfl eG rfl rfl (by simp [usC,AV.cells,AV.one,Value.oneCell',splice]) (by simp [usC,AV.cells,AV.leaf,Value.oneCell',splice]) (iS (c:=2) (k:=((l.take j).filter fun x=>!p x).length) (enc:=usC) (v:=l[j]) (by omega) (by rw[eQ]; omega) rfl (Nat.le_refl _)) ?_
     refine aD (hK13 _ (aB ?_))
     rw[kY (fun x=>!p x) l j (by omega) (by simp_all)]
     refine aE aA 1 rfl ?_
     refine aH rfl (bO rfl rfl (by omega) (by omega)) ?_
     rw[nD (fun x=>!p x) l j (by omega) (by simp_all)]
     refine aE aA 1 rfl ?_
     refine bS ?_
     refine hK10 _ (aB (aE aA 1 rfl ?_))
     refine aH rfl (bO rfl rfl (by omega) (by omega)) ?_
     refine aE aA 1 rfl (aD ?_)
     exact⟨j+1,(by omega),by omega,cQ rfl⟩
    ·
     simp only[bs] at hc3
     rw[kZ (fun x=>!p x) l j (by omega) (by simp_all),nE (fun x=>!p x) l j (by omega) (by simp_all)]
     refine aN (hK10 _ (aB (aE aA 1 rfl ?_)))
     refine aH rfl (bO rfl rfl (by omega) (by omega)) ?_
     refine aE aA 1 rfl (aD ?_)
     exact⟨j+1,(by omega),by omega,cQ rfl⟩
   ·
    simp only[bs] at hc2
    refine bF (hK6 _ (aC (fun K14 hK14=>(aB (aE aA 2 rfl ?_)))))
    refine aH rfl (eW rfl fJ eG rfl rfl (by omega) (by omega)) ?_
    refine xL hf iH oG (by simp [Value.oneCell']) rfl rfl ?_
    refine aD (hK14 _ (aC (fun K15 hK15=>(aB (aE aA 2 rfl ?_)))))
    refine aH rfl (eW rfl fJ eG rfl rfl (by omega) (by omega)) ?_
    refine aE aA 1 rfl (aD (hK15 _ (aJ ?_)))
    have hjl:l.length≤j:=by omega
    have he:=oX (fun x=>!p x) l j hjl
    refine⟨_,_,_,Le.refl _,rfl,rfl,?_,?_⟩
    · rw[List.take_of_length_le hjl]; rfl
    · rw[List.take_of_length_le hjl,Nat.zero_add,Int.toNat_natCast,← List.map_take,he]
theorem rC (l:List Us) (hl:l.length*40≤140737488355328) :DenO Tryz.prog 118 [.sl 2 (l.map usC)] 2 (·=(l.map usC)):=by
 refine gK Tryz.func118 rfl (Nat.le_of_ble_eq_true rfl) (fun w0 A hf=>?_)
 refine aC (fun K1 hK1=>(aB (aH rfl (bK) (aD (hK1 _ (aC (fun K2 hK2=>(aC (fun K3 hK3=>(aB (aE aA 1 rfl ?_)))))))))))
 refine oN rfl rfl rfl fJ (fun b hb1=>?_)
 refine aD (hK3 _ (aL rfl (fun hc2=>?_) (fun hc2=>?_)))
 ·
  have hl0:l=[]:=by simpa using hb1 (by assumption)
  refine aC (fun K4 hK4=>(aB (mC hf 2 rfl rfl rfl (aD (hK4 _ (aJ ?_))))))
  exact⟨2,[],by decide,rfl,rfl,by rw[hl0]; rfl⟩
 ·
  refine aN (hK2 _ (aC (fun K5 hK5=>(aB (dR hf rfl rfl rfl iH rfl rfl rfl rfl (l2 rfl) ?_)))))
  refine aE aA 1 rfl (bH hf rfl iH rfl rfl rfl (.inl rfl) rfl rfl (by first | rfl | simp [eK,bL]) (by first | (simp only[maxLen,List.length_map,List.length_append,List.length_cons,List.length_nil]; omega) | (simp [maxLen] <;> omega)) (by first | (simp only[List.length_map,List.length_append,List.length_cons,List.length_nil]; omega) | (simp <;> omega)) ?_)
  refine bD (cX [7] rfl) (aE aA 1 rfl (aD (hK5 _ (aJ ?_))))
  refine⟨5,(l.map usC),by decide,rfl,?_,rfl⟩
  show some (AV.own 5 2 0 (0+(l.map usC).length))=_
  rw[Nat.zero_add]
theorem aUi (n:Nat) (hn:n*40≤140737488355328) :DenO Tryz.prog 187 [.s (.slice none 0 0),.s (.int .i64 (n:Nat))] 2 (·=[]):=by
 refine gK Tryz.func187 rfl (Nat.le_of_ble_eq_true rfl) (fun w0 A hf=>?_)
 refine aC (fun K1 hK1=>(aB (aH rfl (bK) (aD (hK1 _ (aC (fun K2 hK2=>(aC (fun K3 hK3=>(aB (aE aA 2 rfl (aD (hK3 _ (aL rfl (fun hc1=>?_) (fun hc1=>?_)))))))))))))))
 ·
  simp only[bs] at hc1
  omega
 ·
  simp only[bs] at hc1
  refine aN (hK2 _ (aC (fun K4 hK4=>(aC (fun K5 hK5=>(aB (aE aA 2 rfl (aH rfl (nA rfl fJ) (aE aA 2 rfl ?_)))))))))
  refine aH rfl (eZ rfl rfl (by omega) (by omega)) ?_
  refine aH rfl (eZ rfl rfl (by omega) (by omega)) ?_
  refine aE aA 1 rfl (aD (hK5 _ (aC (fun K6 hK6=>(aB (aE aA 2 rfl (aD (hK6 _ (aL rfl (fun hc2=>?_) (fun hc2=>?_))))))))))
  ·
   simp only[bs] at hc2
   refine aB (aE aA 2 rfl (aH rfl (nA rfl fJ) ?_))
   refine aH rfl (sJ rfl fJ eG rfl) ?_
   refine aE aA 1 rfl (xM hf rfl rfl rfl iH Tryz.underlying3 rfl rfl (by omega) (by omega) (by simp only[maxLen]; omega) ?_)
   refine aE aA 2 rfl ?_
   refine aH rfl (eW rfl fJ eG rfl rfl (by omega) (by omega)) ?_
   refine aE aA 1 rfl (aD (hK4 _ (aC (fun K7 hK7=>(aB (aE aA 1 rfl ?_))))))
   refine aH rfl (wG rfl) ?_
   refine aD (hK7 _ (aJ ?_))
   exact⟨22,[],by decide,rfl,rfl,rfl⟩
  ·
   simp only[bs] at hc2
   refine aN (hK4 _ (aC (fun K8 hK8=>(aB (aE aA 1 rfl ?_)))))
   refine aJ7 hf 2 rfl rfl rfl rfl ?_
   refine aD (hK8 _ (aJ ?_))
   exact⟨4,[],by decide,rfl,rfl,rfl⟩
theorem aMb (rows:List (List Us)) (hl:rows.length≤9223372036854775807) (hb:rows.flatten.length*40≤140737488355328) :DenO Tryz.prog 166 [.sl 1 (rows.map fun r=>[AV.sl 2 (r.map usC)])] 2 (·=(rows.flatten.map usC)):=by
 refine gK Tryz.func166 rfl (Nat.le_of_ble_eq_true rfl) (fun w0 A hf=>?_)
 refine aC (fun K1 hK1=>(aB (aH rfl (bK) (aD (hK1 _ (aC (fun K2 hK2=>(aB (aE aA 1 rfl (aD (hK2 _ (aC (fun K3 hK3=>(aC (fun K4 hK4=>(aB ?_))))))))))))))))
 refine aE aA 3 rfl (aD (hK4 _ (aP (bT (ι:=Nat) (fun k=>⟨36,[(0,.sl 1 (rows.map fun r=>[AV.sl 2 (r.map usC)])),(3,.s (.int .i64 ((rows.take k).flatten.length:Nat))),(9,.sl 1 (rows.map fun r=>[AV.sl 2 (r.map usC)])),(10,.s (.int .i64 ((rows.map fun r=>[AV.sl 2 (r.map usC)]).length:Nat))),(11,.s (.int .i64 (k:Nat)))],[]⟩) (fun k=>k≤rows.length) (fun k=>rows.length - k) 0 ?_ ?_ ?_))))
 · exact Nat.zero_le _
 · exact cQ rfl
 ·
  rintro k hC
  refine aC (fun K5 hK5=>(aB (aE aA 1 rfl (aD (hK5 _ (aC (fun K6 hK6=>(aL rfl (fun hc1=>?_) (fun hc1=>?_)))))))))
  ·
   simp only[bs] at hc1
   refine aN (hK6 _ (aC (fun K7 hK7=>(aP (aC (fun K8 hK8=>(aB ?_)))))))
   refine aH rfl (bG rfl rfl aJ2 mR (by first | exact ixm (by omega) | assumption | exact⟨by decide,rfl⟩)) ?_
   refine aE aA 2 rfl (aD (hK8 _ (aC (fun K9 hK9=>(aB ?_)))))
   have hk:k<rows.length:=by omega
   have e1:=congrArg List.length (jA rows k hk)
   rw[List.length_append] at e1
   have e2:=sM rows (k+1)
   have e3:(rows[k].map usC).length=rows[k].length:=List.length_map _
   refine aE aA 3 rfl ?_
   refine aH rfl (bO rfl rfl (by omega) (by omega)) ?_
   rw[show ((((rows.take k).flatten.length:Nat):Int)+(((rows[k].map usC).length:Nat):Int))=(((rows.take (k+1)).flatten.length:Nat):Int) from by omega]
   refine aE aA 1 rfl (aD (hK9 _ (aC (fun K10 hK10=>(aB (aE aA 2 rfl (aD (hK10 _ (aL rfl (fun hc2=>?_) (fun hc2=>?_))))))))))
   ·
    simp only[bs] at hc2
    omega
   ·
    simp only[bs] at hc2
    refine aN (hK7 _ (aB ?_))
    refine aH rfl (bO rfl rfl (by omega) (by omega)) ?_
    refine aE aA 1 rfl (aD ?_)
    exact⟨k+1,(by omega),by omega,cQ rfl⟩
  ·
   simp only[bs] at hc1
   refine bF (hK3 _ (aC (fun K11 hK11=>(aB ?_))))
   rw[List.take_of_length_le (show rows.length≤k by omega)]
   refine aE aA 1 rfl (iN hf rfl rfl rfl rfl rfl aPb rfl (aUi rows.flatten.length (by omega)) ?_)
   rintro _ rfl
   refine aE aA 1 rfl (aD (hK11 _ (aC (fun K12 hK12=>(aC (fun K13 hK13=>(aB (aE aA 3 rfl (aD (hK13 _ (aP (bT (ι:=Nat) (fun j=>⟨36,[(6,.own 24 2 0 (rows.take j).flatten.length),(25,.sl 1 (rows.map fun r=>[AV.sl 2 (r.map usC)])),(26,.s (.int .i64 ((rows.map fun r=>[AV.sl 2 (r.map usC)]).length:Nat))),(27,.s (.int .i64 (j:Nat)))],[(24,.buf 2 ((rows.take j).flatten.map usC))]⟩) (fun j=>j≤rows.length) (fun j=>rows.length - j) 0 ?_ ?_ ?_))))))))))))
   · exact Nat.zero_le _
   · exact cQ rfl
   ·
    rintro j hC
    refine aC (fun K14 hK14=>(aB (aE aA 1 rfl (aD (hK14 _ (aC (fun K15 hK15=>(aL rfl (fun hc3=>?_) (fun hc3=>?_)))))))))
    ·
     simp only[bs] at hc3
     refine aN (hK15 _ (aC (fun K16 hK16=>(aP (aC (fun K17 hK17=>(aB ?_)))))))
     refine aH rfl (bG rfl rfl aJ2 mR (by first | exact ixm (by omega) | assumption | exact⟨by decide,rfl⟩)) ?_
     refine aE aA 2 rfl (aD (hK17 _ (aB ?_)))
     have hj:j<rows.length:=by omega
     have e1:=congrArg List.length (jA rows j hj)
     rw[List.length_append] at e1
     have e2:=sM rows (j+1)
     have e3:(rows[j].map usC).length=rows[j].length:=List.length_map _
     refine aE aA 2 rfl (bH hf rfl iH rfl rfl rfl (.inl rfl) (by simp only[List.length_map]) rfl (by first | rfl | simp [eK,bL]) (by first | (simp only[maxLen,List.length_map,List.length_append,List.length_cons,List.length_nil]; omega) | (simp [maxLen] <;> omega)) (by first | (simp only[List.length_map,List.length_append,List.length_cons,List.length_nil]; omega) | (simp <;> omega)) ?_)
     refine bD (cX [25,26,27,33] rfl) ?_
     rw[show (rows.take j).flatten.length+(rows[j].map usC).length=(rows.take (j+1)).flatten.length from by omega,← List.map_append,← jA rows j hj]
     refine aE aA 1 rfl ?_
     refine bS ?_
     refine hK16 _ (aB ?_)
     refine aH rfl (bO rfl rfl (by omega) (by omega)) ?_
     refine aE aA 1 rfl (aD ?_)
     exact⟨j+1,(by omega),by omega,cQ rfl⟩
    ·
     simp only[bs] at hc3
     refine bF (hK12 _ (aC (fun K18 hK18=>(aB (aE aA 2 rfl (aD (hK18 _ (aJ ?_))))))))
     refine⟨24,(rows.flatten.map usC),by decide,?_,?_,rfl⟩
     · rw[List.take_of_length_le (show rows.length≤j by omega)]; rfl
     · rw[List.take_of_length_le (show rows.length≤j by omega)]
       show some (AV.own 24 2 0 rows.flatten.length)=_
       rw[List.length_map]
end Go.Proofs.YtpkanhklapfajaaGreat
set_option linter.unusedVariables false
set_option linter.unusedSimpArgs false
namespace Go.Proofs.YtpkanhklapfajaaGreat
open Go Go.Abs
theorem nI (s:Sta) (hz:SzS 140737488355328 s) :DenX Tryz.prog 61 [.agg (aT s)] [] (fun r m=>r=.agg (eX s E0 E1)∧m=[(E0,.buf 2 (s.usr.map usC)),(E1,.buf 2 (s.tmb.map tmC))]):=by
 have z1:=hz.o
 have z2:=hz.u
 have z3:=hz.b
 have z4:=hz.t
 refine jN [] Tryz.func61 rfl (Nat.le_of_ble_eq_true rfl) (args':=[.agg (aT s)]) (m':=[]) rfl rfl (by decide) (by decide) rfl (fun w0 o0 A hf=>?_)
 refine aC (fun K1 hK1=>(aB (vI hf rfl rfl rfl rfl (l1 rfl) ?_)))
 refine aW hf rfl rfl rfl bA (aD (hK1 _ (aC (fun K2 hK2=>(eH bE ?_)))))
 refine bV (listed':=#[true,false,false,false,false,false,false,false,false,false,false,false,false,false,false,false,false,false,false,false]) 0 rfl (by kernel_rfl) (by kernel_rfl) (by kernel_rfl) rfl (fun _ _ h=>h) (sZ rfl xB mS rfl) ?_
 refine bV (listed':=#[true,false,false,true,false,false,false,false,false,false,false,false,false,false,false,false,false,false,false,false]) 3 rfl (by kernel_rfl) (by kernel_rfl) (by kernel_rfl) rfl (fun _ _ h=>h) (sZ rfl aDk mR rfl) ?_
 refine bV (listed':=#[true,false,false,true,false,false,true,false,false,false,false,false,false,false,false,false,false,false,false,false]) 6 rfl (by kernel_rfl) (by kernel_rfl) (by kernel_rfl) rfl (fun _ _ h=>h) (sZ rfl xA mQ rfl) ?_
 refine bV (listed':=#[true,false,false,true,false,false,true,false,false,true,false,false,false,false,false,false,false,false,false,false]) 9 rfl (by kernel_rfl) (by kernel_rfl) (by kernel_rfl) rfl (fun _ _ h=>h) (sZ rfl aDj tW rfl) ?_
 refine aM 7 #[true,true,true,true,true,true,true,true,true,true,true,true,true,false,false,false,false,false,false,false] ⟨40,[(1,.ref 1 0 0 0),(2,.ref 2 0 0 0),(6,.sl 4 (s.opn.map seC)),(9,.own 9 2 0 (s.usr.map usC).length),(12,.sl 4 (s.sub.map enC)),(15,.own 15 2 0 (s.tmb.map tmC).length),(16,.ref 1 0 0 2)],[(15,.buf 2 (s.tmb.map tmC)),(9,.buf 2 (s.usr.map usC)),(2,.box [.s (.int .i64 0),.s (.int .i64 0),.s (.slice none 0 0),.s (.slice none 0 0),.s (.slice none 0 0),.s (.slice none 0 0)]),(1,.box (aT s))]⟩ ?_ (fun hD0=>?_)
 ·
  refine aG 13 [] (by kernel_rfl) ⟨?_,trivial⟩
  ·
   refine⟨_,rfl,rfl,(ao rfl (bB hf rfl rfl mS rfl rfl (l1 rfl) (l4 rfl) rfl (aF (aG 14 [] (by kernel_rfl) ⟨?_,trivial⟩))))⟩
   ·
    refine⟨_,rfl,rfl,(ao rfl (aE aA 1 rfl (aF (aG 15 [] (by kernel_rfl) ⟨?_,trivial⟩))))⟩
    ·
     refine⟨_,rfl,rfl,(ao rfl (bB hf rfl rfl mR rfl rfl (l1 rfl) (l4 rfl) rfl (aF (aG 16 [] (by kernel_rfl) ⟨?_,trivial⟩))))⟩
     ·
      refine⟨_,rfl,rfl,(ao rfl (aE aA 1 rfl (aF (aG 17 [] (by kernel_rfl) ⟨?_,trivial⟩))))⟩
      ·
       refine⟨_,rfl,rfl,(ao rfl (bB hf rfl rfl mQ rfl rfl (l1 rfl) (l4 rfl) rfl (aF (aG 18 [] (by kernel_rfl) ⟨?_,trivial⟩))))⟩
       ·
        refine⟨_,rfl,rfl,(ao rfl (aE aA 1 rfl (aF (aG 19 [] (by kernel_rfl) ⟨?_,trivial⟩))))⟩
        ·
         refine⟨_,rfl,rfl,(ao rfl (bB hf rfl rfl tW rfl rfl (l1 rfl) (l4 rfl) rfl (aF (bX (by kernel_rfl) ?_))))⟩
         refine hK2 _ (aC (fun K3 hK3=>(aC (fun K4 hK4=>(aB (aE aA 4 rfl (aD (hK4 _ (aP (bT (ι:=Nat) (fun k=>⟨40,[(1,.ref 1 0 0 0),(2,.ref 2 0 0 0),(22,.s (.int .i64 ((s.usr.map usC).length:Nat))),(23,.s (.int .i64 (k:Nat)))],[(15,.buf 2 (s.tmb.map tmC)),(9,.buf 2 (s.usr.map usC)),(2,.box [.s (.int .i64 0),.s (.int .i64 0),.s (.slice none 0 0),.s (.slice none 0 0),.s (.slice none 0 0),.s (.slice none 0 0)]),(1,.box (eX s 9 15))]⟩) (fun k=>k≤s.usr.length) (fun k=>s.usr.length - k) 0 ?_ ?_ ?_))))))))))
         · exact Nat.zero_le _
         · exact cQ rfl
         ·
          rintro k hC
          refine aC (fun K5 hK5=>(aB (aE aA 1 rfl (aD (hK5 _ (aC (fun K6 hK6=>(aL rfl (fun hc1=>?_) (fun hc1=>?_)))))))))
          ·
           simp only[bs] at hc1
           refine aN (hK6 _ (aC (fun K7 hK7=>(aP (aC (fun K8 hK8=>(aB ?_)))))))
           have hk:k<s.usr.length:=by omega
           have hlm:(s.usr.map usC).length=s.usr.length:=List.length_map _
           refine aE aA 2 rfl (aD (hK8 _ (gL hf (L:=#[true,true,true,true,true,true,true,true,true,true,true,true,false]) 12 1 bE (by kernel_rfl) rfl (by kernel_rfl) rfl ?_)))
           refine aV aA 6 rfl ?_
           refine bQ [(30,_),(31,_)] rfl rfl ⟨⟨rfl,rfl⟩,⟨rfl,rfl⟩,trivial⟩ rfl (cB rfl rfl fJ eG (by omega)) ?_
           refine aV aA 1 rfl (bQ [(33,_)] rfl rfl ⟨⟨rfl,rfl⟩,trivial⟩ rfl (iW rfl aO1 rfl ((jD (by omega) hk 1).trans rfl)) (bJ [(34,_)] rfl rfl ⟨⟨rfl,rfl⟩,trivial⟩ rfl (aK rfl rfl vA rfl (dA (uG s.usr[k].2 (hz.y _ (List.getElem_mem hk))))) ?_))
           refine bQ [(27,_),(28,_)] rfl rfl ⟨⟨rfl,rfl⟩,⟨rfl,rfl⟩,trivial⟩ rfl (cB rfl rfl fJ eG (by omega)) ?_
           refine aV aA 1 rfl (rM [1,2,22,23,35,37] rfl rfl rfl ?_)
           refine aG 12 [] (by kernel_rfl) ⟨?_,trivial⟩
           ·
            refine⟨_,rfl,rfl,(ao rfl (bB hf rfl rfl tX rfl rfl (by simp [AV.cells,AV.one,Value.oneCell']) (by simp [AV.cells,AV.leaf,Value.oneCell']) (iS (c:=2) (k:=k) (f:=1) (enc:=usC) (v:=s.usr[k]) (by omega) (by omega) rfl (Nat.le_of_ble_eq_true rfl)) ?_))⟩
            refine aF (bX (by kernel_rfl) ?_)
            refine hK7 _ (aB ?_)
            refine aH rfl (bO rfl rfl (by omega) (by omega)) ?_
            refine aE aA 1 rfl (aD ?_)
            exact⟨k+1,by omega,by omega,cJ ⟨rfl,rfl,rfl,rfl,trivial⟩ (by rw[List.set_getElem_self]; rfl)⟩
          ·
           simp only[bs] at hc1
           refine bF (hK3 _ (aC (fun K9 hK9=>(aB (aH rfl (cD (cs':=eX s 9 15) rfl oH cG rfl rfl rfl) (bB hf rfl rfl cG rfl rfl (l1 rfl) (l4 rfl) rfl (aD (hK9 _ (aJ ?_)))))))))
           exact⟨_,[(E0,9),(E1,15)],_,Le.refl _,by decide,rfl,rfl,⟨rfl,rfl⟩⟩
 refine aM 8 #[true,true,true,true,true,true,true,true,true,true,true,true,false,false,false,false,false,false,false,false] ⟨40,[(1,.ref 1 0 0 0),(2,.ref 2 0 0 0),(6,.sl 4 (s.opn.map seC)),(9,.own 9 2 0 (s.usr.map usC).length),(12,.sl 4 (s.sub.map enC)),(15,.own 15 2 0 (s.tmb.map tmC).length)],[(15,.buf 2 (s.tmb.map tmC)),(9,.buf 2 (s.usr.map usC)),(2,.box [.s (.int .i64 0),.s (.int .i64 0),.s (.slice none 0 0),.s (.slice none 0 0),.s (.slice none 0 0),.s (.slice none 0 0)]),(1,.box (aT s))]⟩ ?_ (fun hD1=>?_)
 ·
  refine aG 12 [] (by kernel_rfl) ⟨?_,trivial⟩
  ·
   refine⟨_,rfl,rfl,(ao rfl (aE aA 1 rfl (aF (ag hD0 rfl rfl rfl))))⟩
 refine aM 8 #[true,true,true,true,true,true,true,true,true,true,true,false,true,false,false,false,false,false,false,false] ⟨40,[(1,.ref 1 0 0 0),(2,.ref 2 0 0 0),(6,.sl 4 (s.opn.map seC)),(9,.own 9 2 0 (s.usr.map usC).length),(12,.sl 4 (s.sub.map enC)),(14,.sl 2 (s.tmb.map tmC)),(16,.ref 1 0 0 2)],[(9,.buf 2 (s.usr.map usC)),(2,.box [.s (.int .i64 0),.s (.int .i64 0),.s (.slice none 0 0),.s (.slice none 0 0),.s (.slice none 0 0),.s (.slice none 0 0)]),(1,.box (aT s))]⟩ ?_ (fun hD2=>?_)
 ·
  refine aG 11 [] (by kernel_rfl) ⟨?_,trivial⟩
  ·
   refine⟨_,rfl,rfl,(ao rfl (iN hf rfl rfl rfl rfl rfl aD3 rfl (aE6 s.tmb (by omega)) ?_))⟩
   rintro _ rfl
   refine aF (ag hD0 rfl rfl rfl)
 refine aM 9 #[true,true,true,true,true,true,true,true,true,true,true,false,false,false,false,false,false,false,false,false] ⟨40,[(1,.ref 1 0 0 0),(2,.ref 2 0 0 0),(6,.sl 4 (s.opn.map seC)),(9,.own 9 2 0 (s.usr.map usC).length),(12,.sl 4 (s.sub.map enC)),(14,.sl 2 (s.tmb.map tmC))],[(9,.buf 2 (s.usr.map usC)),(2,.box [.s (.int .i64 0),.s (.int .i64 0),.s (.slice none 0 0),.s (.slice none 0 0),.s (.slice none 0 0),.s (.slice none 0 0)]),(1,.box (aT s))]⟩ ?_ (fun hD3=>?_)
 ·
  refine aG 11 [12] (by kernel_rfl) ⟨?_,?_,trivial⟩
  ·
   refine⟨_,rfl,rfl,(ao rfl (iN hf rfl rfl rfl rfl rfl aD3 rfl (aE6 s.tmb (by omega)) ?_))⟩
   rintro _ rfl
   refine aF (ag hD1 rfl rfl rfl)
  ·
   refine⟨_,rfl,rfl,(ao rfl (aE aA 1 rfl (aF (ag hD2 rfl rfl rfl))))⟩
 refine aM 9 #[true,true,true,true,true,true,true,true,false,true,true,false,true,false,false,false,false,false,false,false] ⟨40,[(1,.ref 1 0 0 0),(2,.ref 2 0 0 0),(6,.sl 4 (s.opn.map seC)),(9,.own 9 2 0 (s.usr.map usC).length),(11,.sl 4 (s.sub.map enC)),(14,.sl 2 (s.tmb.map tmC)),(16,.ref 1 0 0 2)],[(9,.buf 2 (s.usr.map usC)),(2,.box [.s (.int .i64 0),.s (.int .i64 0),.s (.slice none 0 0),.s (.slice none 0 0),.s (.slice none 0 0),.s (.slice none 0 0)]),(1,.box (aT s))]⟩ ?_ (fun hD4=>?_)
 ·
  refine aG 8 [] (by kernel_rfl) ⟨?_,trivial⟩
  ·
   refine⟨_,rfl,rfl,(ao rfl (aI hf rfl (aK rfl rfl nN rfl (dA (oW s.sub (by omega)))) (aF (ag hD2 rfl rfl rfl))))⟩
 refine aM 10 #[true,true,true,true,true,true,true,true,true,true,false,false,false,false,false,false,false,false,false,false] ⟨40,[(1,.ref 1 0 0 0),(2,.ref 2 0 0 0),(6,.sl 4 (s.opn.map seC)),(9,.own 9 2 0 (s.usr.map usC).length),(12,.sl 4 (s.sub.map enC)),(13,.ref 1 0 0 5)],[(9,.buf 2 (s.usr.map usC)),(2,.box [.s (.int .i64 0),.s (.int .i64 0),.s (.slice none 0 0),.s (.slice none 0 0),.s (.slice none 0 0),.s (.slice none 0 0)]),(1,.box (aT s))]⟩ ?_ (fun hD5=>?_)
 ·
  refine aG 10 [] (by kernel_rfl) ⟨?_,trivial⟩
  ·
   refine⟨_,rfl,rfl,(ao rfl (aE aA 1 rfl (aF (ag hD3 rfl rfl rfl))))⟩
 refine aM 10 #[true,true,true,true,true,true,true,true,false,true,true,false,false,false,false,false,false,false,false,false] ⟨40,[(1,.ref 1 0 0 0),(2,.ref 2 0 0 0),(6,.sl 4 (s.opn.map seC)),(9,.own 9 2 0 (s.usr.map usC).length),(11,.sl 4 (s.sub.map enC)),(14,.sl 2 (s.tmb.map tmC))],[(9,.buf 2 (s.usr.map usC)),(2,.box [.s (.int .i64 0),.s (.int .i64 0),.s (.slice none 0 0),.s (.slice none 0 0),.s (.slice none 0 0),.s (.slice none 0 0)]),(1,.box (aT s))]⟩ ?_ (fun hD6=>?_)
 ·
  refine aG 8 [12] (by kernel_rfl) ⟨?_,?_,trivial⟩
  ·
   refine⟨_,rfl,rfl,(ao rfl (aI hf rfl (aK rfl rfl nN rfl (dA (oW s.sub (by omega)))) (aF (ag hD3 rfl rfl rfl))))⟩
  ·
   refine⟨_,rfl,rfl,(ao rfl (aE aA 1 rfl (aF (ag hD4 rfl rfl rfl))))⟩
 refine aM 10 #[true,true,true,true,true,false,true,true,false,true,true,false,true,false,false,false,false,false,false,false] ⟨40,[(1,.ref 1 0 0 0),(2,.ref 2 0 0 0),(6,.sl 4 (s.opn.map seC)),(8,.sl 2 (s.usr.map usC)),(11,.sl 4 (s.sub.map enC)),(14,.sl 2 (s.tmb.map tmC)),(16,.ref 1 0 0 2)],[(2,.box [.s (.int .i64 0),.s (.int .i64 0),.s (.slice none 0 0),.s (.slice none 0 0),.s (.slice none 0 0),.s (.slice none 0 0)]),(1,.box (aT s))]⟩ ?_ (fun hD7=>?_)
 ·
  refine aG 5 [] (by kernel_rfl) ⟨?_,trivial⟩
  ·
   refine⟨_,rfl,rfl,(ao rfl (iN hf rfl rfl rfl rfl rfl qA rfl (rC s.usr (by omega)) ?_))⟩
   rintro _ rfl
   refine aF (ag hD4 rfl rfl rfl)
 refine aM 11 #[true,true,true,true,true,true,true,true,false,true,false,false,false,false,false,false,false,false,false,false] ⟨40,[(1,.ref 1 0 0 0),(2,.ref 2 0 0 0),(6,.sl 4 (s.opn.map seC)),(9,.own 9 2 0 (s.usr.map usC).length),(11,.sl 4 (s.sub.map enC)),(13,.ref 1 0 0 5)],[(9,.buf 2 (s.usr.map usC)),(2,.box [.s (.int .i64 0),.s (.int .i64 0),.s (.slice none 0 0),.s (.slice none 0 0),.s (.slice none 0 0),.s (.slice none 0 0)]),(1,.box (aT s))]⟩ ?_ (fun hD8=>?_)
 ·
  refine aG 8 [10] (by kernel_rfl) ⟨?_,?_,trivial⟩
  ·
   refine⟨_,rfl,rfl,(ao rfl (aI hf rfl (aK rfl rfl nN rfl (dA (oW s.sub (by omega)))) (aF (ag hD5 rfl rfl rfl))))⟩
  ·
   refine⟨_,rfl,rfl,(ao rfl (aE aA 1 rfl (aF (ag hD6 rfl rfl rfl))))⟩
 refine aM 11 #[true,true,true,true,true,true,true,false,false,true,true,false,false,false,false,false,false,false,false,false] ⟨40,[(1,.ref 1 0 0 0),(2,.ref 2 0 0 0),(6,.sl 4 (s.opn.map seC)),(9,.own 9 2 0 (s.usr.map usC).length),(10,.ref 1 0 0 4),(14,.sl 2 (s.tmb.map tmC))],[(9,.buf 2 (s.usr.map usC)),(2,.box [.s (.int .i64 0),.s (.int .i64 0),.s (.slice none 0 0),.s (.slice none 0 0),.s (.slice none 0 0),.s (.slice none 0 0)]),(1,.box (aT s))]⟩ ?_ (fun hD9=>?_)
 ·
  refine aG 7 [] (by kernel_rfl) ⟨?_,trivial⟩
  ·
   refine⟨_,rfl,rfl,(ao rfl (aE aA 1 rfl (aF (ag hD6 rfl rfl rfl))))⟩
 refine aM 11 #[true,true,true,true,true,false,true,true,false,true,true,false,false,false,false,false,false,false,false,false] ⟨40,[(1,.ref 1 0 0 0),(2,.ref 2 0 0 0),(6,.sl 4 (s.opn.map seC)),(8,.sl 2 (s.usr.map usC)),(11,.sl 4 (s.sub.map enC)),(14,.sl 2 (s.tmb.map tmC))],[(2,.box [.s (.int .i64 0),.s (.int .i64 0),.s (.slice none 0 0),.s (.slice none 0 0),.s (.slice none 0 0),.s (.slice none 0 0)]),(1,.box (aT s))]⟩ ?_ (fun hD10=>?_)
 ·
  refine aG 5 [12] (by kernel_rfl) ⟨?_,?_,trivial⟩
  ·
   refine⟨_,rfl,rfl,(ao rfl (iN hf rfl rfl rfl rfl rfl qA rfl (rC s.usr (by omega)) ?_))⟩
   rintro _ rfl
   refine aF (ag hD6 rfl rfl rfl)
  ·
   refine⟨_,rfl,rfl,(ao rfl (aE aA 1 rfl (aF (ag hD7 rfl rfl rfl))))⟩
 refine aM 12 #[true,true,true,true,true,true,true,false,false,true,false,false,false,false,false,false,false,false,false,false] ⟨40,[(1,.ref 1 0 0 0),(2,.ref 2 0 0 0),(6,.sl 4 (s.opn.map seC)),(9,.own 9 2 0 (s.usr.map usC).length),(10,.ref 1 0 0 4),(13,.ref 1 0 0 5)],[(9,.buf 2 (s.usr.map usC)),(2,.box [.s (.int .i64 0),.s (.int .i64 0),.s (.slice none 0 0),.s (.slice none 0 0),.s (.slice none 0 0),.s (.slice none 0 0)]),(1,.box (aT s))]⟩ ?_ (fun hD11=>?_)
 ·
  refine aG 7 [10] (by kernel_rfl) ⟨?_,?_,trivial⟩
  ·
   refine⟨_,rfl,rfl,(ao rfl (aE aA 1 rfl (aF (ag hD8 rfl rfl rfl))))⟩
  ·
   refine⟨_,rfl,rfl,(ao rfl (aE aA 1 rfl (aF (ag hD9 rfl rfl rfl))))⟩
 refine aM 12 #[true,true,true,true,true,false,true,true,false,true,false,false,false,false,false,false,false,false,false,false] ⟨40,[(1,.ref 1 0 0 0),(2,.ref 2 0 0 0),(6,.sl 4 (s.opn.map seC)),(8,.sl 2 (s.usr.map usC)),(11,.sl 4 (s.sub.map enC)),(13,.ref 1 0 0 5)],[(2,.box [.s (.int .i64 0),.s (.int .i64 0),.s (.slice none 0 0),.s (.slice none 0 0),.s (.slice none 0 0),.s (.slice none 0 0)]),(1,.box (aT s))]⟩ ?_ (fun hD12=>?_)
 ·
  refine aG 5 [10] (by kernel_rfl) ⟨?_,?_,trivial⟩
  ·
   refine⟨_,rfl,rfl,(ao rfl (iN hf rfl rfl rfl rfl rfl qA rfl (rC s.usr (by omega)) ?_))⟩
   rintro _ rfl
   refine aF (ag hD8 rfl rfl rfl)
  ·
   refine⟨_,rfl,rfl,(ao rfl (aE aA 1 rfl (aF (ag hD10 rfl rfl rfl))))⟩
 refine aM 12 #[true,true,true,true,true,false,true,false,false,true,true,false,false,false,false,false,false,false,false,false] ⟨40,[(1,.ref 1 0 0 0),(2,.ref 2 0 0 0),(6,.sl 4 (s.opn.map seC)),(8,.sl 2 (s.usr.map usC)),(10,.ref 1 0 0 4),(14,.sl 2 (s.tmb.map tmC))],[(2,.box [.s (.int .i64 0),.s (.int .i64 0),.s (.slice none 0 0),.s (.slice none 0 0),.s (.slice none 0 0),.s (.slice none 0 0)]),(1,.box (aT s))]⟩ ?_ (fun hD13=>?_)
 ·
  refine aG 5 [7] (by kernel_rfl) ⟨?_,?_,trivial⟩
  ·
   refine⟨_,rfl,rfl,(ao rfl (iN hf rfl rfl rfl rfl rfl qA rfl (rC s.usr (by omega)) ?_))⟩
   rintro _ rfl
   refine aF (ag hD9 rfl rfl rfl)
  ·
   refine⟨_,rfl,rfl,(ao rfl (aE aA 1 rfl (aF (ag hD10 rfl rfl rfl))))⟩
 refine aM 12 #[true,true,true,true,false,false,true,true,false,true,true,false,false,false,false,false,false,false,false,false] ⟨40,[(1,.ref 1 0 0 0),(2,.ref 2 0 0 0),(6,.sl 4 (s.opn.map seC)),(7,.ref 1 0 0 3),(11,.sl 4 (s.sub.map enC)),(14,.sl 2 (s.tmb.map tmC))],[(2,.box [.s (.int .i64 0),.s (.int .i64 0),.s (.slice none 0 0),.s (.slice none 0 0),.s (.slice none 0 0),.s (.slice none 0 0)]),(1,.box (aT s))]⟩ ?_ (fun hD14=>?_)
 ·
  refine aG 4 [] (by kernel_rfl) ⟨?_,trivial⟩
  ·
   refine⟨_,rfl,rfl,(ao rfl (aE aA 1 rfl (aF (ag hD10 rfl rfl rfl))))⟩
 refine aM 12 #[true,true,false,true,true,false,true,true,false,true,true,false,false,false,false,false,false,false,false,false] ⟨40,[(1,.ref 1 0 0 0),(2,.ref 2 0 0 0),(5,.sl 4 (s.opn.map seC)),(8,.sl 2 (s.usr.map usC)),(11,.sl 4 (s.sub.map enC)),(14,.sl 2 (s.tmb.map tmC))],[(2,.box [.s (.int .i64 0),.s (.int .i64 0),.s (.slice none 0 0),.s (.slice none 0 0),.s (.slice none 0 0),.s (.slice none 0 0)]),(1,.box (aT s))]⟩ ?_ (fun hD15=>?_)
 ·
  refine aG 2 [] (by kernel_rfl) ⟨?_,trivial⟩
  ·
   refine⟨_,rfl,rfl,(ao rfl (aI hf rfl (aK rfl rfl iR rfl (dA (jJ s.opn (by omega)))) (aF (ag hD10 rfl rfl rfl))))⟩
 refine aM 13 #[true,true,true,true,true,false,true,false,false,true,false,false,false,false,false,false,false,false,false,false] ⟨40,[(1,.ref 1 0 0 0),(2,.ref 2 0 0 0),(6,.sl 4 (s.opn.map seC)),(8,.sl 2 (s.usr.map usC)),(10,.ref 1 0 0 4),(13,.ref 1 0 0 5)],[(2,.box [.s (.int .i64 0),.s (.int .i64 0),.s (.slice none 0 0),.s (.slice none 0 0),.s (.slice none 0 0),.s (.slice none 0 0)]),(1,.box (aT s))]⟩ ?_ (fun hD16=>?_)
 ·
  refine aG 5 [7,10] (by kernel_rfl) ⟨?_,?_,?_,trivial⟩
  ·
   refine⟨_,rfl,rfl,(ao rfl (iN hf rfl rfl rfl rfl rfl qA rfl (rC s.usr (by omega)) ?_))⟩
   rintro _ rfl
   refine aF (ag hD11 rfl rfl rfl)
  ·
   refine⟨_,rfl,rfl,(ao rfl (aE aA 1 rfl (aF (ag hD12 rfl rfl rfl))))⟩
  ·
   refine⟨_,rfl,rfl,(ao rfl (aE aA 1 rfl (aF (ag hD13 rfl rfl rfl))))⟩
 refine aM 13 #[true,true,true,true,false,false,true,true,false,true,false,false,false,false,false,false,false,false,false,false] ⟨40,[(1,.ref 1 0 0 0),(2,.ref 2 0 0 0),(6,.sl 4 (s.opn.map seC)),(7,.ref 1 0 0 3),(11,.sl 4 (s.sub.map enC)),(13,.ref 1 0 0 5)],[(2,.box [.s (.int .i64 0),.s (.int .i64 0),.s (.slice none 0 0),.s (.slice none 0 0),.s (.slice none 0 0),.s (.slice none 0 0)]),(1,.box (aT s))]⟩ ?_ (fun hD17=>?_)
 ·
  refine aG 4 [10] (by kernel_rfl) ⟨?_,?_,trivial⟩
  ·
   refine⟨_,rfl,rfl,(ao rfl (aE aA 1 rfl (aF (ag hD12 rfl rfl rfl))))⟩
  ·
   refine⟨_,rfl,rfl,(ao rfl (aE aA 1 rfl (aF (ag hD14 rfl rfl rfl))))⟩
 refine aM 13 #[true,true,true,true,false,false,true,false,false,true,true,false,false,false,false,false,false,false,false,false] ⟨40,[(1,.ref 1 0 0 0),(2,.ref 2 0 0 0),(6,.sl 4 (s.opn.map seC)),(7,.ref 1 0 0 3),(10,.ref 1 0 0 4),(14,.sl 2 (s.tmb.map tmC))],[(2,.box [.s (.int .i64 0),.s (.int .i64 0),.s (.slice none 0 0),.s (.slice none 0 0),.s (.slice none 0 0),.s (.slice none 0 0)]),(1,.box (aT s))]⟩ ?_ (fun hD18=>?_)
 ·
  refine aG 4 [7] (by kernel_rfl) ⟨?_,?_,trivial⟩
  ·
   refine⟨_,rfl,rfl,(ao rfl (aE aA 1 rfl (aF (ag hD13 rfl rfl rfl))))⟩
  ·
   refine⟨_,rfl,rfl,(ao rfl (aE aA 1 rfl (aF (ag hD14 rfl rfl rfl))))⟩
 refine aM 13 #[true,true,false,true,true,false,true,true,false,true,false,false,false,false,false,false,false,false,false,false] ⟨40,[(1,.ref 1 0 0 0),(2,.ref 2 0 0 0),(5,.sl 4 (s.opn.map seC)),(8,.sl 2 (s.usr.map usC)),(11,.sl 4 (s.sub.map enC)),(13,.ref 1 0 0 5)],[(2,.box [.s (.int .i64 0),.s (.int .i64 0),.s (.slice none 0 0),.s (.slice none 0 0),.s (.slice none 0 0),.s (.slice none 0 0)]),(1,.box (aT s))]⟩ ?_ (fun hD19=>?_)
 ·
  refine aG 2 [10] (by kernel_rfl) ⟨?_,?_,trivial⟩
  ·
   refine⟨_,rfl,rfl,(ao rfl (aI hf rfl (aK rfl rfl iR rfl (dA (jJ s.opn (by omega)))) (aF (ag hD12 rfl rfl rfl))))⟩
  ·
   refine⟨_,rfl,rfl,(ao rfl (aE aA 1 rfl (aF (ag hD15 rfl rfl rfl))))⟩
 refine aM 13 #[true,true,false,true,true,false,true,false,false,true,true,false,false,false,false,false,false,false,false,false] ⟨40,[(1,.ref 1 0 0 0),(2,.ref 2 0 0 0),(5,.sl 4 (s.opn.map seC)),(8,.sl 2 (s.usr.map usC)),(10,.ref 1 0 0 4),(14,.sl 2 (s.tmb.map tmC))],[(2,.box [.s (.int .i64 0),.s (.int .i64 0),.s (.slice none 0 0),.s (.slice none 0 0),.s (.slice none 0 0),.s (.slice none 0 0)]),(1,.box (aT s))]⟩ ?_ (fun hD20=>?_)
 ·
  refine aG 2 [7] (by kernel_rfl) ⟨?_,?_,trivial⟩
  ·
   refine⟨_,rfl,rfl,(ao rfl (aI hf rfl (aK rfl rfl iR rfl (dA (jJ s.opn (by omega)))) (aF (ag hD13 rfl rfl rfl))))⟩
  ·
   refine⟨_,rfl,rfl,(ao rfl (aE aA 1 rfl (aF (ag hD15 rfl rfl rfl))))⟩
 refine aM 13 #[true,true,false,true,false,false,true,true,false,true,true,false,false,false,false,false,false,false,false,false] ⟨40,[(1,.ref 1 0 0 0),(2,.ref 2 0 0 0),(5,.sl 4 (s.opn.map seC)),(7,.ref 1 0 0 3),(11,.sl 4 (s.sub.map enC)),(14,.sl 2 (s.tmb.map tmC))],[(2,.box [.s (.int .i64 0),.s (.int .i64 0),.s (.slice none 0 0),.s (.slice none 0 0),.s (.slice none 0 0),.s (.slice none 0 0)]),(1,.box (aT s))]⟩ ?_ (fun hD21=>?_)
 ·
  refine aG 2 [4] (by kernel_rfl) ⟨?_,?_,trivial⟩
  ·
   refine⟨_,rfl,rfl,(ao rfl (aI hf rfl (aK rfl rfl iR rfl (dA (jJ s.opn (by omega)))) (aF (ag hD14 rfl rfl rfl))))⟩
  ·
   refine⟨_,rfl,rfl,(ao rfl (aE aA 1 rfl (aF (ag hD15 rfl rfl rfl))))⟩
 refine aM 13 #[true,false,false,true,true,false,true,true,false,true,true,false,false,false,false,false,false,false,false,false] ⟨40,[(1,.ref 1 0 0 0),(2,.ref 2 0 0 0),(4,.ref 1 0 0 2),(8,.sl 2 (s.usr.map usC)),(11,.sl 4 (s.sub.map enC)),(14,.sl 2 (s.tmb.map tmC))],[(2,.box [.s (.int .i64 0),.s (.int .i64 0),.s (.slice none 0 0),.s (.slice none 0 0),.s (.slice none 0 0),.s (.slice none 0 0)]),(1,.box (aT s))]⟩ ?_ (fun hD22=>?_)
 ·
  refine aG 1 [] (by kernel_rfl) ⟨?_,trivial⟩
  ·
   refine⟨_,rfl,rfl,(ao rfl (aE aA 1 rfl (aF (ag hD15 rfl rfl rfl))))⟩
 refine aM 14 #[true,true,true,true,false,false,true,false,false,true,false,false,false,false,false,false,false,false,false,false] ⟨40,[(1,.ref 1 0 0 0),(2,.ref 2 0 0 0),(6,.sl 4 (s.opn.map seC)),(7,.ref 1 0 0 3),(10,.ref 1 0 0 4),(13,.ref 1 0 0 5)],[(2,.box [.s (.int .i64 0),.s (.int .i64 0),.s (.slice none 0 0),.s (.slice none 0 0),.s (.slice none 0 0),.s (.slice none 0 0)]),(1,.box (aT s))]⟩ ?_ (fun hD23=>?_)
 ·
  refine aG 4 [7,10] (by kernel_rfl) ⟨?_,?_,?_,trivial⟩
  ·
   refine⟨_,rfl,rfl,(ao rfl (aE aA 1 rfl (aF (ag hD16 rfl rfl rfl))))⟩
  ·
   refine⟨_,rfl,rfl,(ao rfl (aE aA 1 rfl (aF (ag hD17 rfl rfl rfl))))⟩
  ·
   refine⟨_,rfl,rfl,(ao rfl (aE aA 1 rfl (aF (ag hD18 rfl rfl rfl))))⟩
 refine aM 14 #[true,true,false,true,true,false,true,false,false,true,false,false,false,false,false,false,false,false,false,false] ⟨40,[(1,.ref 1 0 0 0),(2,.ref 2 0 0 0),(5,.sl 4 (s.opn.map seC)),(8,.sl 2 (s.usr.map usC)),(10,.ref 1 0 0 4),(13,.ref 1 0 0 5)],[(2,.box [.s (.int .i64 0),.s (.int .i64 0),.s (.slice none 0 0),.s (.slice none 0 0),.s (.slice none 0 0),.s (.slice none 0 0)]),(1,.box (aT s))]⟩ ?_ (fun hD24=>?_)
 ·
  refine aG 2 [7,10] (by kernel_rfl) ⟨?_,?_,?_,trivial⟩
  ·
   refine⟨_,rfl,rfl,(ao rfl (aI hf rfl (aK rfl rfl iR rfl (dA (jJ s.opn (by omega)))) (aF (ag hD16 rfl rfl rfl))))⟩
  ·
   refine⟨_,rfl,rfl,(ao rfl (aE aA 1 rfl (aF (ag hD19 rfl rfl rfl))))⟩
  ·
   refine⟨_,rfl,rfl,(ao rfl (aE aA 1 rfl (aF (ag hD20 rfl rfl rfl))))⟩
 refine aM 14 #[true,true,false,true,false,false,true,true,false,true,false,false,false,false,false,false,false,false,false,false] ⟨40,[(1,.ref 1 0 0 0),(2,.ref 2 0 0 0),(5,.sl 4 (s.opn.map seC)),(7,.ref 1 0 0 3),(11,.sl 4 (s.sub.map enC)),(13,.ref 1 0 0 5)],[(2,.box [.s (.int .i64 0),.s (.int .i64 0),.s (.slice none 0 0),.s (.slice none 0 0),.s (.slice none 0 0),.s (.slice none 0 0)]),(1,.box (aT s))]⟩ ?_ (fun hD25=>?_)
 ·
  refine aG 2 [4,10] (by kernel_rfl) ⟨?_,?_,?_,trivial⟩
  ·
   refine⟨_,rfl,rfl,(ao rfl (aI hf rfl (aK rfl rfl iR rfl (dA (jJ s.opn (by omega)))) (aF (ag hD17 rfl rfl rfl))))⟩
  ·
   refine⟨_,rfl,rfl,(ao rfl (aE aA 1 rfl (aF (ag hD19 rfl rfl rfl))))⟩
  ·
   refine⟨_,rfl,rfl,(ao rfl (aE aA 1 rfl (aF (ag hD21 rfl rfl rfl))))⟩
 refine aM 14 #[true,true,false,true,false,false,true,false,false,true,true,false,false,false,false,false,false,false,false,false] ⟨40,[(1,.ref 1 0 0 0),(2,.ref 2 0 0 0),(5,.sl 4 (s.opn.map seC)),(7,.ref 1 0 0 3),(10,.ref 1 0 0 4),(14,.sl 2 (s.tmb.map tmC))],[(2,.box [.s (.int .i64 0),.s (.int .i64 0),.s (.slice none 0 0),.s (.slice none 0 0),.s (.slice none 0 0),.s (.slice none 0 0)]),(1,.box (aT s))]⟩ ?_ (fun hD26=>?_)
 ·
  refine aG 2 [4,7] (by kernel_rfl) ⟨?_,?_,?_,trivial⟩
  ·
   refine⟨_,rfl,rfl,(ao rfl (aI hf rfl (aK rfl rfl iR rfl (dA (jJ s.opn (by omega)))) (aF (ag hD18 rfl rfl rfl))))⟩
  ·
   refine⟨_,rfl,rfl,(ao rfl (aE aA 1 rfl (aF (ag hD20 rfl rfl rfl))))⟩
  ·
   refine⟨_,rfl,rfl,(ao rfl (aE aA 1 rfl (aF (ag hD21 rfl rfl rfl))))⟩
 refine aM 14 #[true,false,false,true,true,false,true,true,false,true,false,false,false,false,false,false,false,false,false,false] ⟨40,[(1,.ref 1 0 0 0),(2,.ref 2 0 0 0),(4,.ref 1 0 0 2),(8,.sl 2 (s.usr.map usC)),(11,.sl 4 (s.sub.map enC)),(13,.ref 1 0 0 5)],[(2,.box [.s (.int .i64 0),.s (.int .i64 0),.s (.slice none 0 0),.s (.slice none 0 0),.s (.slice none 0 0),.s (.slice none 0 0)]),(1,.box (aT s))]⟩ ?_ (fun hD27=>?_)
 ·
  refine aG 1 [10] (by kernel_rfl) ⟨?_,?_,trivial⟩
  ·
   refine⟨_,rfl,rfl,(ao rfl (aE aA 1 rfl (aF (ag hD19 rfl rfl rfl))))⟩
  ·
   refine⟨_,rfl,rfl,(ao rfl (aE aA 1 rfl (aF (ag hD22 rfl rfl rfl))))⟩
 refine aM 14 #[true,false,false,true,true,false,true,false,false,true,true,false,false,false,false,false,false,false,false,false] ⟨40,[(1,.ref 1 0 0 0),(2,.ref 2 0 0 0),(4,.ref 1 0 0 2),(8,.sl 2 (s.usr.map usC)),(10,.ref 1 0 0 4),(14,.sl 2 (s.tmb.map tmC))],[(2,.box [.s (.int .i64 0),.s (.int .i64 0),.s (.slice none 0 0),.s (.slice none 0 0),.s (.slice none 0 0),.s (.slice none 0 0)]),(1,.box (aT s))]⟩ ?_ (fun hD28=>?_)
 ·
  refine aG 1 [7] (by kernel_rfl) ⟨?_,?_,trivial⟩
  ·
   refine⟨_,rfl,rfl,(ao rfl (aE aA 1 rfl (aF (ag hD20 rfl rfl rfl))))⟩
  ·
   refine⟨_,rfl,rfl,(ao rfl (aE aA 1 rfl (aF (ag hD22 rfl rfl rfl))))⟩
 refine aM 14 #[true,false,false,true,false,false,true,true,false,true,true,false,false,false,false,false,false,false,false,false] ⟨40,[(1,.ref 1 0 0 0),(2,.ref 2 0 0 0),(4,.ref 1 0 0 2),(7,.ref 1 0 0 3),(11,.sl 4 (s.sub.map enC)),(14,.sl 2 (s.tmb.map tmC))],[(2,.box [.s (.int .i64 0),.s (.int .i64 0),.s (.slice none 0 0),.s (.slice none 0 0),.s (.slice none 0 0),.s (.slice none 0 0)]),(1,.box (aT s))]⟩ ?_ (fun hD29=>?_)
 ·
  refine aG 1 [4] (by kernel_rfl) ⟨?_,?_,trivial⟩
  ·
   refine⟨_,rfl,rfl,(ao rfl (aE aA 1 rfl (aF (ag hD21 rfl rfl rfl))))⟩
  ·
   refine⟨_,rfl,rfl,(ao rfl (aE aA 1 rfl (aF (ag hD22 rfl rfl rfl))))⟩
 refine aM 15 #[true,true,false,true,false,false,true,false,false,true,false,false,false,false,false,false,false,false,false,false] ⟨40,[(1,.ref 1 0 0 0),(2,.ref 2 0 0 0),(5,.sl 4 (s.opn.map seC)),(7,.ref 1 0 0 3),(10,.ref 1 0 0 4),(13,.ref 1 0 0 5)],[(2,.box [.s (.int .i64 0),.s (.int .i64 0),.s (.slice none 0 0),.s (.slice none 0 0),.s (.slice none 0 0),.s (.slice none 0 0)]),(1,.box (aT s))]⟩ ?_ (fun hD30=>?_)
 ·
  refine aG 2 [4,7,10] (by kernel_rfl) ⟨?_,?_,?_,?_,trivial⟩
  ·
   refine⟨_,rfl,rfl,(ao rfl (aI hf rfl (aK rfl rfl iR rfl (dA (jJ s.opn (by omega)))) (aF (ag hD23 rfl rfl rfl))))⟩
  ·
   refine⟨_,rfl,rfl,(ao rfl (aE aA 1 rfl (aF (ag hD24 rfl rfl rfl))))⟩
  ·
   refine⟨_,rfl,rfl,(ao rfl (aE aA 1 rfl (aF (ag hD25 rfl rfl rfl))))⟩
  ·
   refine⟨_,rfl,rfl,(ao rfl (aE aA 1 rfl (aF (ag hD26 rfl rfl rfl))))⟩
 refine aM 15 #[true,false,false,true,true,false,true,false,false,true,false,false,false,false,false,false,false,false,false,false] ⟨40,[(1,.ref 1 0 0 0),(2,.ref 2 0 0 0),(4,.ref 1 0 0 2),(8,.sl 2 (s.usr.map usC)),(10,.ref 1 0 0 4),(13,.ref 1 0 0 5)],[(2,.box [.s (.int .i64 0),.s (.int .i64 0),.s (.slice none 0 0),.s (.slice none 0 0),.s (.slice none 0 0),.s (.slice none 0 0)]),(1,.box (aT s))]⟩ ?_ (fun hD31=>?_)
 ·
  refine aG 1 [7,10] (by kernel_rfl) ⟨?_,?_,?_,trivial⟩
  ·
   refine⟨_,rfl,rfl,(ao rfl (aE aA 1 rfl (aF (ag hD24 rfl rfl rfl))))⟩
  ·
   refine⟨_,rfl,rfl,(ao rfl (aE aA 1 rfl (aF (ag hD27 rfl rfl rfl))))⟩
  ·
   refine⟨_,rfl,rfl,(ao rfl (aE aA 1 rfl (aF (ag hD28 rfl rfl rfl))))⟩
 refine aM 15 #[true,false,false,true,false,false,true,true,false,true,false,false,false,false,false,false,false,false,false,false] ⟨40,[(1,.ref 1 0 0 0),(2,.ref 2 0 0 0),(4,.ref 1 0 0 2),(7,.ref 1 0 0 3),(11,.sl 4 (s.sub.map enC)),(13,.ref 1 0 0 5)],[(2,.box [.s (.int .i64 0),.s (.int .i64 0),.s (.slice none 0 0),.s (.slice none 0 0),.s (.slice none 0 0),.s (.slice none 0 0)]),(1,.box (aT s))]⟩ ?_ (fun hD32=>?_)
 ·
  refine aG 1 [4,10] (by kernel_rfl) ⟨?_,?_,?_,trivial⟩
  ·
   refine⟨_,rfl,rfl,(ao rfl (aE aA 1 rfl (aF (ag hD25 rfl rfl rfl))))⟩
  ·
   refine⟨_,rfl,rfl,(ao rfl (aE aA 1 rfl (aF (ag hD27 rfl rfl rfl))))⟩
  ·
   refine⟨_,rfl,rfl,(ao rfl (aE aA 1 rfl (aF (ag hD29 rfl rfl rfl))))⟩
 refine aM 15 #[true,false,false,true,false,false,true,false,false,true,true,false,false,false,false,false,false,false,false,false] ⟨40,[(1,.ref 1 0 0 0),(2,.ref 2 0 0 0),(4,.ref 1 0 0 2),(7,.ref 1 0 0 3),(10,.ref 1 0 0 4),(14,.sl 2 (s.tmb.map tmC))],[(2,.box [.s (.int .i64 0),.s (.int .i64 0),.s (.slice none 0 0),.s (.slice none 0 0),.s (.slice none 0 0),.s (.slice none 0 0)]),(1,.box (aT s))]⟩ ?_ (fun hD33=>?_)
 ·
  refine aG 1 [4,7] (by kernel_rfl) ⟨?_,?_,?_,trivial⟩
  ·
   refine⟨_,rfl,rfl,(ao rfl (aE aA 1 rfl (aF (ag hD26 rfl rfl rfl))))⟩
  ·
   refine⟨_,rfl,rfl,(ao rfl (aE aA 1 rfl (aF (ag hD28 rfl rfl rfl))))⟩
  ·
   refine⟨_,rfl,rfl,(ao rfl (aE aA 1 rfl (aF (ag hD29 rfl rfl rfl))))⟩
 refine kQ (sX (sl':=[(1,.ref 1 0 0 0),(2,.ref 2 0 0 0),(4,.ref 1 0 0 2),(7,.ref 1 0 0 3),(10,.ref 1 0 0 4),(13,.ref 1 0 0 5)]) (m':=[(2,.box [.s (.int .i64 0),.s (.int .i64 0),.s (.slice none 0 0),.s (.slice none 0 0),.s (.slice none 0 0),.s (.slice none 0 0)]),(1,.box (aT s))]) rfl rfl rfl) (aG 1 [4,7,10] (by kernel_rfl) ⟨?_,?_,?_,?_,trivial⟩)
 ·
  refine⟨_,rfl,rfl,(ao rfl (aE aA 1 rfl (aF (ag hD30 rfl rfl rfl))))⟩
 ·
  refine⟨_,rfl,rfl,(ao rfl (aE aA 1 rfl (aF (ag hD31 rfl rfl rfl))))⟩
 ·
  refine⟨_,rfl,rfl,(ao rfl (aE aA 1 rfl (aF (ag hD32 rfl rfl rfl))))⟩
 ·
  refine⟨_,rfl,rfl,(ao rfl (aE aA 1 rfl (aF (ag hD33 rfl rfl rfl))))⟩
end Go.Proofs.YtpkanhklapfajaaGreat
set_option linter.unusedVariables false
set_option linter.unusedSimpArgs false
namespace Go.Proofs.YtpkanhklapfajaaGreat
open Go Go.Abs
theorem oY (s:Sta) (u:ByteArray) (x:bI) (hz:SzS 140737488355200 s) (hr:dL cM s.usr) :DenX Tryz.prog 116 [.agg (eX s E0 E1),.s (.string u),.agg (stC x)] [(E0,.buf 2 (s.usr.map usC)),(E1,.buf 2 (s.tmb.map tmC))] (fun r m=>r=.agg (eX (eU s u x) E0 E1)∧m=[(E0,.buf 2 ((eU s u x).usr.map usC)),(E1,.buf 2 ((eU s u x).tmb.map tmC))]):=by
 have z1:=hz.o
 have z2:=hz.u
 have z3:=hz.b
 have z4:=hz.t
 have hlm:(s.usr.map usC).length=s.usr.length:=List.length_map _
 have hpl:=aAm (key:=cM) s.usr u
 refine jN [(E0,G0),(E1,G1)] Tryz.func116 rfl (Nat.le_of_ble_eq_true rfl) (args':=[.agg (eX s G0 G1),.s (.string u),.agg (stC x)]) (m':=[(G0,.buf 2 (s.usr.map usC)),(G1,.buf 2 (s.tmb.map tmC))]) rfl rfl (by decide) (by decide) rfl (fun w0 o0 A hf=>?_)
 refine aC (fun K1 hK1=>(aB (vI hf rfl rfl rfl rfl (l1 rfl) ?_)))
 refine aI hf rfl (cE rfl rfl (lf rfl)) (aW hf rfl rfl rfl bA (aD (hK1 _ (aC (fun K2 hK2=>(aC (fun K3 hK3=>(aB (aE aA 2 rfl (aI hf rfl (aK rfl rfl jP rfl (mK x.1)) (aD (hK3 _ (aL rfl (fun hc1=>?_) (fun hc1=>?_))))))))))))))
 ·
  simp only[bs] at hc1
  refine aC (fun K4 hK4=>(aB (aH rfl (cD (cs':=eX s G0 G1) rfl oH cG rfl rfl rfl) (bB hf rfl rfl cG rfl rfl (l1 rfl) (l4 rfl) rfl (aD (hK4 _ (aJ ?_)))))))
  rw[nJ (by assumption)]
  exact⟨_,[(E0,G0),(E1,G1)],_,Le.refl _,by decide,rfl,rfl,⟨rfl,rfl⟩⟩
 ·
  simp only[bs] at hc1
  have hx:¬ x.1.2≤x.1.1:=by simpa using hc1
  refine aN (hK2 _ (aC (fun K5 hK5=>(aB (aE aA 3 rfl (aI hf rfl (sG rfl rfl (by show [AV.conv _ _,_,_]=_; rw[cI (g:=G0) rfl rfl]; rfl) aHc (aE1 s.usr u (by omega) hr) rfl) ?_))))))
  refine aE aA 5 rfl (aD (hK5 _ (aC (fun K6 hK6=>(aC (fun K7 hK7=>(aB (aE aA 1 rfl (aD (hK7 _ (aL rfl (fun hc2=>?_) (fun hc2=>?_))))))))))))
  ·
   obtain ⟨hk,he⟩:=aBz hr (show jF cM s.usr u=true by assumption)
   refine aC (fun K8 hK8=>(gL hf (L:=#[true,true,true,true,true,true,true,true,true,true,true,true,true,false]) 13 1 bE (by kernel_rfl) rfl (by kernel_rfl) rfl ?_))
   refine aV aA 6 rfl ?_
   refine bQ [(25,_),(26,_)] rfl rfl ⟨⟨rfl,rfl⟩,⟨rfl,rfl⟩,trivial⟩ rfl (cB rfl rfl fJ eG (by omega)) ?_
   refine aV aA 1 rfl (bQ [(28,_)] rfl rfl ⟨⟨rfl,rfl⟩,trivial⟩ rfl (iW rfl aO1 rfl ((jD (by omega) hk 1).trans rfl)) (aV aA 1 rfl (bJ [(29,_),(30,_)] rfl rfl ⟨⟨rfl,rfl⟩,⟨rfl,rfl⟩,trivial⟩ rfl (aK rfl rfl vE rfl (aBf s.usr[dN cM s.usr u].2 x (by have:=hz.y _ (List.getElem_mem hk); omega))) ?_)))
   refine bQ [(22,_),(23,_)] rfl rfl ⟨⟨rfl,rfl⟩,⟨rfl,rfl⟩,trivial⟩ rfl (cB rfl rfl fJ eG (by omega)) ?_
   refine aV aA 1 rfl (rM [3,6,31,33] rfl rfl rfl ?_)
   refine aG 13 [] (by kernel_rfl) ⟨?_,trivial⟩
   ·
    refine⟨_,rfl,rfl,(ao rfl (bB hf rfl rfl tX rfl rfl (by simp [AV.cells,AV.one,Value.oneCell']) (by simp [AV.cells,AV.leaf,Value.oneCell']) (iS (c:=2) (k:=dN cM s.usr u) (f:=1) (enc:=usC) (v:=(s.usr[dN cM s.usr u].1,iL s.usr[dN cM s.usr u].2 x)) (by omega) hk rfl (Nat.le_of_ble_eq_true rfl)) ?_))⟩
    refine aF (bX (by kernel_rfl) ?_)
    refine hK8 _ (aC (fun K9 hK9=>(aB ?_)))
    rw[aUb hr (by assumption) hx hk,show eX s G0 G1=eX (eU s u x) G0 G1 from by simp only[eX,eU]; rw[show ((oM s.usr u x).map usC).length=(s.usr.map usC).length from by rw[← aUb hr (by assumption) hx hk,List.length_map,List.length_map,List.length_set]]]
    refine aH rfl (cD (cs':=eX (eU s u x) G0 G1) rfl oH cG rfl rfl rfl) (bB hf rfl rfl cG rfl rfl (l1 rfl) (l4 rfl) rfl (aD (hK9 _ (aJ ?_))))
    exact⟨_,[(E0,G0),(E1,G1)],_,Le.refl _,by decide,rfl,rfl,⟨rfl,rfl⟩⟩
  ·
   have hno:jF cM s.usr u=false:=by simp_all
   refine aX4 (pH (nee G0) (sl':=[(1,_),(3,_),(5,_),(6,_),(7,_)]) (m':=[(6,.box [.s (.int .i64 0),.s (.int .i64 0),.s (.slice none 0 0),.s (.slice none 0 0),.s (.slice none 0 0),.s (.slice none 0 0)]),(3,.box [.s (.int .i64 s.now),.s (.int .i64 s.hor),.sl 4 (s.opn.map seC),.sl 2 (s.usr.map usC),.sl 4 (s.sub.map enC),.own G1 2 0 (s.tmb.map tmC).length]),(G1,.buf 2 (s.tmb.map tmC))]) ⟨⟨_,rfl,rfl⟩,⟨_,rfl,rfl⟩,⟨_,rfl,rfl⟩,⟨_,rfl,rfl⟩,⟨_,rfl,rfl⟩,trivial⟩ (Eq.trans (show _=[(6,AM.box [.s (.int .i64 0),.s (.int .i64 0),.s (.slice none 0 0),.s (.slice none 0 0),.s (.slice none 0 0),.s (.slice none 0 0)]),(3,.box [.s (.int .i64 s.now),.s (.int .i64 s.hor),.sl 4 (s.opn.map seC),AV.only (nee G0) [(6,.box [.s (.int .i64 0),.s (.int .i64 0),.s (.slice none 0 0),.s (.slice none 0 0),.s (.slice none 0 0),.s (.slice none 0 0)]),(3,.box (eX s G0 G1)),(G0,.buf 2 (s.usr.map usC)),(G1,.buf 2 (s.tmb.map tmC))] (.own G0 2 0 (s.usr.map usC).length),.sl 4 (s.sub.map enC),.own G1 2 0 (s.tmb.map tmC).length]),(G1,.buf 2 (s.tmb.map tmC))] from rfl) (by rw[aAo (ok:=nee G0) (g:=G0) rfl rfl rfl]))) ?_
   refine aN (hK6 _ (aC (fun K10 hK10=>(gL hf (L:=#[true,true,true,true,true,true,true,true,true,true,true,true,true,true,false,false,false]) 14 3 bE (by kernel_rfl) rfl (by kernel_rfl) rfl ?_))))
   refine aV aA 3 rfl (bQ [(36,_),(37,_)] rfl rfl ⟨⟨rfl,rfl⟩,⟨rfl,rfl⟩,trivial⟩ rfl (fO rfl fJ eG rfl (pY rfl (by omega)) (by omega) (by omega) (pO (by omega))) (aV aA 2 rfl (bJ [(40,_)] rfl rfl ⟨⟨rfl,rfl⟩,trivial⟩ rfl (aS gS rfl rfl rfl rfl (l2 rfl)) (bQ [(39,_),(41,_)] rfl rfl ⟨⟨rfl,rfl⟩,⟨rfl,rfl⟩,trivial⟩ rfl (bR rfl oG yD (l3 rfl) rfl) (bJ [(42,_)] rfl rfl ⟨⟨rfl,rfl⟩,trivial⟩ rfl (aS iH rfl rfl rfl rfl (l2 rfl)) (aV aA 3 rfl (bQ [(45,_),(46,_)] rfl rfl ⟨⟨rfl,rfl⟩,⟨rfl,rfl⟩,trivial⟩ rfl (fO rfl fJ eG (pY rfl (by omega)) rfl (by omega) (by omega) (lH (by omega))) ?_)))))))
   refine bJ [(38,_),(43,_),(47,_)] rfl rfl ⟨⟨rfl,rfl⟩,⟨rfl,rfl⟩,⟨rfl,rfl⟩,trivial⟩ rfl (aS aTb rfl rfl rfl rfl (l2 rfl)) (rM [3,6,48] rfl rfl rfl ?_)
   refine aG 14 [] (by kernel_rfl) ⟨?_,trivial⟩
   ·
    refine⟨_,rfl,rfl,(ao rfl (iN hf rfl rfl rfl rfl rfl aPo rfl (aMb [s.usr.take (dN cM s.usr u),[(u,[x])],s.usr.drop (dN cM s.usr u)] (by simp) (by simp only[List.flatten_cons,List.flatten_nil,List.length_append,List.length_take,List.length_drop,List.length_cons,List.length_nil]; omega)) ?_))⟩
    rintro _ rfl
    refine aF (aG 15 [] (by kernel_rfl) ⟨?_,trivial⟩)
    ·
     refine⟨_,rfl,rfl,(ao rfl (aE aA 1 rfl (aF (aG 16 [] (by kernel_rfl) ⟨?_,trivial⟩))))⟩
     ·
      refine⟨_,rfl,rfl,(ao rfl (bB hf rfl rfl mR rfl rfl (l1 rfl) (l4 rfl) rfl (aF (bX (by kernel_rfl) ?_))))⟩
      refine hK10 _ (aC (fun K11 hK11=>(aB ?_)))
      rw[aYf hr hno hx]
      refine aH rfl (cD (cs':=eX (eU s u x) 49 G1) rfl oH cG rfl rfl rfl) (bB hf rfl rfl cG rfl rfl (l1 rfl) (l4 rfl) rfl (aD (hK11 _ (aJ ?_))))
      exact⟨_,[(E0,49),(E1,G1)],_,Le.refl _,by decide,rfl,rfl,⟨rfl,rfl⟩⟩
end Go.Proofs.YtpkanhklapfajaaGreat
set_option linter.unusedVariables false
set_option linter.unusedSimpArgs false
namespace Go.Proofs.YtpkanhklapfajaaGreat
open Go Go.Abs
theorem aN7 (x:Us) (u:ByteArray) :Den Tryz.prog 161 [.agg (usC x),.adr [.s (.string u)]]  (·=.s (.bool (isK cM u x))):=by
 refine aR Tryz.func161 rfl (Nat.le_of_ble_eq_true rfl) (fun w0 A hf=>(aC (fun K1 hK1=>(aB (aI hf rfl (cE rfl rfl (lf rfl)) (aE aA 1 rfl (aD (hK1 _ (aC (fun K2 hK2=>(aB (aE aA 5 rfl (aD (hK2 _ (aJ ?_)))))))))))))))
 refine⟨_,rfl,?_⟩
 refine aO ?_
 rw[Bool.eq_iff_iff]
 simp [isK,toList_inj]
theorem aN6 (x:Tm) (u:ByteArray) :Den Tryz.prog 163 [.agg (tmC x),.adr [.s (.string u)]]  (·=.s (.bool (isK dV u x))):=by
 refine aR Tryz.func163 rfl (Nat.le_of_ble_eq_true rfl) (fun w0 A hf=>(aC (fun K1 hK1=>(aB (aI hf rfl (cE rfl rfl (lf rfl)) (aE aA 1 rfl (aD (hK1 _ (aC (fun K2 hK2=>(aB (aE aA 5 rfl (aD (hK2 _ (aJ ?_)))))))))))))))
 refine⟨_,rfl,?_⟩
 refine aO ?_
 rw[Bool.eq_iff_iff]
 simp [isK,toList_inj]
theorem aJs (g k off n:Nat):AV.fromE g (.own E0 k off n)=.own g k off n:=by simp [AV.fromE]
theorem mZ (s:Sta):(AV.agg (eX s E0 E1)).ren [(E0,G0),(E1,G1)]=.agg (eX s G0 G1):=rfl
theorem aRs (s:Sta) (u:ByteArray) (t:Int) (hz:SzS 140737488355200 s) (hr:dL cM s.usr) (hr2:dL dV s.tmb) :DenX Tryz.prog 115 [.agg (eX s E0 E1),.s (.string u),.s (.int .i64 t)] [(E0,.buf 2 (s.usr.map usC)),(E1,.buf 2 (s.tmb.map tmC))] (fun r m=>r=.agg (eX (gI s u t) E0 E1)∧m=[(E0,.buf 2 ((gI s u t).usr.map usC)),(E1,.buf 2 ((gI s u t).tmb.map tmC))]):=by
 have z1:=hz.o
 have z2:=hz.u
 have z3:=hz.b
 have z4:=hz.t
 have tf:=List.length_filter_le (fun x=>!isK dV u x) s.tmb
 have hpl:=aAm (key:=dV) (s.tmb.filter fun x=>!isK dV u x) u
 refine jN [(E0,G0),(E1,G1)] Tryz.func115 rfl (Nat.le_of_ble_eq_true rfl) (args':=[.agg (eX s G0 G1),.s (.string u),.s (.int .i64 t)]) (m':=[(G0,.buf 2 (s.usr.map usC)),(G1,.buf 2 (s.tmb.map tmC))]) rfl rfl (by decide) (by decide) rfl (fun w0 o0 A hf=>?_)
 refine aC (fun K1 hK1=>(aB (vI hf rfl rfl rfl rfl (l1 rfl) ?_)))
 refine aI hf rfl (cE rfl rfl (lf rfl)) (aW hf rfl rfl rfl bA (aD (hK1 _ (aC (fun K2 hK2=>(gL hf (L:=#[true,true,true,true,true,true,true,true,true,false,false,false]) 9 3 bE (by kernel_rfl) rfl (by kernel_rfl) rfl ?_))))))
 refine aV aA 3 rfl (bJ [(10,_),(11,_)] rfl rfl ⟨⟨rfl,rfl⟩,⟨rfl,rfl⟩,trivial⟩ rfl (aK rfl rfl aPw rfl (aHv s.opn u (by omega))) (aV aA 3 rfl (bJ [(14,_),(15,_)] rfl rfl ⟨⟨rfl,rfl⟩,⟨rfl,rfl⟩,trivial⟩ rfl (aK rfl rfl aPv rfl (aL4 s.sub u (by omega))) (aV aA 1 rfl (rM [2,3,4,6,12,16,17] rfl rfl rfl ?_)))))
 refine aG 9 [] (by kernel_rfl) ⟨?_,trivial⟩
 ·
  refine⟨_,rfl,rfl,(ao rfl (bB hf rfl rfl mS rfl rfl (l1 rfl) (l4 rfl) rfl (aF (aG 10 [] (by kernel_rfl) ⟨?_,trivial⟩))))⟩
  ·
   refine⟨_,rfl,rfl,(ao rfl (aE aA 1 rfl (aF (aG 11 [] (by kernel_rfl) ⟨?_,trivial⟩))))⟩
   ·
    refine⟨_,rfl,rfl,(ao rfl (bB hf rfl rfl mQ rfl rfl (l1 rfl) (l4 rfl) rfl (aF (bX (by kernel_rfl) ?_))))⟩
    refine hK2 _ (aC (fun K3 hK3=>(aB (aE aA 2 rfl (aH rfl (eY rfl) (gE hf G0 rfl rfl rfl rfl rfl aPu (aD7 aPt rfl (fun _=>rfl) (isK cM u) s.usr _ (by rw[List.length_map]) (by omega) (fun x _=>aN7 x u)) ?_))))))
    rintro r zs ⟨rfl,rfl⟩
    rw[aJs]
    refine aE aA 1 rfl (bB hf rfl rfl mR rfl rfl (l1 rfl) (l4 rfl) rfl (aD (hK3 _ (aC (fun K4 hK4=>(aB (aE aA 2 rfl (aH rfl (eY rfl) (gE hf G1 rfl rfl rfl rfl rfl aPs (aD8 aPr rfl (fun _=>rfl) (isK dV u) s.tmb _ (by rw[List.length_map]) (by omega) (fun x _=>aN6 x u)) ?_)))))))))
    rintro r zs ⟨rfl,rfl⟩
    rw[aJs]
    refine aE aA 1 rfl (bB hf rfl rfl tW rfl rfl (l1 rfl) (l4 rfl) rfl (aD (hK4 _ (aC (fun K5 hK5=>(aB (aE aA 3 rfl (aI hf rfl (sG rfl rfl (by show [AV.conv _ _,_,_]=_; rw[cI (g:=G1) rfl (by rw[List.length_map])]; rfl) aPq (aQx (s.tmb.filter fun x=>!isK dV u x) u (by omega) (oU hr2 _)) rfl) ?_))))))))
    refine aE aA 5 rfl (aD (hK5 _ (aC (fun K6 hK6=>(aB (aE aA 5 rfl (aH rfl (bR rfl yC aSa (l3 rfl) rfl) (dR hf rfl rfl rfl mA rfl rfl rfl rfl (l2 rfl) ?_))))))))
    refine jC hf [(E0,G1),(E1,42)] [(E0,43)] rfl rfl rfl rfl rfl rfl (by decide) (by decide) (by decide) rfl aPp (aNt ((s.tmb.filter fun x=>!isK dV u x).map tmC) [.s (.string u),.s (.int .i64 t)] _ (dN dV (s.tmb.filter fun x=>!isK dV u x) u) (by rw[List.length_map]) hpl (by omega)) ?_
    rintro r m1 ⟨rfl,rfl⟩
    refine bD (cJ (sl':=[(3,.ref 3 0 0 0),(6,.ref 6 0 0 0),(43,.own 43 2 0 ((s.tmb.filter fun x=>!isK dV u x).length+1))]) (m':=[(43,.buf 2 (((s.tmb.filter fun x=>!isK dV u x).map tmC).take (dN dV (s.tmb.filter fun x=>!isK dV u x) u)++[.s (.string u),.s (.int .i64 t)]::((s.tmb.filter fun x=>!isK dV u x).map tmC).drop (dN dV (s.tmb.filter fun x=>!isK dV u x) u))),(6,.box [.s (.int .i64 0),.s (.int .i64 0),.s (.slice none 0 0),.s (.slice none 0 0),.s (.slice none 0 0),.s (.slice none 0 0)]),(3,.box [.s (.int .i64 s.now),.s (.int .i64 s.hor),.sl 4 ((s.opn.filter fun e=>!qQ u e).map seC),.own G0 2 0 (s.usr.filter fun x=>!isK cM u x).length,.sl 4 ((s.sub.filter fun e=>!aA0 u e).map enC),.bad]),(G0,.buf 2 ((s.usr.filter fun x=>!isK cM u x).map usC))]) ⟨rfl,rfl,rfl,trivial⟩ rfl) ?_
    refine aE aA 1 rfl (bB hf rfl rfl tW rfl rfl (l1 rfl) (l4 rfl) rfl (aD (hK6 _ (aC (fun K7 hK7=>(aB ?_))))))
    rw[aUj hr2,erTl (t:=t) hr2,erUl (t:=t) hr,erU (t:=t) hr]
    refine aH rfl (cD (cs':=eX (gI s u t) G0 43) rfl oH cG rfl rfl rfl) (bB hf rfl rfl cG rfl rfl (l1 rfl) (l4 rfl) rfl (aD (hK7 _ (aJ ?_))))
    exact⟨_,[(E0,G0),(E1,43)],_,Le.refl _,by decide,rfl,rfl,⟨rfl,rfl⟩⟩
end Go.Proofs.YtpkanhklapfajaaGreat
set_option linter.unusedVariables false
set_option linter.unusedSimpArgs false
namespace Go.Proofs.YtpkanhklapfajaaGreat
open Go Go.Abs
theorem aLn (l:List Se) (n:Int) (u:ByteArray) (st t:Int) (hl:l.length*40+40≤140737488355328) :Den Tryz.prog 111 [.sl 4 (l.map seC),.s (.int .i64 n),.s (.string u),.s (.int .i64 st),.s (.int .i64 t)]  (·=.tup [.sl 4 ((sC l n u st t).map seC),.agg (stC (stR l n u t)),.s (.int .i64 (jY l n u))]):=by
 refine aR Tryz.func111 rfl (Nat.le_of_ble_eq_true rfl) (fun w0 A hf=>(aC (fun K1 hK1=>(aB (aH rfl (bK) (aW hf rfl rfl rfl eE (aE aA 1 rfl (aD (hK1 _ (aC (fun K2 hK2=>(aB (aE aA 3 rfl (aI hf rfl (aK rfl rfl xF rfl (aG3 _ _ _ (by omega))) (aE aA 5 rfl ?_)))))))))))))))
 refine aD (hK2 _ (aC (fun K3 hK3=>(aC (fun K4 hK4=>(aB (aE aA 2 rfl (aD (hK4 _ (aL rfl (fun hc1=>?_) (fun hc1=>?_)))))))))))
 ·
  simp only[bs] at hc1
  refine aC (fun K5 hK5=>(aB (aH rfl (bR rfl eE qZ (l3 rfl) rfl) (aE aA 1 rfl (aH rfl (yN (k:=4)) (bB hf rfl rfl bC rfl rfl (l1 rfl) (l4 rfl) rfl (aE aA 1 rfl (aD (hK5 _ (aJ ?_))))))))))
  refine⟨_,rfl,?_⟩
  rw[sC,stR,if_neg (by assumption),if_neg (by assumption)]; rfl
 ·
  simp only[bs] at hc1
  obtain ⟨k,hk,ek,hk1,hk2,hk3⟩:=aLl (show jY l n u=0 by assumption)
  obtain ⟨c1,c2,c3⟩:=aXo hk hk1 hk2 hk3
  obtain ⟨_,_,_,c4,c5⟩:=qR n u st t l k hk hk3 hk1
  rw[ek]
  refine aN (hK3 _ (aC (fun K6 hK6=>(aB (aE aA 1 rfl (iN hf rfl rfl rfl rfl rfl iR rfl (jJ _ (by omega)) ?_))))))
  rintro _ rfl
  refine aE aA 1 rfl (aD (hK6 _ (aC (fun K7 hK7=>(aB ?_)))))
  have hml:(l.map seC).length=l.length:=List.length_map _
  refine aE aA 6 rfl ?_
  refine aH rfl (cB rfl rfl fD dJ (by omega)) ?_
  refine aE aA 1 rfl (bB hf rfl rfl cA rfl rfl (by simp [AV.cells,AV.one,Value.oneCell']) (by simp [AV.cells,AV.leaf,Value.oneCell']) (iS (c:=4) (k:=k) (f:=2) (enc:=seC) (v:=(l[k].1,(st,l[k].2.2))) (by omega) (by first | omega | (rw[List.length_set]; omega)) (by first | rfl | (simp only[List.getElem_set_self]; rfl)) (Nat.le_of_ble_eq_true rfl)) ?_)
  refine aH rfl (cB rfl rfl fD dJ (by omega)) ?_
  refine aE aA 1 rfl (bB hf rfl rfl cA rfl rfl (by simp [AV.cells,AV.one,Value.oneCell']) (by simp [AV.cells,AV.leaf,Value.oneCell']) (iS (c:=4) (k:=k) (f:=3) (enc:=seC) (v:=(l[k].1,(st,t))) (by omega) (by first | omega | (rw[List.length_set]; omega)) (by first | rfl | (simp only[List.getElem_set_self]; rfl)) (Nat.le_of_ble_eq_true rfl)) ?_)
  refine aD (hK7 _ (aC (fun K8 hK8=>(aB (aE aA 3 rfl ?_)))))
  refine aH rfl (bG rfl rfl fD dJ (by first | exact ixm (by omega) | assumption | exact⟨by decide,rfl⟩)) ?_
  refine aE aA 2 rfl (aI hf rfl (aK rfl rfl xG rfl (yX _ _)) (aE aA 1 rfl (bB hf rfl rfl bC rfl rfl (l1 rfl) (l4 rfl) rfl (aE aA 1 rfl (aD (hK8 _ (aJ ?_)))))))
  refine⟨_,rfl,?_⟩
  refine(congrArg (fun z=>AV.tup [z,.agg (stC (fY l[k] t)),.s (.int .i64 0)]) (cI (g:=28) rfl (by simp only[List.length_map,List.length_set]))).trans ?_
  rw[sC,stR,if_pos c1,if_pos c1,c1,c2,c4,List.set_set]
end Go.Proofs.YtpkanhklapfajaaGreat
set_option linter.unusedVariables false
set_option linter.unusedSimpArgs false
namespace Go.Proofs.YtpkanhklapfajaaGreat
open Go Go.Abs
theorem aOn (l:List Se) (n:Int) (u:ByteArray) (t:Int) (hl:l.length*40+40≤140737488355328) :Den Tryz.prog 112 [.sl 4 (l.map seC),.s (.int .i64 n),.s (.string u),.s (.int .i64 t)]  (·=.tup [.sl 4 ((sB l n u).map seC),.agg (stC (stR l n u t)),.s (.int .i64 (jY l n u))]):=by
 refine aR Tryz.func112 rfl (Nat.le_of_ble_eq_true rfl) (fun w0 A hf=>(aC (fun K1 hK1=>(aB (aH rfl (bK) (aW hf rfl rfl rfl eE (aE aA 1 rfl (aD (hK1 _ (aC (fun K2 hK2=>(aB (aE aA 3 rfl (aI hf rfl (aK rfl rfl xF rfl (aG3 _ _ _ (by omega))) (aE aA 5 rfl ?_)))))))))))))))
 refine aD (hK2 _ (aC (fun K3 hK3=>(aC (fun K4 hK4=>(aB (aE aA 2 rfl (aD (hK4 _ (aL rfl (fun hc1=>?_) (fun hc1=>?_)))))))))))
 ·
  simp only[bs] at hc1
  refine aC (fun K5 hK5=>(aB (aH rfl (bR rfl eE qZ (l3 rfl) rfl) (aE aA 1 rfl (aH rfl (yN (k:=4)) (bB hf rfl rfl bC rfl rfl (l1 rfl) (l4 rfl) rfl (aE aA 1 rfl (aD (hK5 _ (aJ ?_))))))))))
  refine⟨_,rfl,?_⟩
  rw[sB,stR,if_neg (by assumption),if_neg (by assumption)]; rfl
 ·
  simp only[bs] at hc1
  obtain ⟨k,hk,ek,hk1,hk2,hk3⟩:=aLl (show jY l n u=0 by assumption)
  obtain ⟨c1,c2,c3⟩:=aXo hk hk1 hk2 hk3
  obtain ⟨_,_,_,c4,c5⟩:=qR n u 0 t l k hk hk3 hk1
  rw[ek]
  refine aN (hK3 _ (aC (fun K6 hK6=>(gL hf (L:=#[true,true,true,true,true,true,true,true,true,true,true,true,true,true,true,true,false,false]) 16 2 bE (by kernel_rfl) rfl (by kernel_rfl) rfl ?_))))
  refine aV aA 2 rfl (bQ [(24,_),(25,_)] rfl rfl ⟨⟨rfl,rfl⟩,⟨rfl,rfl⟩,trivial⟩ rfl (fO rfl fD dJ rfl (pY rfl (by omega)) (by omega) (by simp only[List.length_map,Int.toNat_natCast] <;> omega) (pO (k:=k) (by omega))) ?_)
  refine aV aA 2 rfl ?_
  refine bQ [(28,_)] rfl rfl ⟨⟨rfl,rfl⟩,trivial⟩ rfl (bO rfl rfl (by omega) (by omega)) ?_
  refine bQ [(27,_),(29,_)] rfl rfl ⟨⟨rfl,rfl⟩,⟨rfl,rfl⟩,trivial⟩ rfl (fO rfl fD dJ (pY rfl (by omega)) rfl (by simp only[List.length_map,Int.toNat_natCast] <;> omega) (by omega) (lH (k:=k+1) (by omega))) ?_
  refine bJ [(26,_),(30,_)] rfl rfl ⟨⟨rfl,rfl⟩,⟨rfl,rfl⟩,trivial⟩ rfl (aS zX rfl rfl rfl rfl (l2 rfl)) (bJ [(31,_)] rfl rfl ⟨⟨rfl,rfl⟩,trivial⟩ rfl (aK rfl rfl xE rfl ((show Den Tryz.prog _ _ (·=.sl 4 ((l.take k++l.drop (k+1)).map seC)) from (dA (vQ [l.take k,l.drop (k+1)] (by simp) (by simp only[List.flatten_cons,List.flatten_nil,List.length_append,List.length_take,List.length_drop,List.length_nil]; omega))).mono fun r h=>h.trans (by simp)))) ?_)
  refine aV aA 2 rfl ?_
  refine bQ [(33,_),(34,_)] rfl rfl ⟨⟨rfl,rfl⟩,⟨rfl,rfl⟩,trivial⟩ rfl (bG rfl rfl fD dJ (by first | exact ixm (by omega) | assumption | exact⟨by decide,rfl⟩)) ?_
  refine aV aA 2 rfl (bJ [(36,_),(37,_)] rfl rfl ⟨⟨rfl,rfl⟩,⟨rfl,rfl⟩,trivial⟩ rfl (aK rfl rfl xG rfl (yX l[k] t)) (aV aA 1 rfl (rM [8,9,38] rfl rfl rfl ?_)))
  refine aG 16 [] (by kernel_rfl) ⟨?_,trivial⟩
  ·
   refine⟨_,rfl,rfl,(ao rfl (bB hf rfl rfl bC rfl rfl (l1 rfl) (l4 rfl) rfl (aF (aG 17 [] (by kernel_rfl) ⟨?_,trivial⟩))))⟩
   ·
    refine⟨_,rfl,rfl,(ao rfl (aE aA 1 rfl (aF (bX (by kernel_rfl) ?_))))⟩
    refine hK6 _ (aJ ?_)
    refine⟨_,rfl,?_⟩
    rw[sB,stR,if_pos c1,if_pos c1,c1,c2,c5]; rfl
end Go.Proofs.YtpkanhklapfajaaGreat
set_option linter.unusedVariables false
set_option linter.unusedSimpArgs false
namespace Go.Proofs.YtpkanhklapfajaaGreat
open Go Go.Abs
theorem aRb (l:List Se) (e:Se) (hl:l.length*40+40≤140737488355328) :Den Tryz.prog 110 [.sl 4 (l.map seC),.agg (seC e)]  (·=.tup [.sl 4 ((rZ l e).map seC),.s (.int .i64 (zI l e))]):=by
 refine aR Tryz.func110 rfl (Nat.le_of_ble_eq_true rfl) (fun w0 A hf=>(aC (fun K1 hK1=>(aB (aI hf rfl (cE rfl rfl (lf rfl)) (aH rfl (bK) (aE aA 1 rfl (aD (hK1 _ (aC (fun K2 hK2=>(aB (aE aA 5 rfl (aI hf rfl (aK rfl rfl xF rfl (aG3 _ _ _ (by omega))) (aE aA 5 rfl ?_)))))))))))))))
 refine aD (hK2 _ (aC (fun K3 hK3=>(aP (aC (fun K4 hK4=>(aB (aE aA 3 rfl (aD (hK4 _ (aL rfl (fun hc1=>?_) (fun hc1=>?_))))))))))))
 ·
  simp only[bs] at hc1
  refine aC (fun K5 hK5=>(aB (aH rfl (yN (k:=4)) (aE aA 1 rfl (aD (hK5 _ (aJ ?_)))))))
  refine⟨_,rfl,?_⟩
  have ho:zI l e=100:=by
   unfold zI
   rw[if_pos (by have:=(aOi (l:=l) (n:=e.1.1) (u:=e.1.2)); cases hh:aNz l e.1.1 <;> simp_all)]
  rw[rZ,if_neg (by omega),ho]; rfl
 ·
  simp only[bs] at hc1
  have hno:aNz l e.1.1=false:=(aOi (u:=e.1.2)).1 (by assumption)
  refine aC (fun K6 hK6=>(aB (aE aA 4 rfl (aD (hK6 _ (aL rfl (fun hc2=>?_) (fun hc2=>?_)))))))
  ·
   simp only[bs] at hc2
   refine aC (fun K7 hK7=>(aB (aH rfl (yN (k:=4)) (aE aA 1 rfl (aD (hK7 _ (aJ ?_)))))))
   refine⟨_,rfl,?_⟩
   have ho:zI l e=103:=by
    unfold zI
    rw[if_neg (by simp [hno]),if_pos (by omega)]
   rw[rZ,if_neg (by omega),ho]; rfl
  ·
   simp only[bs] at hc2
   refine aN (hK3 _ (aC (fun K8 hK8=>(aB (aE aA 1 rfl (aH rfl (eY rfl) (aI hf rfl (aK rfl rfl xI rfl (rB aP0 rfl (oZ e.1.1) l (by omega) (fun x _=>aUx x e))) (aE aA 1 rfl (aD (hK8 _ (aC (fun K9 hK9=>(aC (fun K10 hK10=>(aB ?_)))))))))))))))
   refine aE aA 2 rfl (aD (hK10 _ (aL rfl (fun hc3=>?_) (fun hc3=>?_))))
   ·
    simp only[bs] at hc3
    obtain ⟨k,hk⟩:∃ k:Nat,k=l.length:=⟨_,rfl⟩
    have hnA:∀ x∈l,oZ e.1.1 x=false:=by
     rcases eP (oZ e.1.1) l with ⟨_,h⟩ | ⟨k',_,e0,_⟩
     · exact h
     · exfalso; omega
    have hins:=aK0 (oZ e.1.1) e l k (by omega) (fun j hj _=>hnA _ (List.getElem_mem hj)) (fun h=>by omega)
    refine aB (aE aA 2 rfl ?_)
    rw[List.length_map,← hk]
    refine aE aA 1 rfl (aD (hK9 _ (aC (fun K11 hK11=>(cP hf bE (by kernel_rfl) rfl (aV aA 2 rfl (bQ [(32,_),(33,_)] rfl rfl ⟨⟨rfl,rfl⟩,⟨rfl,rfl⟩,trivial⟩ rfl (fO rfl fD dJ rfl (pY rfl (by omega)) (by omega) (by simp only[List.length_map,Int.toNat_natCast] <;> omega) (pO (k:=k) (by omega))) ?_)))))))
    refine aV aA 1 rfl (bJ [(35,_)] rfl rfl ⟨⟨rfl,rfl⟩,trivial⟩ rfl (aS mB rfl rfl rfl rfl (l2 rfl)) (aV aA 2 rfl (bQ [(37,_),(38,_)] rfl rfl ⟨⟨rfl,rfl⟩,⟨rfl,rfl⟩,trivial⟩ rfl (fO rfl fD dJ (pY rfl (by omega)) rfl (by simp only[List.length_map,Int.toNat_natCast] <;> omega) (by omega) (lH (k:=k) (by omega))) ?_)))
    refine bJ [(34,_),(36,_),(39,_)] rfl rfl ⟨⟨rfl,rfl⟩,⟨rfl,rfl⟩,⟨rfl,rfl⟩,trivial⟩ rfl (aS zX rfl rfl rfl rfl (l2 rfl)) (bJ [(40,_)] rfl rfl ⟨⟨rfl,rfl⟩,trivial⟩ rfl (aK rfl rfl xE rfl ((show Den Tryz.prog _ _ (·=.sl 4 ((l.take k++e::l.drop k).map seC)) from (dA (vQ [l.take k,[e],l.drop k] (by simp) (by simp only[List.flatten_cons,List.flatten_nil,List.length_append,List.length_take,List.length_drop,List.length_cons,List.length_nil]; omega))).mono fun r h=>h.trans (by simp)))) ?_)
    refine aV aA 2 rfl (cT [4,5] rfl rfl rfl (hK11 _ (aJ ?_)))
    refine⟨_,rfl,?_⟩
    have ho:zI l e=0:=by
     unfold zI
     rw[if_neg (by simp [hno]),if_neg (by omega)]
    rw[rZ,if_pos ho,ho,aKt,hins]; rfl
   ·
    simp only[bs] at hc3
    obtain ⟨k,hk,ek,hk1,hk2⟩:∃ k:Nat,∃ h:k<l.length,qH (oZ e.1.1) l=(k:Nat)∧oZ e.1.1 l[k]=true∧∀ (j:Nat) (hj:j<l.length),j<k→oZ e.1.1 l[j]=false:=by
     rcases eP (oZ e.1.1) l with ⟨e0,_⟩ | ⟨k',h1,e0,h2,h3⟩
     · exfalso; omega
     · exact⟨k',h1,e0,h2,h3⟩
    rw[ek]
    have hins:=aK0 (oZ e.1.1) e l k (by omega) hk2 (fun _=>hk1)
    refine aN (hK9 _ (aC (fun K12 hK12=>(cP hf bE (by kernel_rfl) rfl (aV aA 2 rfl (bQ [(32,_),(33,_)] rfl rfl ⟨⟨rfl,rfl⟩,⟨rfl,rfl⟩,trivial⟩ rfl (fO rfl fD dJ rfl (pY rfl (by omega)) (by omega) (by simp only[List.length_map,Int.toNat_natCast] <;> omega) (pO (k:=k) (by omega))) ?_))))))
    refine aV aA 1 rfl (bJ [(35,_)] rfl rfl ⟨⟨rfl,rfl⟩,trivial⟩ rfl (aS mB rfl rfl rfl rfl (l2 rfl)) (aV aA 2 rfl (bQ [(37,_),(38,_)] rfl rfl ⟨⟨rfl,rfl⟩,⟨rfl,rfl⟩,trivial⟩ rfl (fO rfl fD dJ (pY rfl (by omega)) rfl (by simp only[List.length_map,Int.toNat_natCast] <;> omega) (by omega) (lH (k:=k) (by omega))) ?_)))
    refine bJ [(34,_),(36,_),(39,_)] rfl rfl ⟨⟨rfl,rfl⟩,⟨rfl,rfl⟩,⟨rfl,rfl⟩,trivial⟩ rfl (aS zX rfl rfl rfl rfl (l2 rfl)) (bJ [(40,_)] rfl rfl ⟨⟨rfl,rfl⟩,trivial⟩ rfl (aK rfl rfl xE rfl ((show Den Tryz.prog _ _ (·=.sl 4 ((l.take k++e::l.drop k).map seC)) from (dA (vQ [l.take k,[e],l.drop k] (by simp) (by simp only[List.flatten_cons,List.flatten_nil,List.length_append,List.length_take,List.length_drop,List.length_cons,List.length_nil]; omega))).mono fun r h=>h.trans (by simp)))) ?_)
    refine aV aA 2 rfl (cT [4,5] rfl rfl rfl (hK12 _ (aJ ?_)))
    refine⟨_,rfl,?_⟩
    have ho:zI l e=0:=by
     unfold zI
     rw[if_neg (by simp [hno]),if_neg (by omega)]
    rw[rZ,if_pos ho,ho,aKt,hins]; rfl
end Go.Proofs.YtpkanhklapfajaaGreat
set_option linter.unusedVariables false
set_option linter.unusedSimpArgs false
namespace Go.Proofs.YtpkanhklapfajaaGreat
open Go Go.Abs
end Go.Proofs.YtpkanhklapfajaaGreat
set_option linter.unusedVariables false
set_option linter.unusedSimpArgs false
namespace Go.Proofs.YtpkanhklapfajaaGreat
open Go Go.Abs
end Go.Proofs.YtpkanhklapfajaaGreat
set_option linter.unusedVariables false
namespace Go.Proofs.YtpkanhklapfajaaGreat
open Go Go.Abs Go.RowKit Go.Lib Go.Sort
theorem aAb {P:Program} {ops:Array Oper} {o:Oper} {a:Act} {w:World} {K:Act→World→Prop} {Q:Exit→Act→World→Prop} {E:Prop}
    (hg:o.guard=none) (s x:Operand) (t:TypeId) (hop:o.op=Op.call { callee:=Callee.builtin Builtin.append,args:=#[s,x],argTypes:=#[t,t] })
    {e k:Nat} (ht:elem? P t=some e) (hk:cells? P e=some k) {T:TypeId} (g n cap:Nat) (hs:a.eval s=.slice (some ⟨g,0,none⟩) n cap)
    (cur:Array Value) (hg0:w.heap[g]?=some (.cells cur T (0,0))) (ad:Addr) (m c:Nat) (news:List Value) (hx:a.eval x=.slice (some ad) m c) (hl:news.length=m*k)
    (hnews:∀ j u,news[j]?=some u→w.cell? (ad.add j)=some u) (h1:∀ u∈news,u.oneCell'=true) (hroom:n+m≤cap) (hfit:n*k+news.length≤cur.size)
    (hK:K (a.put o.dst (.slice (some ⟨g,0,none⟩) (n+m) cap)) (w.setRow g (cur.toList.take (n*k)++news++cur.toList.drop (n*k+news.length)).toArray)) :
    if Region.wanted o (yielded ops a.tmps)=true then Oper.wp P o a w K Q else E:=by
  have hw:Region.wanted o (yielded ops a.tmps)=true:=by simp [Region.wanted,hg]
  rw[if_pos hw]
  have hrun:=oQ (P:=P) (t:=t) (ty:=o.type) ht hk g n cap cur hg0 ad m c news hl hnews h1 hroom hfit
  unfold Oper.wp
  have he:(execOp a.eval o).run P w=((Builtin.append_ #[t,t] o.type #[a.eval s,a.eval x]).run P w).andThen fun v w'=>.ok (.value v) w':=by
    simp [execOp,hop,resolve,invoke,builtin]
  rw[he,hs,hx,hrun]
  exact hK
theorem aKi (w:World) (b:Nat) (c1 c2:Array Value):(w.setRow b c1).setRow b c2=w.setRow b c2:=by
  unfold World.setRow
  congr 1
  apply Array.ext
  · simp
  · intro i h1 h2
    simp only[Array.getElem_modify]
    split
    · generalize w.heap[i]'(by simpa using h2)=x
      cases x <;> rfl
    · rfl
set_option maxRecDepth 1000000 in
theorem aLj (b cap n i j:Nat) (cur:Array Value) (T:TypeId) (w:World) (hh:w.heap[b]?=some (.cells cur T (0,0))) (hsz:cap*4≤cur.size) (hn:n≤cap) (hm:cap≤9223372036854775807) (hij:j=i+1) (hi:i<n)
    (hone:∀ (j:Nat) (v:Value),j<n*4→cur[j]?=some v→v.oneCell'=true) :
    Calls Tryz.prog 157 #[.slice (some ⟨b,0,none⟩) n cap,.int .i64 i,.int .i64 ((j:Nat):Int)] w fun e w'=>e=.returned (.slice (some ⟨b,0,none⟩) (n - 1) cap) ∧
      ∃ cs,w'=w.drew.setRow b cs∧cs.size=cur.size∧∀ q,q<(n - 1)*4→cs[q]?=if q<i*4 then cur[q]? else cur[q+4]?:=by
  have hh':w.drew.heap[b]?=some (.cells cur T (0,0)):=hh
  have hcell:∀ j,j<cap*4→w.drew.cell? ⟨b,j,none⟩=cur[j]?:=fun j hj=>by simp [World.cell?,hh']
  obtain ⟨news,hnews⟩:∃ news,news=(cur.toList.drop (j*4)).take ((n - j)*4):=⟨_,rfl⟩
  have hlen:news.length=(n - j)*4:=by
    rw[hnews]; simp only[List.length_take,List.length_drop,Array.length_toList]; omega
  have hget:∀ t,t<(n - j)*4→news[t]?=cur[j*4+t]?:=fun t ht=>by
    rw[hnews,List.getElem?_take,if_pos ht,List.getElem?_drop,Array.getElem?_toList]
  obtain ⟨A,hA,hsrc⟩:∃ A:Addr,(if cap=j then some (⟨b,0,none⟩:Addr) else some ⟨b,j*4,none⟩)=some A∧Hid (∀ t u,news[t]?=some u→w.drew.cell? (A.add t)=some u):=by
    by_cases h:cap=j
    · refine⟨⟨b,0,none⟩,by simp [h],fun t u hu=>?_⟩
      have h0:news.length=0:=by rw[hlen]; omega
      rw[List.length_eq_zero_iff.1 h0] at hu
      simp at hu
    · refine⟨⟨b,j*4,none⟩,by simp [h],fun t u hu=>?_⟩
      have ht:t<(n - j)*4:=by
        have:=(List.getElem?_eq_some_iff.1 hu).1
        rwa [hlen] at this
      rw[hget t ht] at hu
      rw[Addr.add_lit]
      exact(hcell _ (by omega)).trans hu
  obtain ⟨he,hck,hk0,i0,z,hi0,hzz,hik,hby,hzc⟩:=appT?_inv lA
  have s1:Hid (news.length=(n - j)*4):=hlen
  have s2:Hid (∀ u∈news,u.oneCell'=true):=by
    intro u hu
    obtain ⟨t,ht⟩:=List.getElem?_of_mem hu
    have ht2:=(List.getElem?_eq_some_iff.1 ht).1
    rw[hlen] at ht2
    rw[hget t ht2] at ht
    exact hone _ _ (by omega) ht
  have s3:Hid (i*4+news.length≤cur.size):=by show i*4+news.length≤cur.size; rw[hlen]; omega
  have s4:Hid (w.drew.heap[b]?=some (.cells cur T (0,0))):=hh'
  obtain ⟨cs1,hcs1⟩:∃ cs1,cs1=(cur.toList.take (i*4)++news++cur.toList.drop (i*4+news.length)).toArray:=⟨_,rfl⟩
  have hc1s:cs1.size=cur.size:=by
    rw[hcs1]; simp only[List.size_toArray,List.length_append,List.length_take,List.length_drop,Array.length_toList,hlen]; omega
  obtain ⟨W1,hW1⟩:∃ W1,W1=w.drew.setRow b cs1:=⟨_,rfl⟩
  have hb1:W1.heap[b]?=some (.cells cs1 T (0,0)):=by rw[hW1]; exact setRow_heap _ b cur cs1 T _ hh'
  have hW:Hid (W1=w.drew.setRow b (cur.toList.take (i*4)++news++cur.toList.drop (i*4+news.length)).toArray):=by rw[← hcs1]; exact hW1
  have hrz:(zeroValue 147).run Tryz.prog W1=.ok z W1:=by simp [zeroValue,typeInfo,hi0,hzz]
  have hz1:∀ u∈z.cells.toList,u.oneCell'=true:=by
    have hz:=lZ
    unfold zeros? at hz
    simp [hi0,hzz] at hz
    intro u hu
    rw[hz] at hu
    simp at hu
    rcases hu with rfl | rfl <;> rfl
  have hzl:(Builtin.zeroCells z.cells (n - (i+(n - j)))).toList.length=4:=by rw[Array.length_toList,size_zeroCells,hzc]; omega
  have hst:=run_storeCells_at Tryz.prog b ((i+(n - j))*4) T (Builtin.zeroCells z.cells (n - (i+(n - j)))).toList 0 cs1 W1 hb1 (by rw[hzl,hc1s]; omega) (fun u hu=>hz1 u (yQ (by rw[hzc]; exact hk0) hu))
  simp only[Nat.add_zero] at hst
  obtain ⟨cs2,hcs2⟩:∃ cs2,cs2=(cs1.toList.take ((i+(n - j))*4)++(Builtin.zeroCells z.cells (n - (i+(n - j)))).toList++cs1.toList.drop ((i+(n - j))*4+(Builtin.zeroCells z.cells (n - (i+(n - j)))).toList.length)).toArray:=⟨_,rfl⟩
  rw[← hcs2] at hst
  have hcl:∀ ty,(Builtin.clear_ #[39] ty #[.slice (some ⟨b,(i+(n - j))*4,none⟩) (n - (i+(n - j))) (cap - (i+(n - j)))]).run Tryz.prog W1=.ok (.tuple #[]) (W1.setRow b cs2):=fun ty=>by
    have h0:¬ (n - (i+(n - j))=0):=by omega
    simp [Builtin.clear_,run_underlying (elem?_inv he),h0,hrz,hst]
  have hlt:i<j:=by omega
  have hjn:j≤n:=by omega
  have hic:i≤cap:=by omega
  have hjc:j≤cap:=by omega
  have hfin:W1.setRow b cs2=w.drew.setRow b cs2∧cs2.size=cur.size∧∀ q,q<(n - 1)*4→cs2[q]?=if q<i*4 then cur[q]? else cur[q+4]?:=by
    have hnj:(i+(n - j))*4=(n - 1)*4:=by rw[hij]; omega
    refine⟨?_,?_,?_⟩
    · rw[hW1]; exact aKi _ _ _ _
    · rw[hcs2]; simp only[List.size_toArray,List.length_append,List.length_take,List.length_drop,hzl,Array.length_toList,hc1s]; omega
    · intro q hq
      have e2:cs2[q]?=cs1[q]?:=by
        rw[hcs2,List.getElem?_toArray,List.append_assoc,List.getElem?_append_left (by simp only[List.length_take,Array.length_toList]; omega),List.getElem?_take,if_pos (by omega),Array.getElem?_toList]
      rw[e2,hcs1,List.getElem?_toArray,List.append_assoc]
      by_cases h:q<i*4
      · rw[if_pos h,List.getElem?_append_left (by simp only[List.length_take,Array.length_toList]; omega),List.getElem?_take,if_pos h,Array.getElem?_toList]
      · have hlt:(cur.toList.take (i*4)).length=i*4:=by simp only[List.length_take,Array.length_toList]; omega
        rw[if_neg h,List.getElem?_append_right (by omega),hlt,List.getElem?_append_left (by rw[hlen]; omega),hget _ (by omega)]
        congr 1
        omega
  have hfin':=show Hid _ from hfin
  clear hW1 hb1 hcs1 hcs2 hst hnews hget hfin hh' hcell hh hone hc1s hzl
  have hij2:Hid (j=i+1):=hij
  clear hij
  go_enter Tryz.func157,Tryz.ntmps157
  go_wp2_with fail
  go_region_law (refine aAb rfl (.tmp 22) (.tmp 25) 39 rfl he hck b i cap (by simp [Act.eval,Act.put]) cur s4.out A (n - j) (cap - j) news (by simp [Act.eval,Act.put]) s1.out hsrc.out s2.out (by omega) s3.out ?_; rw[← hW.out])
  go_wp2
  go_ret
  have h1:j=i+1:=hij2
  refine⟨?_,cs2,hfin'⟩
  rw[show n - 1=i+(n - j) by omega]
  rfl
theorem aOd (xs:List (List AV)) (n i:Nat) (z:Int) (hz:z=((i+1:Nat):Int)) (hn:n=xs.length) (hi:i<n):DenM Tryz.prog 157 [.own E0 4 0 n,.s (.int .i64 (i:Nat)),.s (.int .i64 z)] 4 xs (fun r ys=>r=.own E0 4 0 (n - 1)∧ys=xs.take i++xs.drop (i+1)):=by
  subst hz
  intro A w x vals hA hx hr hb
  obtain ⟨v0,v1,v2,rfl⟩:∃ v0 v1 v2,vals=[v0,v1,v2]:=by
    have:=hr.1
    match vals,this with
    | [a,b,c],_=>exact⟨a,b,c,rfl⟩
  have r0:=hr.2 0 _ v0 rfl rfl
  have r1:=hr.2 1 _ v1 rfl rfl
  have r2:=hr.2 2 _ v2 rfl rfl
  cases r1
  cases r2
  rcases hb with ⟨hb,_⟩ | ⟨b,cur,T,hbE,hh,hcs,hck,hcell⟩
  · rw[hb] at hn; simp at hn; omega
  have hxb:=(iA hbE).2
  subst hxb
  have hbs:b<w.heap.size:=(Array.getElem?_eq_some_iff.1 hh).1
  obtain ⟨cap,hcap,hcm,hsz,rfl⟩:∃ cap,n≤cap∧cap≤9223372036854775807∧cap*4≤cur.size∧v0=.slice (some ⟨b,0,none⟩) n cap:=by
    cases r0 with
    | ownn _ _ _=>omega
    | own _ _ _ _ b' cap cur' T' hg h1 h2 h3 h4 =>
      have:=(iA hg).2; cases this
      rw[hh] at h3; cases h3
      exact⟨cap,h1,by simpa [maxLen] using h2,by omega,by simp⟩
    | own0 _ _ _ _ _ _=>omega
  have hleaf:∀ (j:Nat) (y:List AV) (q:Nat) (a:AV),xs[j]?=some y→y[q]?=some a→a.leaf=true∧q<4:=fun j y q a hy ha =>
    ⟨(hck y (List.mem_of_getElem? hy)).2 a (List.mem_of_getElem? ha),by rw[← (hck y (List.mem_of_getElem? hy)).1]; exact(List.getElem?_eq_some_iff.1 ha).1⟩
  have hone:∀ (j:Nat) (v:Value),j<n*4→cur[j]?=some v→v.oneCell'=true:=fun j v hj hv=>by
    have hj4:j / 4<xs.length:=by rw[← hn]; omega
    have hy:xs[j / 4]?=some xs[j / 4]:=List.getElem?_eq_getElem hj4
    have hl:=(hck _ (List.mem_of_getElem? hy)).1
    obtain ⟨u,hu,hru⟩:=hcell (j / 4) _ (j % 4) _ hy (List.getElem?_eq_getElem (by rw[hl]; omega))
    rw[show j / 4*4+j % 4=j by omega,hv] at hu
    cases hu
    exact hru.one (AV.one_of_leaf (hleaf _ _ (j % 4) _ hy (List.getElem?_eq_getElem (by rw[hl]; omega))).1)
  refine(aLj b cap n i (i+1) cur T w hh hsz hcap hcm rfl hi hone).mono ?_
  rintro e w' ⟨rfl,cs,rfl,hcsz,hget⟩
  have hb':(w.drew.setRow b cs).heap[b]?=some (.cells cs T (0,0)):=setRow_heap _ b cur cs T _ hh
  have hoth:∀ b',b'≠b→(w.drew.setRow b cs).heap[b']?=w.heap[b']?:=fun b' hne=>setRow_other w.drew b b' cs hne
  have hwsz:(w.drew.setRow b cs).heap.size=w.heap.size:=by
    show (w.drew.setRow b cs).heap.size=w.drew.heap.size
    simp [World.setRow]
  have hne:∀ b',Stable w (fE (some b) A) b'→b'≠b:=fun b' hb' h=>hb'.2.1 E0 (by rw[eN,h])
  have hstab:∀ b',Stable w (fE (some b) A) b'→Stable (w.drew.setRow b cs) (fE (some b) A) b':=fun b' hb'=>⟨by rw[hwsz]; exact hb'.1,hb'.2⟩
  have hmv:∀ (a:AV) (v:Value),a.leaf=true→RelV w (fE (some b) A) a v→RelV (w.drew.setRow b cs) (fE (some b) A) a v :=
    fun a v hlf h=>h.move (ok:=fun _=>false) (fun b' hb'=>⟨hstab b' hb',hoth b' (hne b' hb')⟩) (fun _ _ h _=>by cases h) (AV.clean_of_leaf hlf)
  have hl2:(xs.take i++xs.drop (i+1)).length=n - 1:=by simp only[List.length_append,List.length_take,List.length_drop]; omega
  refine⟨_,.own E0 4 0 (n - 1),xs.take i++xs.drop (i+1),rfl,⟨rfl,rfl⟩,?_,?_,?_⟩
  · refine⟨rfl,⟨rfl,Nat.le_add_right _ _⟩,rfl,by rw[hwsz]; omega,rfl,fun b' hb'=>⟨hstab b' hb',hoth b' (hne b' hb')⟩,fun b' hb' hAb=>hoth b' (fun h=>hx b' (by rw[h]) hAb),fun g' x hg'=>?_⟩
    have:=iA hg'
    obtain ⟨rfl,rfl⟩:=this
    refine .inr ⟨eN _ _,fun b' hb' cur' T' hh'=>?_⟩
    cases hb'
    rw[hh] at hh'; cases hh'
    exact⟨_,by assumption,hcsz⟩
  · refine .inr ⟨b,cs,T,eN _ _,hb',?_,?_,?_⟩
    · rw[hl2,hcsz]; omega
    · intro y hy
      rcases List.mem_append.1 hy with hy | hy
      · exact hck y (List.mem_of_mem_take hy)
      · exact hck y (List.mem_of_mem_drop hy)
    · intro j y q a hy ha
      have hj:j<n - 1:=by rw[← hl2]; exact(List.getElem?_eq_some_iff.1 hy).1
      by_cases h:j<i
      · rw[List.getElem?_append_left (by simp only[List.length_take]; omega),List.getElem?_take,if_pos h] at hy
        obtain ⟨hlf,hq⟩:=hleaf j y q a hy ha
        obtain ⟨u,hu,hru⟩:=hcell j y q a hy ha
        refine⟨u,?_,hmv _ _ hlf hru⟩
        rw[hget _ (by omega),if_pos (by omega)]; exact hu
      · have htl:(xs.take i).length=i:=by simp only[List.length_take]; omega
        rw[List.getElem?_append_right (by omega),htl,List.getElem?_drop,show i+1+(j - i)=j+1 by omega] at hy
        obtain ⟨hlf,hq⟩:=hleaf (j+1) y q a hy ha
        obtain ⟨u,hu,hru⟩:=hcell (j+1) y q a hy ha
        refine⟨u,?_,hmv _ _ hlf hru⟩
        rw[hget _ (by omega),if_neg (by omega),← hu]
        congr 1; omega
  · have:=RelV.own (w:=w.drew.setRow b cs) (p:=fE (some b) A) E0 4 0 (n - 1) b cap cs T (eN _ _) (by omega) (by simpa [maxLen] using hcm) hb' (by omega)
    simpa using this
end Go.Proofs.YtpkanhklapfajaaGreat
set_option linter.unusedVariables false
set_option linter.unusedSimpArgs false
namespace Go.Proofs.YtpkanhklapfajaaGreat
open Go Go.Abs
theorem aQ6 (l:List En) (p:Pr) (t:Int) (hl:l.length*48+48≤140737488355328) :Den Tryz.prog 114 [.sl 4 (l.map enC),.agg (prC p),.s (.int .i64 t)]  (·=.tup [.sl 4 ((if onB l p then mH l p t else []).map enC),.s (.int .i64 (if onB l p then 0 else 91))]):=by
 refine aR Tryz.func114 rfl (Nat.le_of_ble_eq_true rfl) (fun w0 A hf=>(aC (fun K1 hK1=>(aB (aI hf rfl (cE rfl rfl (lf rfl)) (aH rfl (bK) (aE aA 1 rfl (aD (hK1 _ (aC (fun K2 hK2=>(aB (aE aA 2 rfl (aI hf rfl (aK rfl rfl aDt rfl (aJt _ _ (by omega))) (aE aA 1 rfl ?_)))))))))))))))
 refine aD (hK2 _ (aC (fun K3 hK3=>(aC (fun K4 hK4=>(aB (aE aA 2 rfl (aD (hK4 _ (aL rfl (fun hc1=>?_) (fun hc1=>?_)))))))))))
 ·
  simp only[bs] at hc1
  refine aC (fun K5 hK5=>(aB (aH rfl (yN (k:=4)) (aE aA 1 rfl (aD (hK5 _ (aJ ?_)))))))
  refine⟨_,rfl,?_⟩
  rw[show onB l p=false from onB_f (by omega)]; rfl
 ·
  simp only[bs] at hc1
  obtain ⟨k,hk,ek,hk1,hk2⟩:∃ k:Nat,∃ h:k<l.length,qH (iI p) l=(k:Nat)∧iI p l[k]=true∧∀ (j:Nat) (hj:j<l.length),j<k→iI p l[j]=false:=by
    rcases eP (iI p) l with ⟨e,_⟩ | ⟨k',h1,e,h2,h3⟩
    · exfalso; omega
    · exact⟨k',h1,e,h2,h3⟩
  rw[ek]
  refine aN (hK3 _ (aC (fun K6 hK6=>(aB (aE aA 1 rfl (iN hf rfl rfl rfl rfl rfl nN rfl (oW _ (by omega)) ?_))))))
  rintro _ rfl
  refine aE aA 1 rfl (aD (hK6 _ (aC (fun K7 hK7=>(aB ?_)))))
  have hml:(l.map enC).length=l.length:=List.length_map _
  refine aE aA 3 rfl ?_
  refine aH rfl (cB rfl rfl fX dQ (by omega)) ?_
  refine aE aA 2 rfl (bB hf rfl rfl cA rfl rfl (by simp [AV.cells,AV.one,Value.oneCell']) (by simp [AV.cells,AV.leaf,Value.oneCell']) (iS (c:=4) (k:=k) (f:=3) (enc:=enC) (v:=(l[k].1,(l[k].2.1,t))) (by omega) (by omega) rfl (Nat.le_refl _)) ?_)
  refine aD (hK7 _ (aC (fun K8 hK8=>(aC (fun K9 hK9=>(aB (aE aA 2 rfl ?_)))))))
  refine aH rfl (cB rfl rfl fX dQ (by omega)) ?_
  refine aE aA 1 rfl (aH rfl (cD rfl aHa cY rfl (by rw[aF4 (c:=4) (k:=k) (enc:=enC) (by omega) (by rw[List.length_set]; omega),List.getElem_set_self]; rfl) (cs':=spC (l[k].2.1,t)) (by rw[aF4 (c:=4) (k:=k) (enc:=enC) (by omega) (by rw[List.length_set]; omega),List.getElem_set_self]; rfl)) ?_)
  refine aI hf rfl (aK rfl rfl jP rfl (mK _)) (aD (hK9 _ (aL rfl (fun hc2=>?_) (fun hc2=>?_))))
  ·
   simp only[bs] at hc2
   refine aB (aE aA 3 rfl ?_)
   refine aH rfl (bO rfl rfl (by omega) (by omega)) ?_
   refine gE hf 16 rfl rfl rfl rfl rfl aPx (aOd (List.map enC (l.set k (l[k].1,(l[k].2.1,t)))) _ k _ (by omega) (by simp only[List.length_map,List.length_set] <;> omega) (by simp only[List.length_map] <;> omega)) ?_
   rintro r zs ⟨rfl,rfl⟩
   refine aE aA 1 rfl (aD (hK8 _ (aC (fun K10 hK10=>(aB (aE aA 3 rfl (aD (hK10 _ (aJ ?_)))))))))
   refine⟨_,rfl,?_⟩
   rw[show onB l p=true from aXa hk hk1]
   (refine(congrArg (fun z=>AV.tup [z,.s (.int .i64 0)]) (cI (g:=16) rfl (by first | rfl | (simp only[List.length_map,List.length_append,List.length_take,List.length_drop,List.length_set]; omega)))).trans ?_; rw[if_pos rfl,if_pos rfl,← rev_del (v:=(l[k].1,(l[k].2.1,t))) hk hk2 hk1 (by omega),List.map_append,List.map_take,List.map_drop])
  ·
   simp only[bs] at hc2
   refine aN (hK8 _ (aC (fun K11 hK11=>(aB (aE aA 3 rfl (aD (hK11 _ (aJ ?_))))))))
   refine⟨_,rfl,?_⟩
   rw[show onB l p=true from aXa hk hk1]
   (refine(congrArg (fun z=>AV.tup [z,.s (.int .i64 0)]) (cI (g:=16) rfl (by rw[List.length_map,List.length_map,List.length_set]))).trans ?_; rw[if_pos rfl,if_pos rfl,rev_set hk hk2 hk1 (by omega)])
end Go.Proofs.YtpkanhklapfajaaGreat
set_option linter.unusedVariables false
set_option linter.unusedSimpArgs false
namespace Go.Proofs.YtpkanhklapfajaaGreat
open Go Go.Abs
theorem aVr (s:Sta) (e:Ev) (hz:SzS 140737488355100 s) (hr:dL cM s.usr) (hr2:dL dV s.tmb) (hk:e.kind=1) :DenX Tryz.prog 60 [.agg (eX s E0 E1),.agg (evC e)] [(E0,.buf 2 (s.usr.map usC)),(E1,.buf 2 (s.tmb.map tmC))] (fun r m=>r=.tup [.agg (eX (bU s e).1 E0 E1),.s (.int .i64 (bU s e).2)]∧m=[(E0,.buf 2 ((bU s e).1.usr.map usC)),(E1,.buf 2 ((bU s e).1.tmb.map tmC))]):=by
 have z1:=hz.o
 have z2:=hz.u
 have z3:=hz.b
 have z4:=hz.t
 have q:=aNf s.opn ((e.n,e.user),(e.st,e.at'))
 have hz2:SzS 140737488355200 ({ s with opn:=rZ s.opn ((e.n,e.user),(e.st,e.at')) }):=⟨by show (rZ s.opn ((e.n,e.user),(e.st,e.at'))).length*40≤_; omega,by show s.usr.length*40≤_; omega,by show s.sub.length*48≤_; omega,by show s.tmb.length*24≤_; omega,fun x hx=>by have:=hz.y x hx; omega⟩
 have hr3:dL cM (({ s with opn:=rZ s.opn ((e.n,e.user),(e.st,e.at')) })).usr:=hr
 have hd:bU s e=(eU ({ s with opn:=rZ s.opn ((e.n,e.user),(e.st,e.at')) }) e.user (st0),zI s.opn ((e.n,e.user),(e.st,e.at'))):=by
  rw[bU,if_pos hk]
  rw[nJ (show st0.1.2≤st0.1.1 from Int.le_refl _)]
 rw[hd]
 refine jN [(E0,G0),(E1,G1)] Tryz.func60 rfl (Nat.le_of_ble_eq_true rfl) (args':=[.agg (eX s G0 G1),.agg (evC e)]) (m':=[(G0,.buf 2 (s.usr.map usC)),(G1,.buf 2 (s.tmb.map tmC))]) rfl rfl (by decide) (by decide) rfl (fun w0 o0 A hf=>?_)
 refine aC (fun K1 hK1=>(aB (vI hf rfl rfl rfl rfl (l1 rfl) ?_)))
 refine aI hf rfl (cE rfl rfl (lf rfl)) (aW hf rfl rfl rfl bA (aE aA 1 rfl (aD (hK1 _ (aC (fun K2 hK2=>(aB (aE aA 4 rfl (aH rfl (bR rfl gN kD (l3 rfl) rfl) (bY hf rfl gN rfl oJ rfl rfl rfl rfl (lf rfl) (aD (hK2 _ (aC (fun K3 hK3=>?_))))))))))))))
 refine aB (aE aA 1 rfl (aD (hK3 _ (aC (fun K4 hK4=>(aB (aW hf rfl rfl rfl eE (aD (hK4 _ (aC (fun K5 hK5=>(aC (fun K6 hK6=>(aB (aE aA 2 rfl ?_)))))))))))))))
 refine aD (hK6 _ (aP (aC (fun K7 hK7=>(aB (aH rfl (fG rfl rfl (iO (by omega))) (aE aA 1 rfl (aD (hK7 _ (bN rfl (aB (aE aA 10 rfl (aH rfl (bR rfl qY aR9 (l3 rfl) rfl) ?_)))))))))))))
 refine aI hf rfl (aK rfl rfl aQk rfl (aRb s.opn ((e.n,e.user),(e.st,e.at')) (by omega))) (aE aA 4 rfl (bB hf rfl rfl mS rfl rfl (l1 rfl) (l4 rfl) rfl (aE aA 1 rfl ?_)))
 refine bS ?_
 refine hK5 _ (aC (fun K8 hK8=>(aB (aE aA 4 rfl (jC hf [(E0,G0),(E1,G1)] [(E0,G0),(E1,G1)] rfl rfl rfl rfl rfl rfl (by decide) (by decide) (by decide) rfl lR (oY ({ s with opn:=rZ s.opn ((e.n,e.user),(e.st,e.at')) }) e.user (st0) hz2 hr3) ?_)))))
 rintro r m1 ⟨rfl,rfl⟩
 rw[mZ]
 refine bD (cJ (sl':=[(4,.ref 4 0 0 0),(7,.s (.int .i64 (zI s.opn ((e.n,e.user),(e.st,e.at'))))),(112,.agg (eX (eU ({ s with opn:=rZ s.opn ((e.n,e.user),(e.st,e.at')) }) e.user (st0)) G0 G1))]) (m':=[(G0,.buf 2 ((eU ({ s with opn:=rZ s.opn ((e.n,e.user),(e.st,e.at')) }) e.user (st0)).usr.map usC)),(G1,.buf 2 ((eU ({ s with opn:=rZ s.opn ((e.n,e.user),(e.st,e.at')) }) e.user (st0)).tmb.map tmC)),(8,.box (stC (st0))),(4,.box [.s (.int .i64 0),.s (.int .i64 0),.s (.slice none 0 0),.s (.slice none 0 0),.s (.slice none 0 0),.s (.slice none 0 0)]),(2,.box [.s (.int .i64 (({ s with opn:=rZ s.opn ((e.n,e.user),(e.st,e.at')) })).now),.s (.int .i64 (({ s with opn:=rZ s.opn ((e.n,e.user),(e.st,e.at')) })).hor),.sl 4 ((({ s with opn:=rZ s.opn ((e.n,e.user),(e.st,e.at')) })).opn.map seC),.bad,.sl 4 ((({ s with opn:=rZ s.opn ((e.n,e.user),(e.st,e.at')) })).sub.map enC),.bad])]) ⟨rfl,rfl,rfl,trivial⟩ rfl) ?_
 refine aE aA 1 rfl (bB hf rfl rfl cG rfl rfl (l1 rfl) (l4 rfl) rfl (aE aA 1 rfl (aD (hK8 _ (aJ ?_)))))
 exact⟨_,[(E0,G0),(E1,G1)],_,Le.refl _,by decide,rfl,rfl,⟨rfl,rfl⟩⟩
theorem aVq (s:Sta) (e:Ev) (hz:SzS 140737488355100 s) (hr:dL cM s.usr) (hr2:dL dV s.tmb) (hk:e.kind=2) :DenX Tryz.prog 60 [.agg (eX s E0 E1),.agg (evC e)] [(E0,.buf 2 (s.usr.map usC)),(E1,.buf 2 (s.tmb.map tmC))] (fun r m=>r=.tup [.agg (eX (bU s e).1 E0 E1),.s (.int .i64 (bU s e).2)]∧m=[(E0,.buf 2 ((bU s e).1.usr.map usC)),(E1,.buf 2 ((bU s e).1.tmb.map tmC))]):=by
 have z1:=hz.o
 have z2:=hz.u
 have z3:=hz.b
 have z4:=hz.t
 have q:=aOo s.opn e.n e.user e.st e.at'
 have hz2:SzS 140737488355200 ({ s with opn:=sC s.opn e.n e.user e.st e.at' }):=⟨by show (sC s.opn e.n e.user e.st e.at').length*40≤_; omega,by show s.usr.length*40≤_; omega,by show s.sub.length*48≤_; omega,by show s.tmb.length*24≤_; omega,fun x hx=>by have:=hz.y x hx; omega⟩
 have hr3:dL cM (({ s with opn:=sC s.opn e.n e.user e.st e.at' })).usr:=hr
 have hd:bU s e=(eU ({ s with opn:=sC s.opn e.n e.user e.st e.at' }) e.user (stR s.opn e.n e.user e.at'),jY s.opn e.n e.user):=by
  rw[bU,if_neg (by omega),if_pos hk]
  rfl
 rw[hd]
 refine jN [(E0,G0),(E1,G1)] Tryz.func60 rfl (Nat.le_of_ble_eq_true rfl) (args':=[.agg (eX s G0 G1),.agg (evC e)]) (m':=[(G0,.buf 2 (s.usr.map usC)),(G1,.buf 2 (s.tmb.map tmC))]) rfl rfl (by decide) (by decide) rfl (fun w0 o0 A hf=>?_)
 refine aC (fun K1 hK1=>(aB (vI hf rfl rfl rfl rfl (l1 rfl) ?_)))
 refine aI hf rfl (cE rfl rfl (lf rfl)) (aW hf rfl rfl rfl bA (aE aA 1 rfl (aD (hK1 _ (aC (fun K2 hK2=>(aB (aE aA 4 rfl (aH rfl (bR rfl gN kD (l3 rfl) rfl) (bY hf rfl gN rfl oJ rfl rfl rfl rfl (lf rfl) (aD (hK2 _ (aC (fun K3 hK3=>?_))))))))))))))
 refine aB (aE aA 1 rfl (aD (hK3 _ (aC (fun K4 hK4=>(aB (aW hf rfl rfl rfl eE (aD (hK4 _ (aC (fun K5 hK5=>(aC (fun K6 hK6=>(aB (aE aA 2 rfl ?_)))))))))))))))
 refine aD (hK6 _ (aP (aC (fun K7 hK7=>(aB (aH rfl (fG rfl rfl (hZ (by omega))) (aE aA 1 rfl (aD (hK7 _ (bW rfl (aC (fun K8 hK8=>(aB (aH rfl (fG rfl rfl (iO (by omega))) ?_))))))))))))))
 refine aE aA 1 rfl (aD (hK8 _ (bN rfl (aB (aE aA 10 rfl (aI hf rfl (aK rfl rfl aQj rfl (aLn s.opn e.n e.user e.st e.at' (by omega))) (aE aA 5 rfl (bB hf rfl rfl mS rfl rfl (l1 rfl) (l4 rfl) rfl (bB hf rfl rfl bC rfl rfl (l1 rfl) (l4 rfl) rfl (aE aA 1 rfl ?_))))))))))
 refine bS ?_
 refine hK5 _ (aC (fun K9 hK9=>(aB (aE aA 4 rfl (jC hf [(E0,G0),(E1,G1)] [(E0,G0),(E1,G1)] rfl rfl rfl rfl rfl rfl (by decide) (by decide) (by decide) rfl lR (oY ({ s with opn:=sC s.opn e.n e.user e.st e.at' }) e.user (stR s.opn e.n e.user e.at') hz2 hr3) ?_)))))
 rintro r m1 ⟨rfl,rfl⟩
 rw[mZ]
 refine bD (cJ (sl':=[(4,.ref 4 0 0 0),(7,.s (.int .i64 (jY s.opn e.n e.user))),(112,.agg (eX (eU ({ s with opn:=sC s.opn e.n e.user e.st e.at' }) e.user (stR s.opn e.n e.user e.at')) G0 G1))]) (m':=[(G0,.buf 2 ((eU ({ s with opn:=sC s.opn e.n e.user e.st e.at' }) e.user (stR s.opn e.n e.user e.at')).usr.map usC)),(G1,.buf 2 ((eU ({ s with opn:=sC s.opn e.n e.user e.st e.at' }) e.user (stR s.opn e.n e.user e.at')).tmb.map tmC)),(8,.box (stC (stR s.opn e.n e.user e.at'))),(4,.box [.s (.int .i64 0),.s (.int .i64 0),.s (.slice none 0 0),.s (.slice none 0 0),.s (.slice none 0 0),.s (.slice none 0 0)]),(2,.box [.s (.int .i64 (({ s with opn:=sC s.opn e.n e.user e.st e.at' })).now),.s (.int .i64 (({ s with opn:=sC s.opn e.n e.user e.st e.at' })).hor),.sl 4 ((({ s with opn:=sC s.opn e.n e.user e.st e.at' })).opn.map seC),.bad,.sl 4 ((({ s with opn:=sC s.opn e.n e.user e.st e.at' })).sub.map enC),.bad])]) ⟨rfl,rfl,rfl,trivial⟩ rfl) ?_
 refine aE aA 1 rfl (bB hf rfl rfl cG rfl rfl (l1 rfl) (l4 rfl) rfl (aE aA 1 rfl (aD (hK9 _ (aJ ?_)))))
 exact⟨_,[(E0,G0),(E1,G1)],_,Le.refl _,by decide,rfl,rfl,⟨rfl,rfl⟩⟩
theorem aVp (s:Sta) (e:Ev) (hz:SzS 140737488355100 s) (hr:dL cM s.usr) (hr2:dL dV s.tmb) (hk:e.kind=3) :DenX Tryz.prog 60 [.agg (eX s E0 E1),.agg (evC e)] [(E0,.buf 2 (s.usr.map usC)),(E1,.buf 2 (s.tmb.map tmC))] (fun r m=>r=.tup [.agg (eX (bU s e).1 E0 E1),.s (.int .i64 (bU s e).2)]∧m=[(E0,.buf 2 ((bU s e).1.usr.map usC)),(E1,.buf 2 ((bU s e).1.tmb.map tmC))]):=by
 have z1:=hz.o
 have z2:=hz.u
 have z3:=hz.b
 have z4:=hz.t
 have q:=aOk s.opn e.n e.user
 have hz2:SzS 140737488355200 ({ s with opn:=sB s.opn e.n e.user }):=⟨by show (sB s.opn e.n e.user).length*40≤_; omega,by show s.usr.length*40≤_; omega,by show s.sub.length*48≤_; omega,by show s.tmb.length*24≤_; omega,fun x hx=>by have:=hz.y x hx; omega⟩
 have hr3:dL cM (({ s with opn:=sB s.opn e.n e.user })).usr:=hr
 have hd:bU s e=(eU ({ s with opn:=sB s.opn e.n e.user }) e.user (stR s.opn e.n e.user e.at'),jY s.opn e.n e.user):=by
  rw[bU,if_neg (by omega),if_neg (by omega),if_pos hk]
  rfl
 rw[hd]
 refine jN [(E0,G0),(E1,G1)] Tryz.func60 rfl (Nat.le_of_ble_eq_true rfl) (args':=[.agg (eX s G0 G1),.agg (evC e)]) (m':=[(G0,.buf 2 (s.usr.map usC)),(G1,.buf 2 (s.tmb.map tmC))]) rfl rfl (by decide) (by decide) rfl (fun w0 o0 A hf=>?_)
 refine aC (fun K1 hK1=>(aB (vI hf rfl rfl rfl rfl (l1 rfl) ?_)))
 refine aI hf rfl (cE rfl rfl (lf rfl)) (aW hf rfl rfl rfl bA (aE aA 1 rfl (aD (hK1 _ (aC (fun K2 hK2=>(aB (aE aA 4 rfl (aH rfl (bR rfl gN kD (l3 rfl) rfl) (bY hf rfl gN rfl oJ rfl rfl rfl rfl (lf rfl) (aD (hK2 _ (aC (fun K3 hK3=>?_))))))))))))))
 refine aB (aE aA 1 rfl (aD (hK3 _ (aC (fun K4 hK4=>(aB (aW hf rfl rfl rfl eE (aD (hK4 _ (aC (fun K5 hK5=>(aC (fun K6 hK6=>(aB (aE aA 2 rfl ?_)))))))))))))))
 refine aD (hK6 _ (aP (aC (fun K7 hK7=>(aB (aH rfl (fG rfl rfl (hZ (by omega))) (aE aA 1 rfl (aD (hK7 _ (bW rfl (aC (fun K8 hK8=>(aB (aH rfl (fG rfl rfl (hZ (by omega))) ?_))))))))))))))
 refine aE aA 1 rfl (aD (hK8 _ (bW rfl (aC (fun K9 hK9=>(aB (aH rfl (fG rfl rfl (iO (by omega))) (aE aA 1 rfl (aD (hK9 _ (bN rfl (aB (aE aA 8 rfl ?_)))))))))))))
 refine aI hf rfl (aK rfl rfl aQi rfl (aOn s.opn e.n e.user e.at' (by omega))) (aE aA 5 rfl (bB hf rfl rfl mS rfl rfl (l1 rfl) (l4 rfl) rfl (bB hf rfl rfl bC rfl rfl (l1 rfl) (l4 rfl) rfl (aE aA 1 rfl ?_))))
 refine bS ?_
 refine hK5 _ (aC (fun K10 hK10=>(aB (aE aA 4 rfl (jC hf [(E0,G0),(E1,G1)] [(E0,G0),(E1,G1)] rfl rfl rfl rfl rfl rfl (by decide) (by decide) (by decide) rfl lR (oY ({ s with opn:=sB s.opn e.n e.user }) e.user (stR s.opn e.n e.user e.at') hz2 hr3) ?_)))))
 rintro r m1 ⟨rfl,rfl⟩
 rw[mZ]
 refine bD (cJ (sl':=[(4,.ref 4 0 0 0),(7,.s (.int .i64 (jY s.opn e.n e.user))),(112,.agg (eX (eU ({ s with opn:=sB s.opn e.n e.user }) e.user (stR s.opn e.n e.user e.at')) G0 G1))]) (m':=[(G0,.buf 2 ((eU ({ s with opn:=sB s.opn e.n e.user }) e.user (stR s.opn e.n e.user e.at')).usr.map usC)),(G1,.buf 2 ((eU ({ s with opn:=sB s.opn e.n e.user }) e.user (stR s.opn e.n e.user e.at')).tmb.map tmC)),(8,.box (stC (stR s.opn e.n e.user e.at'))),(4,.box [.s (.int .i64 0),.s (.int .i64 0),.s (.slice none 0 0),.s (.slice none 0 0),.s (.slice none 0 0),.s (.slice none 0 0)]),(2,.box [.s (.int .i64 (({ s with opn:=sB s.opn e.n e.user })).now),.s (.int .i64 (({ s with opn:=sB s.opn e.n e.user })).hor),.sl 4 ((({ s with opn:=sB s.opn e.n e.user })).opn.map seC),.bad,.sl 4 ((({ s with opn:=sB s.opn e.n e.user })).sub.map enC),.bad])]) ⟨rfl,rfl,rfl,trivial⟩ rfl) ?_
 refine aE aA 1 rfl (bB hf rfl rfl cG rfl rfl (l1 rfl) (l4 rfl) rfl (aE aA 1 rfl (aD (hK10 _ (aJ ?_)))))
 exact⟨_,[(E0,G0),(E1,G1)],_,Le.refl _,by decide,rfl,rfl,⟨rfl,rfl⟩⟩
theorem aVo (s:Sta) (e:Ev) (hz:SzS 140737488355100 s) (hr:dL cM s.usr) (hr2:dL dV s.tmb) (hk:e.kind=4) :DenX Tryz.prog 60 [.agg (eX s E0 E1),.agg (evC e)] [(E0,.buf 2 (s.usr.map usC)),(E1,.buf 2 (s.tmb.map tmC))] (fun r m=>r=.tup [.agg (eX (bU s e).1 E0 E1),.s (.int .i64 (bU s e).2)]∧m=[(E0,.buf 2 ((bU s e).1.usr.map usC)),(E1,.buf 2 ((bU s e).1.tmb.map tmC))]):=by
 have z1:=hz.o
 have z2:=hz.u
 have z3:=hz.b
 have z4:=hz.t
 have q:=aNr s.sub (e.user,e.other) e.at'
 have hz2:SzS 140737488355200 ({ s with sub:=if onB s.sub (e.user,e.other)=true then [] else lC s.sub (e.user,e.other) e.at' }):=⟨by show s.opn.length*40≤_; omega,by show s.usr.length*40≤_; omega,by show (if onB s.sub (e.user,e.other)=true then [] else lC s.sub (e.user,e.other) e.at').length*48≤_; omega,by show s.tmb.length*24≤_; omega,fun x hx=>by have:=hz.y x hx; omega⟩
 have hr3:dL cM (({ s with sub:=if onB s.sub (e.user,e.other)=true then [] else lC s.sub (e.user,e.other) e.at' })).usr:=hr
 have hd:bU s e=(eU ({ s with sub:=if onB s.sub (e.user,e.other)=true then [] else lC s.sub (e.user,e.other) e.at' }) e.user (st0),if onB s.sub (e.user,e.other)=true then 90 else 0):=by
  rw[bU,if_neg (by omega),if_neg (by omega),if_neg (by omega),if_pos hk]
  rw[nJ (show st0.1.2≤st0.1.1 from Int.le_refl _)]
 rw[hd]
 refine jN [(E0,G0),(E1,G1)] Tryz.func60 rfl (Nat.le_of_ble_eq_true rfl) (args':=[.agg (eX s G0 G1),.agg (evC e)]) (m':=[(G0,.buf 2 (s.usr.map usC)),(G1,.buf 2 (s.tmb.map tmC))]) rfl rfl (by decide) (by decide) rfl (fun w0 o0 A hf=>?_)
 refine aC (fun K1 hK1=>(aB (vI hf rfl rfl rfl rfl (l1 rfl) ?_)))
 refine aI hf rfl (cE rfl rfl (lf rfl)) (aW hf rfl rfl rfl bA (aE aA 1 rfl (aD (hK1 _ (aC (fun K2 hK2=>(aB (aE aA 4 rfl (aH rfl (bR rfl gN kD (l3 rfl) rfl) (bY hf rfl gN rfl oJ rfl rfl rfl rfl (lf rfl) (aD (hK2 _ (aC (fun K3 hK3=>?_))))))))))))))
 refine aB (aE aA 1 rfl (aD (hK3 _ (aC (fun K4 hK4=>(aB (aW hf rfl rfl rfl eE (aD (hK4 _ (aC (fun K5 hK5=>(aC (fun K6 hK6=>(aB (aE aA 2 rfl ?_)))))))))))))))
 refine aD (hK6 _ (aP (aC (fun K7 hK7=>(aB (aH rfl (fG rfl rfl (hZ (by omega))) (aE aA 1 rfl (aD (hK7 _ (bW rfl (aC (fun K8 hK8=>(aB (aH rfl (fG rfl rfl (hZ (by omega))) ?_))))))))))))))
 refine aE aA 1 rfl (aD (hK8 _ (bW rfl (aC (fun K9 hK9=>(aB (aH rfl (fG rfl rfl (hZ (by omega))) (aE aA 1 rfl (aD (hK9 _ (bW rfl (aC (fun K10 hK10=>(aB ?_))))))))))))))
 refine aH rfl (fG rfl rfl (iO (by omega))) (aE aA 1 rfl (aD (hK10 _ (bN rfl (aB (aE aA 5 rfl (aI hf rfl (aK rfl rfl aQh rfl (aVb s.sub (e.user,e.other) e.at' (by omega))) (aE aA 4 rfl (bB hf rfl rfl mQ rfl rfl (l1 rfl) (l4 rfl) rfl (aE aA 1 rfl ?_))))))))))
 refine bS ?_
 refine hK5 _ (aC (fun K11 hK11=>(aB (aE aA 4 rfl (jC hf [(E0,G0),(E1,G1)] [(E0,G0),(E1,G1)] rfl rfl rfl rfl rfl rfl (by decide) (by decide) (by decide) rfl lR (oY ({ s with sub:=if onB s.sub (e.user,e.other)=true then [] else lC s.sub (e.user,e.other) e.at' }) e.user (st0) hz2 hr3) ?_)))))
 rintro r m1 ⟨rfl,rfl⟩
 rw[mZ]
 refine bD (cJ (sl':=[(4,.ref 4 0 0 0),(7,.s (.int .i64 (if onB s.sub (e.user,e.other)=true then 90 else 0))),(112,.agg (eX (eU ({ s with sub:=if onB s.sub (e.user,e.other)=true then [] else lC s.sub (e.user,e.other) e.at' }) e.user (st0)) G0 G1))]) (m':=[(G0,.buf 2 ((eU ({ s with sub:=if onB s.sub (e.user,e.other)=true then [] else lC s.sub (e.user,e.other) e.at' }) e.user (st0)).usr.map usC)),(G1,.buf 2 ((eU ({ s with sub:=if onB s.sub (e.user,e.other)=true then [] else lC s.sub (e.user,e.other) e.at' }) e.user (st0)).tmb.map tmC)),(8,.box (stC (st0))),(4,.box [.s (.int .i64 0),.s (.int .i64 0),.s (.slice none 0 0),.s (.slice none 0 0),.s (.slice none 0 0),.s (.slice none 0 0)]),(2,.box [.s (.int .i64 (({ s with sub:=if onB s.sub (e.user,e.other)=true then [] else lC s.sub (e.user,e.other) e.at' })).now),.s (.int .i64 (({ s with sub:=if onB s.sub (e.user,e.other)=true then [] else lC s.sub (e.user,e.other) e.at' })).hor),.sl 4 ((({ s with sub:=if onB s.sub (e.user,e.other)=true then [] else lC s.sub (e.user,e.other) e.at' })).opn.map seC),.bad,.sl 4 ((({ s with sub:=if onB s.sub (e.user,e.other)=true then [] else lC s.sub (e.user,e.other) e.at' })).sub.map enC),.bad])]) ⟨rfl,rfl,rfl,trivial⟩ rfl) ?_
 refine aE aA 1 rfl (bB hf rfl rfl cG rfl rfl (l1 rfl) (l4 rfl) rfl (aE aA 1 rfl (aD (hK11 _ (aJ ?_)))))
 exact⟨_,[(E0,G0),(E1,G1)],_,Le.refl _,by decide,rfl,rfl,⟨rfl,rfl⟩⟩
theorem aVn (s:Sta) (e:Ev) (hz:SzS 140737488355100 s) (hr:dL cM s.usr) (hr2:dL dV s.tmb) (hk:e.kind=5) :DenX Tryz.prog 60 [.agg (eX s E0 E1),.agg (evC e)] [(E0,.buf 2 (s.usr.map usC)),(E1,.buf 2 (s.tmb.map tmC))] (fun r m=>r=.tup [.agg (eX (bU s e).1 E0 E1),.s (.int .i64 (bU s e).2)]∧m=[(E0,.buf 2 ((bU s e).1.usr.map usC)),(E1,.buf 2 ((bU s e).1.tmb.map tmC))]):=by
 have z1:=hz.o
 have z2:=hz.u
 have z3:=hz.b
 have z4:=hz.t
 have q:=aNq s.sub (e.user,e.other) e.at'
 have hz2:SzS 140737488355200 ({ s with sub:=if onB s.sub (e.user,e.other)=true then mH s.sub (e.user,e.other) e.at' else [] }):=⟨by show s.opn.length*40≤_; omega,by show s.usr.length*40≤_; omega,by show (if onB s.sub (e.user,e.other)=true then mH s.sub (e.user,e.other) e.at' else []).length*48≤_; omega,by show s.tmb.length*24≤_; omega,fun x hx=>by have:=hz.y x hx; omega⟩
 have hr3:dL cM (({ s with sub:=if onB s.sub (e.user,e.other)=true then mH s.sub (e.user,e.other) e.at' else [] })).usr:=hr
 have hd:bU s e=(eU ({ s with sub:=if onB s.sub (e.user,e.other)=true then mH s.sub (e.user,e.other) e.at' else [] }) e.user (st0),if onB s.sub (e.user,e.other)=true then 0 else 91):=by
  rw[bU,if_neg (by omega),if_neg (by omega),if_neg (by omega),if_neg (by omega),if_pos hk]
  rw[nJ (show st0.1.2≤st0.1.1 from Int.le_refl _)]
 rw[hd]
 refine jN [(E0,G0),(E1,G1)] Tryz.func60 rfl (Nat.le_of_ble_eq_true rfl) (args':=[.agg (eX s G0 G1),.agg (evC e)]) (m':=[(G0,.buf 2 (s.usr.map usC)),(G1,.buf 2 (s.tmb.map tmC))]) rfl rfl (by decide) (by decide) rfl (fun w0 o0 A hf=>?_)
 refine aC (fun K1 hK1=>(aB (vI hf rfl rfl rfl rfl (l1 rfl) ?_)))
 refine aI hf rfl (cE rfl rfl (lf rfl)) (aW hf rfl rfl rfl bA (aE aA 1 rfl (aD (hK1 _ (aC (fun K2 hK2=>(aB (aE aA 4 rfl (aH rfl (bR rfl gN kD (l3 rfl) rfl) (bY hf rfl gN rfl oJ rfl rfl rfl rfl (lf rfl) (aD (hK2 _ (aC (fun K3 hK3=>?_))))))))))))))
 refine aB (aE aA 1 rfl (aD (hK3 _ (aC (fun K4 hK4=>(aB (aW hf rfl rfl rfl eE (aD (hK4 _ (aC (fun K5 hK5=>(aC (fun K6 hK6=>(aB (aE aA 2 rfl ?_)))))))))))))))
 refine aD (hK6 _ (aP (aC (fun K7 hK7=>(aB (aH rfl (fG rfl rfl (hZ (by omega))) (aE aA 1 rfl (aD (hK7 _ (bW rfl (aC (fun K8 hK8=>(aB (aH rfl (fG rfl rfl (hZ (by omega))) ?_))))))))))))))
 refine aE aA 1 rfl (aD (hK8 _ (bW rfl (aC (fun K9 hK9=>(aB (aH rfl (fG rfl rfl (hZ (by omega))) (aE aA 1 rfl (aD (hK9 _ (bW rfl (aC (fun K10 hK10=>(aB ?_))))))))))))))
 refine aH rfl (fG rfl rfl (hZ (by omega))) (aE aA 1 rfl (aD (hK10 _ (bW rfl (aC (fun K11 hK11=>(aB (aH rfl (fG rfl rfl (iO (by omega))) (aE aA 1 rfl (aD (hK11 _ (bN rfl (aB ?_)))))))))))))
 refine aE aA 5 rfl (aI hf rfl (aK rfl rfl aQg rfl (aQ6 s.sub (e.user,e.other) e.at' (by omega))) (aE aA 4 rfl (bB hf rfl rfl mQ rfl rfl (l1 rfl) (l4 rfl) rfl (aE aA 1 rfl ?_))))
 refine bS ?_
 refine hK5 _ (aC (fun K12 hK12=>(aB (aE aA 4 rfl (jC hf [(E0,G0),(E1,G1)] [(E0,G0),(E1,G1)] rfl rfl rfl rfl rfl rfl (by decide) (by decide) (by decide) rfl lR (oY ({ s with sub:=if onB s.sub (e.user,e.other)=true then mH s.sub (e.user,e.other) e.at' else [] }) e.user (st0) hz2 hr3) ?_)))))
 rintro r m1 ⟨rfl,rfl⟩
 rw[mZ]
 refine bD (cJ (sl':=[(4,.ref 4 0 0 0),(7,.s (.int .i64 (if onB s.sub (e.user,e.other)=true then 0 else 91))),(112,.agg (eX (eU ({ s with sub:=if onB s.sub (e.user,e.other)=true then mH s.sub (e.user,e.other) e.at' else [] }) e.user (st0)) G0 G1))]) (m':=[(G0,.buf 2 ((eU ({ s with sub:=if onB s.sub (e.user,e.other)=true then mH s.sub (e.user,e.other) e.at' else [] }) e.user (st0)).usr.map usC)),(G1,.buf 2 ((eU ({ s with sub:=if onB s.sub (e.user,e.other)=true then mH s.sub (e.user,e.other) e.at' else [] }) e.user (st0)).tmb.map tmC)),(8,.box (stC (st0))),(4,.box [.s (.int .i64 0),.s (.int .i64 0),.s (.slice none 0 0),.s (.slice none 0 0),.s (.slice none 0 0),.s (.slice none 0 0)]),(2,.box [.s (.int .i64 (({ s with sub:=if onB s.sub (e.user,e.other)=true then mH s.sub (e.user,e.other) e.at' else [] })).now),.s (.int .i64 (({ s with sub:=if onB s.sub (e.user,e.other)=true then mH s.sub (e.user,e.other) e.at' else [] })).hor),.sl 4 ((({ s with sub:=if onB s.sub (e.user,e.other)=true then mH s.sub (e.user,e.other) e.at' else [] })).opn.map seC),.bad,.sl 4 ((({ s with sub:=if onB s.sub (e.user,e.other)=true then mH s.sub (e.user,e.other) e.at' else [] })).sub.map enC),.bad])]) ⟨rfl,rfl,rfl,trivial⟩ rfl) ?_
 refine aE aA 1 rfl (bB hf rfl rfl cG rfl rfl (l1 rfl) (l4 rfl) rfl (aE aA 1 rfl (aD (hK12 _ (aJ ?_)))))
 exact⟨_,[(E0,G0),(E1,G1)],_,Le.refl _,by decide,rfl,rfl,⟨rfl,rfl⟩⟩
theorem aVm (s:Sta) (e:Ev) (hz:SzS 140737488355100 s) (hr:dL cM s.usr) (hr2:dL dV s.tmb) (hk:e.kind=6) :DenX Tryz.prog 60 [.agg (eX s E0 E1),.agg (evC e)] [(E0,.buf 2 (s.usr.map usC)),(E1,.buf 2 (s.tmb.map tmC))] (fun r m=>r=.tup [.agg (eX (bU s e).1 E0 E1),.s (.int .i64 (bU s e).2)]∧m=[(E0,.buf 2 ((bU s e).1.usr.map usC)),(E1,.buf 2 ((bU s e).1.tmb.map tmC))]):=by
 have z1:=hz.o
 have z2:=hz.u
 have z3:=hz.b
 have z4:=hz.t
 skip
 have hz2:SzS 140737488355200 ({ s with hor:=max s.hor e.n }):=⟨by show s.opn.length*40≤_; omega,by show s.usr.length*40≤_; omega,by show (s.sub).length*48≤_; omega,by show s.tmb.length*24≤_; omega,fun x hx=>by have:=hz.y x hx; omega⟩
 have hr3:dL cM (({ s with hor:=max s.hor e.n })).usr:=hr
 have hd:bU s e=(eU ({ s with hor:=max s.hor e.n }) e.user (st0),0):=by
  rw[bU,if_neg (by omega),if_neg (by omega),if_neg (by omega),if_neg (by omega),if_neg (by omega),if_pos hk]
  rw[nJ (show st0.1.2≤st0.1.1 from Int.le_refl _)]
 rw[hd]
 refine jN [(E0,G0),(E1,G1)] Tryz.func60 rfl (Nat.le_of_ble_eq_true rfl) (args':=[.agg (eX s G0 G1),.agg (evC e)]) (m':=[(G0,.buf 2 (s.usr.map usC)),(G1,.buf 2 (s.tmb.map tmC))]) rfl rfl (by decide) (by decide) rfl (fun w0 o0 A hf=>?_)
 refine aC (fun K1 hK1=>(aB (vI hf rfl rfl rfl rfl (l1 rfl) ?_)))
 refine aI hf rfl (cE rfl rfl (lf rfl)) (aW hf rfl rfl rfl bA (aE aA 1 rfl (aD (hK1 _ (aC (fun K2 hK2=>(aB (aE aA 4 rfl (aH rfl (bR rfl gN kD (l3 rfl) rfl) (bY hf rfl gN rfl oJ rfl rfl rfl rfl (lf rfl) (aD (hK2 _ (aC (fun K3 hK3=>?_))))))))))))))
 refine aB (aE aA 1 rfl (aD (hK3 _ (aC (fun K4 hK4=>(aB (aW hf rfl rfl rfl eE (aD (hK4 _ (aC (fun K5 hK5=>(aC (fun K6 hK6=>(aB (aE aA 2 rfl ?_)))))))))))))))
 refine aD (hK6 _ (aP (aC (fun K7 hK7=>(aB (aH rfl (fG rfl rfl (hZ (by omega))) (aE aA 1 rfl (aD (hK7 _ (bW rfl (aC (fun K8 hK8=>(aB (aH rfl (fG rfl rfl (hZ (by omega))) ?_))))))))))))))
 refine aE aA 1 rfl (aD (hK8 _ (bW rfl (aC (fun K9 hK9=>(aB (aH rfl (fG rfl rfl (hZ (by omega))) (aE aA 1 rfl (aD (hK9 _ (bW rfl (aC (fun K10 hK10=>(aB ?_))))))))))))))
 refine aH rfl (fG rfl rfl (hZ (by omega))) (aE aA 1 rfl (aD (hK10 _ (bW rfl (aC (fun K11 hK11=>(aB (aH rfl (fG rfl rfl (hZ (by omega))) (aE aA 1 rfl (aD (hK11 _ (bW rfl (aC (fun K12 hK12=>?_))))))))))))))
 refine aB (aH rfl (fG rfl rfl (iO (by omega))) (aE aA 1 rfl (aD (hK12 _ (bN rfl (aB (aE aA 4 rfl (aH rfl (aTu rfl rfl) (aE aA 1 rfl (bB hf rfl rfl cA rfl rfl (l1 rfl) (l4 rfl) rfl ?_))))))))))
 refine bS ?_
 refine hK5 _ (aC (fun K13 hK13=>(aB (aE aA 4 rfl (jC hf [(E0,G0),(E1,G1)] [(E0,G0),(E1,G1)] rfl rfl rfl rfl rfl rfl (by decide) (by decide) (by decide) rfl lR (oY ({ s with hor:=max s.hor e.n }) e.user (st0) hz2 hr3) ?_)))))
 rintro r m1 ⟨rfl,rfl⟩
 rw[mZ]
 refine bD (cJ (sl':=[(4,.ref 4 0 0 0),(7,.s (.int .i64 (0))),(112,.agg (eX (eU ({ s with hor:=max s.hor e.n }) e.user (st0)) G0 G1))]) (m':=[(G0,.buf 2 ((eU ({ s with hor:=max s.hor e.n }) e.user (st0)).usr.map usC)),(G1,.buf 2 ((eU ({ s with hor:=max s.hor e.n }) e.user (st0)).tmb.map tmC)),(8,.box (stC (st0))),(4,.box [.s (.int .i64 0),.s (.int .i64 0),.s (.slice none 0 0),.s (.slice none 0 0),.s (.slice none 0 0),.s (.slice none 0 0)]),(2,.box [.s (.int .i64 (({ s with hor:=max s.hor e.n })).now),.s (.int .i64 (({ s with hor:=max s.hor e.n })).hor),.sl 4 ((({ s with hor:=max s.hor e.n })).opn.map seC),.bad,.sl 4 ((({ s with hor:=max s.hor e.n })).sub.map enC),.bad])]) ⟨rfl,rfl,rfl,trivial⟩ rfl) ?_
 refine aE aA 1 rfl (bB hf rfl rfl cG rfl rfl (l1 rfl) (l4 rfl) rfl (aE aA 1 rfl (aD (hK13 _ (aJ ?_)))))
 exact⟨_,[(E0,G0),(E1,G1)],_,Le.refl _,by decide,rfl,rfl,⟨rfl,rfl⟩⟩
theorem aVl (s:Sta) (e:Ev) (hz:SzS 140737488355100 s) (hr:dL cM s.usr) (hr2:dL dV s.tmb) (hk:e.kind=7) :DenX Tryz.prog 60 [.agg (eX s E0 E1),.agg (evC e)] [(E0,.buf 2 (s.usr.map usC)),(E1,.buf 2 (s.tmb.map tmC))] (fun r m=>r=.tup [.agg (eX (bU s e).1 E0 E1),.s (.int .i64 (bU s e).2)]∧m=[(E0,.buf 2 ((bU s e).1.usr.map usC)),(E1,.buf 2 ((bU s e).1.tmb.map tmC))]):=by
 have z1:=hz.o
 have z2:=hz.u
 have z3:=hz.b
 have z4:=hz.t
 skip
 have hz2:SzS 140737488355200 (gI s e.user e.at'):=erSz hz hr (by omega)
 have hr3:dL cM ((gI s e.user e.at')).usr:=vY hr
 have hd:bU s e=(eU (gI s e.user e.at') e.user (st0),0):=by
  rw[bU,if_neg (by omega),if_neg (by omega),if_neg (by omega),if_neg (by omega),if_neg (by omega),if_neg (by omega)]
  rw[nJ (show st0.1.2≤st0.1.1 from Int.le_refl _)]
 rw[hd]
 refine jN [(E0,G0),(E1,G1)] Tryz.func60 rfl (Nat.le_of_ble_eq_true rfl) (args':=[.agg (eX s G0 G1),.agg (evC e)]) (m':=[(G0,.buf 2 (s.usr.map usC)),(G1,.buf 2 (s.tmb.map tmC))]) rfl rfl (by decide) (by decide) rfl (fun w0 o0 A hf=>?_)
 refine aC (fun K1 hK1=>(aB (vI hf rfl rfl rfl rfl (l1 rfl) ?_)))
 refine aI hf rfl (cE rfl rfl (lf rfl)) (aW hf rfl rfl rfl bA (aE aA 1 rfl (aD (hK1 _ (aC (fun K2 hK2=>(aB (aE aA 4 rfl (aH rfl (bR rfl gN kD (l3 rfl) rfl) (bY hf rfl gN rfl oJ rfl rfl rfl rfl (lf rfl) (aD (hK2 _ (aC (fun K3 hK3=>?_))))))))))))))
 refine aB (aE aA 1 rfl (aD (hK3 _ (aC (fun K4 hK4=>(aB (aW hf rfl rfl rfl eE (aD (hK4 _ (aC (fun K5 hK5=>(aC (fun K6 hK6=>(aB (aE aA 2 rfl ?_)))))))))))))))
 refine aD (hK6 _ (aP (aC (fun K7 hK7=>(aB (aH rfl (fG rfl rfl (hZ (by omega))) (aE aA 1 rfl (aD (hK7 _ (bW rfl (aC (fun K8 hK8=>(aB (aH rfl (fG rfl rfl (hZ (by omega))) ?_))))))))))))))
 refine aE aA 1 rfl (aD (hK8 _ (bW rfl (aC (fun K9 hK9=>(aB (aH rfl (fG rfl rfl (hZ (by omega))) (aE aA 1 rfl (aD (hK9 _ (bW rfl (aC (fun K10 hK10=>(aB ?_))))))))))))))
 refine aH rfl (fG rfl rfl (hZ (by omega))) (aE aA 1 rfl (aD (hK10 _ (bW rfl (aC (fun K11 hK11=>(aB (aH rfl (fG rfl rfl (hZ (by omega))) (aE aA 1 rfl (aD (hK11 _ (bW rfl (aC (fun K12 hK12=>?_))))))))))))))
 refine aB (aH rfl (fG rfl rfl (hZ (by omega))) (aE aA 1 rfl (aD (hK12 _ (bW rfl (aC (fun K13 hK13=>(aB (aH rfl (fG rfl rfl (iO (by omega))) (aE aA 1 rfl (aD (hK13 _ (bN rfl ?_)))))))))))))
 refine aB (aE aA 5 rfl (jC hf [(E0,G0),(E1,G1)] [(E0,G0),(E1,G1)] rfl rfl rfl rfl rfl rfl (by decide) (by decide) (by decide) rfl aQf (aRs s e.user e.at' (hz.mono (by omega)) hr hr2) ?_))
 rintro r m1 ⟨rfl,rfl⟩
 rw[mZ]
 refine bD (cJ (sl':=[(2,.ref 2 0 0 0),(3,.adr (evC e)),(4,.ref 4 0 0 0),(7,.s (.int .i64 0)),(8,.ref 8 0 0 0),(107,.agg (eX (gI s e.user e.at') G0 G1))]) (m':=[(G0,.buf 2 ((gI s e.user e.at').usr.map usC)),(G1,.buf 2 ((gI s e.user e.at').tmb.map tmC)),(8,.box (stC st0)),(4,.box [.s (.int .i64 0),.s (.int .i64 0),.s (.slice none 0 0),.s (.slice none 0 0),.s (.slice none 0 0),.s (.slice none 0 0)]),(2,.box [.s (.int .i64 s.now),.s (.int .i64 s.hor),.sl 4 (s.opn.map seC),.bad,.sl 4 (s.sub.map enC),.bad])]) ⟨rfl,rfl,rfl,rfl,rfl,rfl,trivial⟩ rfl) ?_
 refine bB hf rfl rfl cG rfl rfl (l1 rfl) (l4 rfl) rfl ?_
 refine bS ?_
 refine hK5 _ (aC (fun K14 hK14=>(aB (aE aA 4 rfl (jC hf [(E0,G0),(E1,G1)] [(E0,G0),(E1,G1)] rfl rfl rfl rfl rfl rfl (by decide) (by decide) (by decide) rfl lR (oY (gI s e.user e.at') e.user (st0) hz2 hr3) ?_)))))
 rintro r m1 ⟨rfl,rfl⟩
 rw[mZ]
 refine bD (cJ (sl':=[(4,.ref 4 0 0 0),(7,.s (.int .i64 (0))),(112,.agg (eX (eU (gI s e.user e.at') e.user (st0)) G0 G1))]) (m':=[(G0,.buf 2 ((eU (gI s e.user e.at') e.user (st0)).usr.map usC)),(G1,.buf 2 ((eU (gI s e.user e.at') e.user (st0)).tmb.map tmC)),(8,.box (stC (st0))),(4,.box [.s (.int .i64 0),.s (.int .i64 0),.s (.slice none 0 0),.s (.slice none 0 0),.s (.slice none 0 0),.s (.slice none 0 0)]),(2,.box [.s (.int .i64 ((gI s e.user e.at')).now),.s (.int .i64 ((gI s e.user e.at')).hor),.sl 4 (((gI s e.user e.at')).opn.map seC),.bad,.sl 4 (((gI s e.user e.at')).sub.map enC),.bad])]) ⟨rfl,rfl,rfl,trivial⟩ rfl) ?_
 refine aE aA 1 rfl (bB hf rfl rfl cG rfl rfl (l1 rfl) (l4 rfl) rfl (aE aA 1 rfl (aD (hK14 _ (aJ ?_)))))
 exact⟨_,[(E0,G0),(E1,G1)],_,Le.refl _,by decide,rfl,rfl,⟨rfl,rfl⟩⟩
end Go.Proofs.YtpkanhklapfajaaGreat
set_option linter.unusedVariables false
set_option linter.unusedSimpArgs false
namespace Go.Proofs.YtpkanhklapfajaaGreat
open Go Go.Abs
theorem aMw (e:Ev) (hu:TS e.user) (ho:TS e.other) :Den Tryz.prog 59 [.agg (evC e)]  (·=.s (.bool (cK e))):=by
 refine aR Tryz.func59 rfl (Nat.le_of_ble_eq_true rfl) (fun w0 A hf=>(aC (fun K1 hK1=>(aB (aI hf rfl (cE rfl rfl (lf rfl)) (aE aA 1 rfl (aD (hK1 _ (aC (fun K2 hK2=>(aB (aE aA 4 rfl (aH rfl (bR rfl gZ gQ (l3 rfl) rfl) (aW hf rfl rfl rfl gZ (bB hf rfl rfl iM rfl rfl (l1 rfl) (l4 rfl) rfl ?_)))))))))))))))
 refine aD (hK2 _ (aC (fun K3 hK3=>(aB (aE aA 2 rfl (aI hf rfl (aK rfl rfl lS rfl (lF _ _ _)) (aE aA 1 rfl (aD (hK3 _ (aC (fun K4 hK4=>(aC (fun K5 hK5=>(aB (aE aA 2 rfl ?_)))))))))))))))
 refine aD (hK5 _ (aP (aC (fun K6 hK6=>(aP (aC (fun K7 hK7=>(aP (aC (fun K8 hK8=>(aP (aC (fun K9 hK9=>(aP (aC (fun K10 hK10=>(aP ?_)))))))))))))))))
 refine aC (fun K11 hK11=>(aP (aC (fun K12 hK12=>(aC (fun K13 hK13=>(aC (fun K14 hK14=>(aC (fun K15 hK15=>(aB (aE aA 2 rfl (aD (hK15 _ (dY rfl rfl (fun hc1=>?_) (fun hc1=>?_))))))))))))))))
 ·
  simp only[bs] at hc1
  refine aN (hK14 _ (bN rfl (bF (hK11 _ (aC (fun K16 hK16=>(aB (aE aA 3 rfl (bB hf rfl rfl cA rfl rfl (l1 rfl) (l4 rfl) rfl (aD (hK16 _ (aB (aE aA 2 rfl ?_)))))))))))))
  refine aU rfl rfl rfl (fun hg3=>?_) (fun hg3=>?_)
  ·
   simp only[bs] at hg3
   refine aH rfl (bM rfl aDf cA rfl) ?_
   refine aE aA 1 rfl (aX rfl rfl rfl (aI hf rfl (aK rfl rfl lS rfl (lF _ _ _)) (aE aA 2 rfl ?_)))
   refine bS ?_
   refine hK10 _ (aC (fun K17 hK17=>(aB (aE aA 3 rfl (bB hf rfl rfl cA rfl rfl (l1 rfl) (l4 rfl) rfl (aD (hK17 _ (aB (aE aA 2 rfl (aU rfl rfl rfl (fun hg4=>?_) (fun hg4=>?_)))))))))))
   ·
    simp only[bs] at hg4
    refine aH rfl (bM rfl sP cA rfl) ?_
    refine aE aA 1 rfl (aX rfl rfl rfl (aI hf rfl (aK rfl rfl lS rfl (lF _ _ _)) (aE aA 2 rfl ?_)))
    refine bS ?_
    refine hK9 _ (aC (fun K18 hK18=>(aC (fun K19 hK19=>(aB (aE aA 3 rfl (bB hf rfl rfl cU rfl rfl (l1 rfl) (l4 rfl) rfl (aD (hK19 _ (aB (aE aA 2 rfl (aU rfl rfl rfl (fun hg5=>?_) (fun hg5=>?_)))))))))))))
    ·
     simp only[bs] at hg5
     refine aH rfl (bM rfl fS cU rfl) ?_
     refine aE aA 1 rfl (aX rfl rfl rfl (aI hf rfl (aK rfl rfl kK rfl (Nm.right_den e.user hu)) (aE aA 2 rfl (aD (hK18 _ (bF (hK4 _ (aC (fun K20 hK20=>(aB (aE aA 2 rfl (aU rfl rfl rfl (fun hg6=>?_) (fun hg6=>?_)))))))))))))
     ·
      refine aH rfl (cD rfl kE iM rfl rfl rfl) ?_
      refine aE aA 1 rfl (aX rfl rfl rfl (aH rfl (jS rfl rfl kC rfl) (aE aA 2 rfl (aD (hK20 _ (aJ ?_))))))
      refine⟨_,rfl,?_⟩
      refine aO ?_
      rw[Bool.eq_iff_iff]
      simp only[cK,eS]
      (have hlt:e.at'<1099511627776:=(by omega); simp_all[toList_inj,bZ,eq_comm (a:=(0:Int)) (b:=e.st),eq_comm (a:=(0:Int)) (b:=e.n)]; done)
     ·
      simp only[bs] at hg6
      refine aE aA 4 rfl (aD (hK20 _ (aJ ?_)))
      refine⟨_,rfl,?_⟩
      refine aO ?_
      rw[Bool.eq_iff_iff]
      simp only[cK,eS]
      (simp_all[toList_inj,bZ]; done)
    ·
     simp only[bs] at hg5
     refine aE aA 4 rfl (aD (hK18 _ (bF (hK4 _ (aC (fun K21 hK21=>(aB (aE aA 7 rfl (aD (hK21 _ (aJ ?_)))))))))))
     refine⟨_,rfl,?_⟩
     refine aO ?_
     rw[Bool.eq_iff_iff]
     simp only[cK,eS]
     (simp_all[toList_inj,bZ]; omega)
   ·
    simp only[bs] at hg4
    refine aE aA 4 rfl ?_
    refine bS ?_
    refine hK9 _ (aC (fun K22 hK22=>(aC (fun K23 hK23=>(aB (aE aA 3 rfl (bB hf rfl rfl cU rfl rfl (l1 rfl) (l4 rfl) rfl (aD (hK23 _ (aB (aE aA 7 rfl (aD (hK22 _ (bF ?_))))))))))))))
    refine hK4 _ (aC (fun K24 hK24=>(aB (aE aA 7 rfl (aD (hK24 _ (aJ ?_)))))))
    refine⟨_,rfl,?_⟩
    refine aO ?_
    rw[Bool.eq_iff_iff]
    simp only[cK,eS]
    (simp_all[toList_inj,bZ]; done)
  ·
   simp only[bs] at hg3
   refine aE aA 4 rfl ?_
   refine bS ?_
   refine hK10 _ (aC (fun K25 hK25=>(aB (aE aA 3 rfl (bB hf rfl rfl cA rfl rfl (l1 rfl) (l4 rfl) rfl (aD (hK25 _ (aB (aE aA 7 rfl ?_)))))))))
   refine bS ?_
   refine hK9 _ (aC (fun K26 hK26=>(aC (fun K27 hK27=>(aB (aE aA 3 rfl (bB hf rfl rfl cU rfl rfl (l1 rfl) (l4 rfl) rfl (aD (hK27 _ (aB (aE aA 7 rfl (aD (hK26 _ (bF ?_))))))))))))))
   refine hK4 _ (aC (fun K28 hK28=>(aB (aE aA 7 rfl (aD (hK28 _ (aJ ?_)))))))
   refine⟨_,rfl,?_⟩
   refine aO ?_
   rw[Bool.eq_iff_iff]
   simp only[cK,eS]
   (simp_all[toList_inj,bZ]; omega)
 ·
  simp only[bs] at hc1
  refine aB (aE aA 2 rfl (aD (hK14 _ (dY rfl rfl (fun hc7=>?_) (fun hc7=>?_)))))
  ·
   simp only[bs] at hc7
   refine bF (hK11 _ (aC (fun K29 hK29=>(aB (aE aA 3 rfl (bB hf rfl rfl cA rfl rfl (l1 rfl) (l4 rfl) rfl (aD (hK29 _ (aB (aE aA 2 rfl (aU rfl rfl rfl (fun hg8=>?_) (fun hg8=>?_))))))))))))
   ·
    simp only[bs] at hg8
    refine aH rfl (bM rfl aDf cA rfl) ?_
    refine aE aA 1 rfl (aX rfl rfl rfl (aI hf rfl (aK rfl rfl lS rfl (lF _ _ _)) (aE aA 2 rfl ?_)))
    refine bS ?_
    refine hK10 _ (aC (fun K30 hK30=>(aB (aE aA 3 rfl (bB hf rfl rfl cA rfl rfl (l1 rfl) (l4 rfl) rfl (aD (hK30 _ (aB (aE aA 2 rfl (aU rfl rfl rfl (fun hg9=>?_) (fun hg9=>?_)))))))))))
    ·
     simp only[bs] at hg9
     refine aH rfl (bM rfl sP cA rfl) ?_
     refine aE aA 1 rfl (aX rfl rfl rfl (aI hf rfl (aK rfl rfl lS rfl (lF _ _ _)) (aE aA 2 rfl ?_)))
     refine bS ?_
     refine hK9 _ (aC (fun K31 hK31=>(aC (fun K32 hK32=>(aB (aE aA 3 rfl (bB hf rfl rfl cU rfl rfl (l1 rfl) (l4 rfl) rfl (aD (hK32 _ (aB (aE aA 2 rfl (aU rfl rfl rfl (fun hg10=>?_) (fun hg10=>?_)))))))))))))
     ·
      simp only[bs] at hg10
      refine aH rfl (bM rfl fS cU rfl) ?_
      refine aE aA 1 rfl (aX rfl rfl rfl (aI hf rfl (aK rfl rfl kK rfl (Nm.right_den e.user hu)) (aE aA 2 rfl (aD (hK31 _ (bF (hK4 _ (aC (fun K33 hK33=>(aB (aE aA 2 rfl (aU rfl rfl rfl (fun hg11=>?_) (fun hg11=>?_)))))))))))))
      ·
       refine aH rfl (cD rfl kE iM rfl rfl rfl) ?_
       refine aE aA 1 rfl (aX rfl rfl rfl (aH rfl (jS rfl rfl kC rfl) (aE aA 2 rfl (aD (hK33 _ (aJ ?_))))))
       refine⟨_,rfl,?_⟩
       refine aO ?_
       rw[Bool.eq_iff_iff]
       simp only[cK,eS]
       (have hlt:e.at'<1099511627776:=(by omega); simp_all[toList_inj,bZ,eq_comm (a:=(0:Int)) (b:=e.st),eq_comm (a:=(0:Int)) (b:=e.n)]; done)
      ·
       simp only[bs] at hg11
       refine aE aA 4 rfl (aD (hK33 _ (aJ ?_)))
       refine⟨_,rfl,?_⟩
       refine aO ?_
       rw[Bool.eq_iff_iff]
       simp only[cK,eS]
       (simp_all[toList_inj,bZ]; done)
     ·
      simp only[bs] at hg10
      refine aE aA 4 rfl (aD (hK31 _ (bF (hK4 _ (aC (fun K34 hK34=>(aB (aE aA 7 rfl (aD (hK34 _ (aJ ?_)))))))))))
      refine⟨_,rfl,?_⟩
      refine aO ?_
      rw[Bool.eq_iff_iff]
      simp only[cK,eS]
      (simp_all[toList_inj,bZ]; omega)
    ·
     simp only[bs] at hg9
     refine aE aA 4 rfl ?_
     refine bS ?_
     refine hK9 _ (aC (fun K35 hK35=>(aC (fun K36 hK36=>(aB (aE aA 3 rfl (bB hf rfl rfl cU rfl rfl (l1 rfl) (l4 rfl) rfl (aD (hK36 _ (aB (aE aA 7 rfl (aD (hK35 _ (bF ?_))))))))))))))
     refine hK4 _ (aC (fun K37 hK37=>(aB (aE aA 7 rfl (aD (hK37 _ (aJ ?_)))))))
     refine⟨_,rfl,?_⟩
     refine aO ?_
     rw[Bool.eq_iff_iff]
     simp only[cK,eS]
     (simp_all[toList_inj,bZ]; done)
   ·
    simp only[bs] at hg8
    refine aE aA 4 rfl ?_
    refine bS ?_
    refine hK10 _ (aC (fun K38 hK38=>(aB (aE aA 3 rfl (bB hf rfl rfl cA rfl rfl (l1 rfl) (l4 rfl) rfl (aD (hK38 _ (aB (aE aA 7 rfl ?_)))))))))
    refine bS ?_
    refine hK9 _ (aC (fun K39 hK39=>(aC (fun K40 hK40=>(aB (aE aA 3 rfl (bB hf rfl rfl cU rfl rfl (l1 rfl) (l4 rfl) rfl (aD (hK40 _ (aB (aE aA 7 rfl (aD (hK39 _ (bF ?_))))))))))))))
    refine hK4 _ (aC (fun K41 hK41=>(aB (aE aA 7 rfl (aD (hK41 _ (aJ ?_)))))))
    refine⟨_,rfl,?_⟩
    refine aO ?_
    rw[Bool.eq_iff_iff]
    simp only[cK,eS]
    (simp_all[toList_inj,bZ]; omega)
  ·
   simp only[bs] at hc7
   refine aN (hK13 _ (aC (fun K42 hK42=>(aC (fun K43 hK43=>(aB (aE aA 2 rfl (aD (hK43 _ (dY rfl rfl (fun hc12=>?_) (fun hc12=>?_)))))))))))
   ·
    simp only[bs] at hc12
    refine bF (hK10 _ (aC (fun K44 hK44=>(aB (aE aA 3 rfl (bB hf rfl rfl cA rfl rfl (l1 rfl) (l4 rfl) rfl (aD (hK44 _ (aB (aE aA 2 rfl (aU rfl rfl rfl (fun hg13=>?_) (fun hg13=>?_))))))))))))
    ·
     simp only[bs] at hg13
     refine aH rfl (bM rfl sP cA rfl) ?_
     refine aE aA 1 rfl (aX rfl rfl rfl (aI hf rfl (aK rfl rfl lS rfl (lF _ _ _)) (aE aA 2 rfl ?_)))
     refine bS ?_
     refine hK9 _ (aC (fun K45 hK45=>(aC (fun K46 hK46=>(aB (aE aA 3 rfl (bB hf rfl rfl cU rfl rfl (l1 rfl) (l4 rfl) rfl (aD (hK46 _ (aB (aE aA 2 rfl (aU rfl rfl rfl (fun hg14=>?_) (fun hg14=>?_)))))))))))))
     ·
      simp only[bs] at hg14
      refine aH rfl (bM rfl fS cU rfl) ?_
      refine aE aA 1 rfl (aX rfl rfl rfl (aI hf rfl (aK rfl rfl kK rfl (Nm.right_den e.user hu)) (aE aA 2 rfl (aD (hK45 _ (bF (hK4 _ (aC (fun K47 hK47=>(aB (aE aA 2 rfl (aU rfl rfl rfl (fun hg15=>?_) (fun hg15=>?_)))))))))))))
      ·
       refine aH rfl (cD rfl kE iM rfl rfl rfl) ?_
       refine aE aA 1 rfl (aX rfl rfl rfl (aH rfl (jS rfl rfl kC rfl) (aE aA 2 rfl (aD (hK47 _ (aJ ?_))))))
       refine⟨_,rfl,?_⟩
       refine aO ?_
       rw[Bool.eq_iff_iff]
       simp only[cK,eS]
       (have hlt:e.at'<1099511627776:=(by omega); simp_all[toList_inj,bZ,eq_comm (a:=(0:Int)) (b:=e.st),eq_comm (a:=(0:Int)) (b:=e.n)]; done)
      ·
       simp only[bs] at hg15
       refine aE aA 4 rfl (aD (hK47 _ (aJ ?_)))
       refine⟨_,rfl,?_⟩
       refine aO ?_
       rw[Bool.eq_iff_iff]
       simp only[cK,eS]
       (simp_all[toList_inj,bZ]; done)
     ·
      simp only[bs] at hg14
      refine aE aA 4 rfl (aD (hK45 _ (bF (hK4 _ (aC (fun K48 hK48=>(aB (aE aA 7 rfl (aD (hK48 _ (aJ ?_)))))))))))
      refine⟨_,rfl,?_⟩
      refine aO ?_
      rw[Bool.eq_iff_iff]
      simp only[cK,eS]
      (simp_all[toList_inj,bZ]; omega)
    ·
     simp only[bs] at hg13
     refine aE aA 4 rfl ?_
     refine bS ?_
     refine hK9 _ (aC (fun K49 hK49=>(aC (fun K50 hK50=>(aB (aE aA 3 rfl (bB hf rfl rfl cU rfl rfl (l1 rfl) (l4 rfl) rfl (aD (hK50 _ (aB (aE aA 7 rfl (aD (hK49 _ (bF ?_))))))))))))))
     refine hK4 _ (aC (fun K51 hK51=>(aB (aE aA 7 rfl (aD (hK51 _ (aJ ?_)))))))
     refine⟨_,rfl,?_⟩
     refine aO ?_
     rw[Bool.eq_iff_iff]
     simp only[cK,eS]
     (simp_all[toList_inj,bZ]; omega)
   ·
    simp only[bs] at hc12
    refine aN (hK42 _ (aC (fun K52 hK52=>(aC (fun K53 hK53=>(aB (aE aA 2 rfl (aD (hK53 _ (dY rfl rfl (fun hc16=>?_) (fun hc16=>?_)))))))))))
    ·
     simp only[bs] at hc16
     refine bF (hK9 _ (aC (fun K54 hK54=>(aC (fun K55 hK55=>(aB (aE aA 3 rfl (bB hf rfl rfl cU rfl rfl (l1 rfl) (l4 rfl) rfl (aD (hK55 _ (aB (aE aA 2 rfl (aU rfl rfl rfl (fun hg17=>?_) (fun hg17=>?_))))))))))))))
     ·
      simp only[bs] at hg17
      refine aH rfl (bM rfl fS cU rfl) ?_
      refine aE aA 1 rfl (aX rfl rfl rfl (aI hf rfl (aK rfl rfl kK rfl (Nm.right_den e.user hu)) (aE aA 2 rfl (aD (hK54 _ (bF (hK4 _ (aC (fun K56 hK56=>(aB (aE aA 2 rfl (aU rfl rfl rfl (fun hg18=>?_) (fun hg18=>?_)))))))))))))
      ·
       refine aH rfl (cD rfl kE iM rfl rfl rfl) ?_
       refine aE aA 1 rfl (aX rfl rfl rfl (aH rfl (jS rfl rfl kC rfl) (aE aA 2 rfl (aD (hK56 _ (aJ ?_))))))
       refine⟨_,rfl,?_⟩
       refine aO ?_
       rw[Bool.eq_iff_iff]
       simp only[cK,eS]
       (have hlt:e.at'<1099511627776:=(by omega); simp_all[toList_inj,bZ,eq_comm (a:=(0:Int)) (b:=e.st),eq_comm (a:=(0:Int)) (b:=e.n)]; done)
      ·
       simp only[bs] at hg18
       refine aE aA 4 rfl (aD (hK56 _ (aJ ?_)))
       refine⟨_,rfl,?_⟩
       refine aO ?_
       rw[Bool.eq_iff_iff]
       simp only[cK,eS]
       (simp_all[toList_inj,bZ]; done)
     ·
      simp only[bs] at hg17
      refine aE aA 4 rfl (aD (hK54 _ (bF (hK4 _ (aC (fun K57 hK57=>(aB (aE aA 7 rfl (aD (hK57 _ (aJ ?_)))))))))))
      refine⟨_,rfl,?_⟩
      refine aO ?_
      rw[Bool.eq_iff_iff]
      simp only[cK,eS]
      (simp_all[toList_inj,bZ]; omega)
    ·
     simp only[bs] at hc16
     refine aN (hK52 _ (aC (fun K58 hK58=>(aC (fun K59 hK59=>(aC (fun K60 hK60=>(aB (aE aA 2 rfl (aD (hK60 _ (dY rfl rfl (fun hc19=>?_) (fun hc19=>?_)))))))))))))
     ·
      simp only[bs] at hc19
      refine aN (hK59 _ (bN rfl (bF (hK8 _ (aC (fun K61 hK61=>(aC (fun K62 hK62=>(eH bE ?_)))))))))
      refine bV (listed':=#[true,false,false,false,false,false,false,false]) 0 rfl (by kernel_rfl) (by kernel_rfl) (by kernel_rfl) rfl (fun _ _ h=>h) (jT rfl fS cU rfl) ?_
      refine bV (listed':=#[true,false,true,false,false,false,false,false]) 2 rfl (by kernel_rfl) (by kernel_rfl) (by kernel_rfl) rfl (fun _ _ h=>h) (jT rfl aDg cU rfl) ?_
      refine kQ (cX [1,3,4,54,56] rfl) (aG 1 [3] (by kernel_rfl) ⟨?_,?_,trivial⟩)
      ·
       refine⟨_,rfl,rfl,(ao rfl (aE aA 1 rfl (aF (aG 3 [4] (by kernel_rfl) ⟨?_,?_,trivial⟩))))⟩
       ·
        refine⟨_,rfl,rfl,(ao rfl (aE aA 1 rfl (aF (aG 4 [] (by kernel_rfl) ⟨?_,trivial⟩))))⟩
        ·
         refine⟨_,rfl,rfl,(ao rfl (aE aA 1 rfl (aF (aG 5 [] (by kernel_rfl) ⟨?_,trivial⟩))))⟩
         ·
          refine⟨_,rfl,rfl,(ao rfl (bB hf rfl rfl cU rfl rfl (l1 rfl) (l4 rfl) rfl (aF (aG 6 [] (by kernel_rfl) ⟨?_,trivial⟩))))⟩
          ·
           refine⟨_,rfl,rfl,(ao rfl (aE aA 1 rfl (aF (aG 7 [] (by kernel_rfl) ⟨?_,trivial⟩))))⟩
           ·
            refine⟨_,rfl,rfl,(ao rfl (bB hf rfl rfl cU rfl rfl (l1 rfl) (l4 rfl) rfl (aF (bX (by kernel_rfl) ?_))))⟩
            refine hK62 _ (aB (aE aA 2 rfl (aU rfl rfl rfl (fun hg21=>?_) (fun hg21=>?_))))
            ·
             simp only[bs] at hg21
             refine aH rfl (bM rfl fS cU rfl) ?_
             refine aE aA 3 rfl (aX rfl rfl rfl (aI hf rfl (aS kR rfl rfl rfl rfl (l2 rfl)) (aX rfl rfl rfl (aI hf rfl (aK rfl rfl jH rfl (Nm.all_den [e.user,e.other] (by refine⟨by simp,fun x hx=>?_⟩; simp at hx; rcases hx with rfl | rfl <;> assumption))) ?_))))
             refine aE aA 2 rfl (aD (hK61 _ (bF (hK4 _ (aC (fun K63 hK63=>(aB (aE aA 2 rfl (aU rfl rfl rfl (fun hg22=>?_) (fun hg22=>?_))))))))))
             ·
              refine aH rfl (cD rfl kE iM rfl rfl rfl) ?_
              refine aE aA 1 rfl (aX rfl rfl rfl (aH rfl (jS rfl rfl kC rfl) (aE aA 2 rfl (aD (hK63 _ (aJ ?_))))))
              refine⟨_,rfl,?_⟩
              refine aO ?_
              rw[Bool.eq_iff_iff]
              simp only[cK,eS]
              (have hlt:e.at'<1099511627776:=(by omega); simp_all[toList_inj,bZ,eq_comm (a:=(0:Int)) (b:=e.st),eq_comm (a:=(0:Int)) (b:=e.n)]; done)
             ·
              simp only[bs] at hg22
              refine aE aA 4 rfl (aD (hK63 _ (aJ ?_)))
              refine⟨_,rfl,?_⟩
              refine aO ?_
              rw[Bool.eq_iff_iff]
              simp only[cK,eS]
              (simp_all[toList_inj,bZ]; done)
            ·
             simp only[bs] at hg21
             refine aE aA 7 rfl (aD (hK61 _ (bF (hK4 _ (aC (fun K64 hK64=>(aB (aE aA 7 rfl (aD (hK64 _ (aJ ?_)))))))))))
             refine⟨_,rfl,?_⟩
             refine aO ?_
             rw[Bool.eq_iff_iff]
             simp only[cK,eS]
             (simp_all[toList_inj,bZ]; omega)
       ·
        refine⟨_,rfl,rfl,(ao rfl (aE aA 1 rfl (aF (aG 3 [5] (by kernel_rfl) ⟨?_,?_,trivial⟩))))⟩
        ·
         refine⟨_,rfl,rfl,(ao rfl (aE aA 1 rfl (aF (aG 5 [] (by kernel_rfl) ⟨?_,trivial⟩))))⟩
         ·
          refine⟨_,rfl,rfl,(ao rfl (bB hf rfl rfl cU rfl rfl (l1 rfl) (l4 rfl) rfl (aF (aG 6 [] (by kernel_rfl) ⟨?_,trivial⟩))))⟩
          ·
           refine⟨_,rfl,rfl,(ao rfl (aE aA 1 rfl (aF (aG 7 [] (by kernel_rfl) ⟨?_,trivial⟩))))⟩
           ·
            refine⟨_,rfl,rfl,(ao rfl (bB hf rfl rfl cU rfl rfl (l1 rfl) (l4 rfl) rfl (aF (bX (by kernel_rfl) ?_))))⟩
            refine hK62 _ (aB (aE aA 2 rfl (aU rfl rfl rfl (fun hg23=>?_) (fun hg23=>?_))))
            ·
             simp only[bs] at hg23
             refine aH rfl (bM rfl fS cU rfl) ?_
             refine aE aA 3 rfl (aX rfl rfl rfl (aI hf rfl (aS kR rfl rfl rfl rfl (l2 rfl)) (aX rfl rfl rfl (aI hf rfl (aK rfl rfl jH rfl (Nm.all_den [e.user,e.other] (by refine⟨by simp,fun x hx=>?_⟩; simp at hx; rcases hx with rfl | rfl <;> assumption))) ?_))))
             refine aE aA 2 rfl (aD (hK61 _ (bF (hK4 _ (aC (fun K65 hK65=>(aB (aE aA 2 rfl (aU rfl rfl rfl (fun hg24=>?_) (fun hg24=>?_))))))))))
             ·
              refine aH rfl (cD rfl kE iM rfl rfl rfl) ?_
              refine aE aA 1 rfl (aX rfl rfl rfl (aH rfl (jS rfl rfl kC rfl) (aE aA 2 rfl (aD (hK65 _ (aJ ?_))))))
              refine⟨_,rfl,?_⟩
              refine aO ?_
              rw[Bool.eq_iff_iff]
              simp only[cK,eS]
              (have hlt:e.at'<1099511627776:=(by omega); simp_all[toList_inj,bZ,eq_comm (a:=(0:Int)) (b:=e.st),eq_comm (a:=(0:Int)) (b:=e.n)]; done)
             ·
              simp only[bs] at hg24
              refine aE aA 4 rfl (aD (hK65 _ (aJ ?_)))
              refine⟨_,rfl,?_⟩
              refine aO ?_
              rw[Bool.eq_iff_iff]
              simp only[cK,eS]
              (simp_all[toList_inj,bZ]; done)
            ·
             simp only[bs] at hg23
             refine aE aA 7 rfl (aD (hK61 _ (bF (hK4 _ (aC (fun K66 hK66=>(aB (aE aA 7 rfl (aD (hK66 _ (aJ ?_)))))))))))
             refine⟨_,rfl,?_⟩
             refine aO ?_
             rw[Bool.eq_iff_iff]
             simp only[cK,eS]
             (simp_all[toList_inj,bZ]; omega)
        ·
         refine⟨_,rfl,rfl,(ao rfl (bB hf rfl rfl cU rfl rfl (l1 rfl) (l4 rfl) rfl (aF (aG 3 [] (by kernel_rfl) ⟨?_,trivial⟩))))⟩
         ·
          refine⟨_,rfl,rfl,(ao rfl (aE aA 1 rfl (aF (aG 6 [] (by kernel_rfl) ⟨?_,trivial⟩))))⟩
          ·
           refine⟨_,rfl,rfl,(ao rfl (aE aA 1 rfl (aF (aG 7 [] (by kernel_rfl) ⟨?_,trivial⟩))))⟩
           ·
            refine⟨_,rfl,rfl,(ao rfl (bB hf rfl rfl cU rfl rfl (l1 rfl) (l4 rfl) rfl (aF (bX (by kernel_rfl) ?_))))⟩
            refine hK62 _ (aB (aE aA 2 rfl (aU rfl rfl rfl (fun hg25=>?_) (fun hg25=>?_))))
            ·
             simp only[bs] at hg25
             refine aH rfl (bM rfl fS cU rfl) ?_
             refine aE aA 3 rfl (aX rfl rfl rfl (aI hf rfl (aS kR rfl rfl rfl rfl (l2 rfl)) (aX rfl rfl rfl (aI hf rfl (aK rfl rfl jH rfl (Nm.all_den [e.user,e.other] (by refine⟨by simp,fun x hx=>?_⟩; simp at hx; rcases hx with rfl | rfl <;> assumption))) ?_))))
             refine aE aA 2 rfl (aD (hK61 _ (bF (hK4 _ (aC (fun K67 hK67=>(aB (aE aA 2 rfl (aU rfl rfl rfl (fun hg26=>?_) (fun hg26=>?_))))))))))
             ·
              refine aH rfl (cD rfl kE iM rfl rfl rfl) ?_
              refine aE aA 1 rfl (aX rfl rfl rfl (aH rfl (jS rfl rfl kC rfl) (aE aA 2 rfl (aD (hK67 _ (aJ ?_))))))
              refine⟨_,rfl,?_⟩
              refine aO ?_
              rw[Bool.eq_iff_iff]
              simp only[cK,eS]
              (have hlt:e.at'<1099511627776:=(by omega); simp_all[toList_inj,bZ,eq_comm (a:=(0:Int)) (b:=e.st),eq_comm (a:=(0:Int)) (b:=e.n)]; done)
             ·
              simp only[bs] at hg26
              refine aE aA 4 rfl (aD (hK67 _ (aJ ?_)))
              refine⟨_,rfl,?_⟩
              refine aO ?_
              rw[Bool.eq_iff_iff]
              simp only[cK,eS]
              (simp_all[toList_inj,bZ]; done)
            ·
             simp only[bs] at hg25
             refine aE aA 7 rfl (aD (hK61 _ (bF (hK4 _ (aC (fun K68 hK68=>(aB (aE aA 7 rfl (aD (hK68 _ (aJ ?_)))))))))))
             refine⟨_,rfl,?_⟩
             refine aO ?_
             rw[Bool.eq_iff_iff]
             simp only[cK,eS]
             (simp_all[toList_inj,bZ]; omega)
      ·
       refine⟨_,rfl,rfl,(ao rfl (aE aA 1 rfl (aF (aG 1 [] (by kernel_rfl) ⟨?_,trivial⟩))))⟩
       ·
        refine⟨_,rfl,rfl,(ao rfl (aE aA 1 rfl (aF (aG 4 [] (by kernel_rfl) ⟨?_,trivial⟩))))⟩
        ·
         refine⟨_,rfl,rfl,(ao rfl (aE aA 1 rfl (aF (aG 5 [] (by kernel_rfl) ⟨?_,trivial⟩))))⟩
         ·
          refine⟨_,rfl,rfl,(ao rfl (bB hf rfl rfl cU rfl rfl (l1 rfl) (l4 rfl) rfl (aF (aG 6 [] (by kernel_rfl) ⟨?_,trivial⟩))))⟩
          ·
           refine⟨_,rfl,rfl,(ao rfl (aE aA 1 rfl (aF (aG 7 [] (by kernel_rfl) ⟨?_,trivial⟩))))⟩
           ·
            refine⟨_,rfl,rfl,(ao rfl (bB hf rfl rfl cU rfl rfl (l1 rfl) (l4 rfl) rfl (aF (bX (by kernel_rfl) ?_))))⟩
            refine hK62 _ (aB (aE aA 2 rfl (aU rfl rfl rfl (fun hg27=>?_) (fun hg27=>?_))))
            ·
             simp only[bs] at hg27
             refine aH rfl (bM rfl fS cU rfl) ?_
             refine aE aA 3 rfl (aX rfl rfl rfl (aI hf rfl (aS kR rfl rfl rfl rfl (l2 rfl)) (aX rfl rfl rfl (aI hf rfl (aK rfl rfl jH rfl (Nm.all_den [e.user,e.other] (by refine⟨by simp,fun x hx=>?_⟩; simp at hx; rcases hx with rfl | rfl <;> assumption))) ?_))))
             refine aE aA 2 rfl (aD (hK61 _ (bF (hK4 _ (aC (fun K69 hK69=>(aB (aE aA 2 rfl (aU rfl rfl rfl (fun hg28=>?_) (fun hg28=>?_))))))))))
             ·
              refine aH rfl (cD rfl kE iM rfl rfl rfl) ?_
              refine aE aA 1 rfl (aX rfl rfl rfl (aH rfl (jS rfl rfl kC rfl) (aE aA 2 rfl (aD (hK69 _ (aJ ?_))))))
              refine⟨_,rfl,?_⟩
              refine aO ?_
              rw[Bool.eq_iff_iff]
              simp only[cK,eS]
              (have hlt:e.at'<1099511627776:=(by omega); simp_all[toList_inj,bZ,eq_comm (a:=(0:Int)) (b:=e.st),eq_comm (a:=(0:Int)) (b:=e.n)]; done)
             ·
              simp only[bs] at hg28
              refine aE aA 4 rfl (aD (hK69 _ (aJ ?_)))
              refine⟨_,rfl,?_⟩
              refine aO ?_
              rw[Bool.eq_iff_iff]
              simp only[cK,eS]
              (simp_all[toList_inj,bZ]; done)
            ·
             simp only[bs] at hg27
             refine aE aA 7 rfl (aD (hK61 _ (bF (hK4 _ (aC (fun K70 hK70=>(aB (aE aA 7 rfl (aD (hK70 _ (aJ ?_)))))))))))
             refine⟨_,rfl,?_⟩
             refine aO ?_
             rw[Bool.eq_iff_iff]
             simp only[cK,eS]
             (simp_all[toList_inj,bZ]; omega)
     ·
      simp only[bs] at hc19
      refine aB (aE aA 2 rfl (aD (hK59 _ (dY rfl rfl (fun hc29=>?_) (fun hc29=>?_)))))
      ·
       simp only[bs] at hc29
       refine bF (hK8 _ (aC (fun K71 hK71=>(aC (fun K72 hK72=>(eH bE ?_))))))
       refine bV (listed':=#[true,false,false,false,false,false,false,false]) 0 rfl (by kernel_rfl) (by kernel_rfl) (by kernel_rfl) rfl (fun _ _ h=>h) (jT rfl fS cU rfl) ?_
       refine bV (listed':=#[true,false,true,false,false,false,false,false]) 2 rfl (by kernel_rfl) (by kernel_rfl) (by kernel_rfl) rfl (fun _ _ h=>h) (jT rfl aDg cU rfl) ?_
       refine kQ (cX [1,3,4,54,56] rfl) (aG 1 [3] (by kernel_rfl) ⟨?_,?_,trivial⟩)
       ·
        refine⟨_,rfl,rfl,(ao rfl (aE aA 1 rfl (aF (aG 3 [4] (by kernel_rfl) ⟨?_,?_,trivial⟩))))⟩
        ·
         refine⟨_,rfl,rfl,(ao rfl (aE aA 1 rfl (aF (aG 4 [] (by kernel_rfl) ⟨?_,trivial⟩))))⟩
         ·
          refine⟨_,rfl,rfl,(ao rfl (aE aA 1 rfl (aF (aG 5 [] (by kernel_rfl) ⟨?_,trivial⟩))))⟩
          ·
           refine⟨_,rfl,rfl,(ao rfl (bB hf rfl rfl cU rfl rfl (l1 rfl) (l4 rfl) rfl (aF (aG 6 [] (by kernel_rfl) ⟨?_,trivial⟩))))⟩
           ·
            refine⟨_,rfl,rfl,(ao rfl (aE aA 1 rfl (aF (aG 7 [] (by kernel_rfl) ⟨?_,trivial⟩))))⟩
            ·
             refine⟨_,rfl,rfl,(ao rfl (bB hf rfl rfl cU rfl rfl (l1 rfl) (l4 rfl) rfl (aF (bX (by kernel_rfl) ?_))))⟩
             refine hK72 _ (aB (aE aA 2 rfl (aU rfl rfl rfl (fun hg30=>?_) (fun hg30=>?_))))
             ·
              simp only[bs] at hg30
              refine aH rfl (bM rfl fS cU rfl) ?_
              refine aE aA 3 rfl (aX rfl rfl rfl (aI hf rfl (aS kR rfl rfl rfl rfl (l2 rfl)) (aX rfl rfl rfl (aI hf rfl (aK rfl rfl jH rfl (Nm.all_den [e.user,e.other] (by refine⟨by simp,fun x hx=>?_⟩; simp at hx; rcases hx with rfl | rfl <;> assumption))) ?_))))
              refine aE aA 2 rfl (aD (hK71 _ (bF (hK4 _ (aC (fun K73 hK73=>(aB (aE aA 2 rfl (aU rfl rfl rfl (fun hg31=>?_) (fun hg31=>?_))))))))))
              ·
               refine aH rfl (cD rfl kE iM rfl rfl rfl) ?_
               refine aE aA 1 rfl (aX rfl rfl rfl (aH rfl (jS rfl rfl kC rfl) (aE aA 2 rfl (aD (hK73 _ (aJ ?_))))))
               refine⟨_,rfl,?_⟩
               refine aO ?_
               rw[Bool.eq_iff_iff]
               simp only[cK,eS]
               (have hlt:e.at'<1099511627776:=(by omega); simp_all[toList_inj,bZ,eq_comm (a:=(0:Int)) (b:=e.st),eq_comm (a:=(0:Int)) (b:=e.n)]; done)
              ·
               simp only[bs] at hg31
               refine aE aA 4 rfl (aD (hK73 _ (aJ ?_)))
               refine⟨_,rfl,?_⟩
               refine aO ?_
               rw[Bool.eq_iff_iff]
               simp only[cK,eS]
               (simp_all[toList_inj,bZ]; done)
             ·
              simp only[bs] at hg30
              refine aE aA 7 rfl (aD (hK71 _ (bF (hK4 _ (aC (fun K74 hK74=>(aB (aE aA 7 rfl (aD (hK74 _ (aJ ?_)))))))))))
              refine⟨_,rfl,?_⟩
              refine aO ?_
              rw[Bool.eq_iff_iff]
              simp only[cK,eS]
              (simp_all[toList_inj,bZ]; omega)
        ·
         refine⟨_,rfl,rfl,(ao rfl (aE aA 1 rfl (aF (aG 3 [5] (by kernel_rfl) ⟨?_,?_,trivial⟩))))⟩
         ·
          refine⟨_,rfl,rfl,(ao rfl (aE aA 1 rfl (aF (aG 5 [] (by kernel_rfl) ⟨?_,trivial⟩))))⟩
          ·
           refine⟨_,rfl,rfl,(ao rfl (bB hf rfl rfl cU rfl rfl (l1 rfl) (l4 rfl) rfl (aF (aG 6 [] (by kernel_rfl) ⟨?_,trivial⟩))))⟩
           ·
            refine⟨_,rfl,rfl,(ao rfl (aE aA 1 rfl (aF (aG 7 [] (by kernel_rfl) ⟨?_,trivial⟩))))⟩
            ·
             refine⟨_,rfl,rfl,(ao rfl (bB hf rfl rfl cU rfl rfl (l1 rfl) (l4 rfl) rfl (aF (bX (by kernel_rfl) ?_))))⟩
             refine hK72 _ (aB (aE aA 2 rfl (aU rfl rfl rfl (fun hg32=>?_) (fun hg32=>?_))))
             ·
              simp only[bs] at hg32
              refine aH rfl (bM rfl fS cU rfl) ?_
              refine aE aA 3 rfl (aX rfl rfl rfl (aI hf rfl (aS kR rfl rfl rfl rfl (l2 rfl)) (aX rfl rfl rfl (aI hf rfl (aK rfl rfl jH rfl (Nm.all_den [e.user,e.other] (by refine⟨by simp,fun x hx=>?_⟩; simp at hx; rcases hx with rfl | rfl <;> assumption))) ?_))))
              refine aE aA 2 rfl (aD (hK71 _ (bF (hK4 _ (aC (fun K75 hK75=>(aB (aE aA 2 rfl (aU rfl rfl rfl (fun hg33=>?_) (fun hg33=>?_))))))))))
              ·
               refine aH rfl (cD rfl kE iM rfl rfl rfl) ?_
               refine aE aA 1 rfl (aX rfl rfl rfl (aH rfl (jS rfl rfl kC rfl) (aE aA 2 rfl (aD (hK75 _ (aJ ?_))))))
               refine⟨_,rfl,?_⟩
               refine aO ?_
               rw[Bool.eq_iff_iff]
               simp only[cK,eS]
               (have hlt:e.at'<1099511627776:=(by omega); simp_all[toList_inj,bZ,eq_comm (a:=(0:Int)) (b:=e.st),eq_comm (a:=(0:Int)) (b:=e.n)]; done)
              ·
               simp only[bs] at hg33
               refine aE aA 4 rfl (aD (hK75 _ (aJ ?_)))
               refine⟨_,rfl,?_⟩
               refine aO ?_
               rw[Bool.eq_iff_iff]
               simp only[cK,eS]
               (simp_all[toList_inj,bZ]; done)
             ·
              simp only[bs] at hg32
              refine aE aA 7 rfl (aD (hK71 _ (bF (hK4 _ (aC (fun K76 hK76=>(aB (aE aA 7 rfl (aD (hK76 _ (aJ ?_)))))))))))
              refine⟨_,rfl,?_⟩
              refine aO ?_
              rw[Bool.eq_iff_iff]
              simp only[cK,eS]
              (simp_all[toList_inj,bZ]; omega)
         ·
          refine⟨_,rfl,rfl,(ao rfl (bB hf rfl rfl cU rfl rfl (l1 rfl) (l4 rfl) rfl (aF (aG 3 [] (by kernel_rfl) ⟨?_,trivial⟩))))⟩
          ·
           refine⟨_,rfl,rfl,(ao rfl (aE aA 1 rfl (aF (aG 6 [] (by kernel_rfl) ⟨?_,trivial⟩))))⟩
           ·
            refine⟨_,rfl,rfl,(ao rfl (aE aA 1 rfl (aF (aG 7 [] (by kernel_rfl) ⟨?_,trivial⟩))))⟩
            ·
             refine⟨_,rfl,rfl,(ao rfl (bB hf rfl rfl cU rfl rfl (l1 rfl) (l4 rfl) rfl (aF (bX (by kernel_rfl) ?_))))⟩
             refine hK72 _ (aB (aE aA 2 rfl (aU rfl rfl rfl (fun hg34=>?_) (fun hg34=>?_))))
             ·
              simp only[bs] at hg34
              refine aH rfl (bM rfl fS cU rfl) ?_
              refine aE aA 3 rfl (aX rfl rfl rfl (aI hf rfl (aS kR rfl rfl rfl rfl (l2 rfl)) (aX rfl rfl rfl (aI hf rfl (aK rfl rfl jH rfl (Nm.all_den [e.user,e.other] (by refine⟨by simp,fun x hx=>?_⟩; simp at hx; rcases hx with rfl | rfl <;> assumption))) ?_))))
              refine aE aA 2 rfl (aD (hK71 _ (bF (hK4 _ (aC (fun K77 hK77=>(aB (aE aA 2 rfl (aU rfl rfl rfl (fun hg35=>?_) (fun hg35=>?_))))))))))
              ·
               refine aH rfl (cD rfl kE iM rfl rfl rfl) ?_
               refine aE aA 1 rfl (aX rfl rfl rfl (aH rfl (jS rfl rfl kC rfl) (aE aA 2 rfl (aD (hK77 _ (aJ ?_))))))
               refine⟨_,rfl,?_⟩
               refine aO ?_
               rw[Bool.eq_iff_iff]
               simp only[cK,eS]
               (have hlt:e.at'<1099511627776:=(by omega); simp_all[toList_inj,bZ,eq_comm (a:=(0:Int)) (b:=e.st),eq_comm (a:=(0:Int)) (b:=e.n)]; done)
              ·
               simp only[bs] at hg35
               refine aE aA 4 rfl (aD (hK77 _ (aJ ?_)))
               refine⟨_,rfl,?_⟩
               refine aO ?_
               rw[Bool.eq_iff_iff]
               simp only[cK,eS]
               (simp_all[toList_inj,bZ]; done)
             ·
              simp only[bs] at hg34
              refine aE aA 7 rfl (aD (hK71 _ (bF (hK4 _ (aC (fun K78 hK78=>(aB (aE aA 7 rfl (aD (hK78 _ (aJ ?_)))))))))))
              refine⟨_,rfl,?_⟩
              refine aO ?_
              rw[Bool.eq_iff_iff]
              simp only[cK,eS]
              (simp_all[toList_inj,bZ]; omega)
       ·
        refine⟨_,rfl,rfl,(ao rfl (aE aA 1 rfl (aF (aG 1 [] (by kernel_rfl) ⟨?_,trivial⟩))))⟩
        ·
         refine⟨_,rfl,rfl,(ao rfl (aE aA 1 rfl (aF (aG 4 [] (by kernel_rfl) ⟨?_,trivial⟩))))⟩
         ·
          refine⟨_,rfl,rfl,(ao rfl (aE aA 1 rfl (aF (aG 5 [] (by kernel_rfl) ⟨?_,trivial⟩))))⟩
          ·
           refine⟨_,rfl,rfl,(ao rfl (bB hf rfl rfl cU rfl rfl (l1 rfl) (l4 rfl) rfl (aF (aG 6 [] (by kernel_rfl) ⟨?_,trivial⟩))))⟩
           ·
            refine⟨_,rfl,rfl,(ao rfl (aE aA 1 rfl (aF (aG 7 [] (by kernel_rfl) ⟨?_,trivial⟩))))⟩
            ·
             refine⟨_,rfl,rfl,(ao rfl (bB hf rfl rfl cU rfl rfl (l1 rfl) (l4 rfl) rfl (aF (bX (by kernel_rfl) ?_))))⟩
             refine hK72 _ (aB (aE aA 2 rfl (aU rfl rfl rfl (fun hg36=>?_) (fun hg36=>?_))))
             ·
              simp only[bs] at hg36
              refine aH rfl (bM rfl fS cU rfl) ?_
              refine aE aA 3 rfl (aX rfl rfl rfl (aI hf rfl (aS kR rfl rfl rfl rfl (l2 rfl)) (aX rfl rfl rfl (aI hf rfl (aK rfl rfl jH rfl (Nm.all_den [e.user,e.other] (by refine⟨by simp,fun x hx=>?_⟩; simp at hx; rcases hx with rfl | rfl <;> assumption))) ?_))))
              refine aE aA 2 rfl (aD (hK71 _ (bF (hK4 _ (aC (fun K79 hK79=>(aB (aE aA 2 rfl (aU rfl rfl rfl (fun hg37=>?_) (fun hg37=>?_))))))))))
              ·
               refine aH rfl (cD rfl kE iM rfl rfl rfl) ?_
               refine aE aA 1 rfl (aX rfl rfl rfl (aH rfl (jS rfl rfl kC rfl) (aE aA 2 rfl (aD (hK79 _ (aJ ?_))))))
               refine⟨_,rfl,?_⟩
               refine aO ?_
               rw[Bool.eq_iff_iff]
               simp only[cK,eS]
               (have hlt:e.at'<1099511627776:=(by omega); simp_all[toList_inj,bZ,eq_comm (a:=(0:Int)) (b:=e.st),eq_comm (a:=(0:Int)) (b:=e.n)]; done)
              ·
               simp only[bs] at hg37
               refine aE aA 4 rfl (aD (hK79 _ (aJ ?_)))
               refine⟨_,rfl,?_⟩
               refine aO ?_
               rw[Bool.eq_iff_iff]
               simp only[cK,eS]
               (simp_all[toList_inj,bZ]; done)
             ·
              simp only[bs] at hg36
              refine aE aA 7 rfl (aD (hK71 _ (bF (hK4 _ (aC (fun K80 hK80=>(aB (aE aA 7 rfl (aD (hK80 _ (aJ ?_)))))))))))
              refine⟨_,rfl,?_⟩
              refine aO ?_
              rw[Bool.eq_iff_iff]
              simp only[cK,eS]
              (simp_all[toList_inj,bZ]; omega)
      ·
       simp only[bs] at hc29
       refine aN (hK58 _ (aC (fun K81 hK81=>(aB (aE aA 2 rfl (aD (hK81 _ (dY rfl rfl (fun hc38=>?_) (fun hc38=>?_)))))))))
       ·
        simp only[bs] at hc38
        refine bF (hK7 _ (aC (fun K82 hK82=>(aC (fun K83 hK83=>(aB (aE aA 3 rfl (bB hf rfl rfl cA rfl rfl (l1 rfl) (l4 rfl) rfl (aD (hK83 _ (aB (aE aA 2 rfl (aU rfl rfl rfl (fun hg39=>?_) (fun hg39=>?_))))))))))))))
        ·
         simp only[bs] at hg39
         refine aH rfl (bM rfl sP cA rfl) ?_
         refine aE aA 1 rfl (aX rfl rfl rfl (aI hf rfl (aK rfl rfl lS rfl (lF _ _ _)) (aE aA 2 rfl (aD (hK82 _ (bF (hK4 _ (aC (fun K84 hK84=>(aB (aE aA 2 rfl (aU rfl rfl rfl (fun hg40=>?_) (fun hg40=>?_)))))))))))))
         ·
          simp only[bs] at hg40
          refine aH rfl (cD rfl kE iM rfl rfl rfl) ?_
          refine aE aA 1 rfl (aX rfl rfl rfl (aH rfl (jS rfl rfl kC rfl) (aE aA 2 rfl (aD (hK84 _ (aJ ?_))))))
          refine⟨_,rfl,?_⟩
          refine aO ?_
          rw[Bool.eq_iff_iff]
          simp only[cK,eS]
          (have hlt:e.at'<1099511627776:=(by omega); have hln:e.n<1099511627776:=(by omega); simp_all[toList_inj,bZ,eq_comm (a:=(0:Int)) (b:=e.st),eq_comm (a:=(0:Int)) (b:=e.n)]; done)
         ·
          simp only[bs] at hg40
          refine aE aA 4 rfl (aD (hK84 _ (aJ ?_)))
          refine⟨_,rfl,?_⟩
          refine aO ?_
          rw[Bool.eq_iff_iff]
          simp only[cK,eS]
          (simp_all[toList_inj,bZ]; omega)
        ·
         simp only[bs] at hg39
         refine aE aA 4 rfl (aD (hK82 _ (bF (hK4 _ (aC (fun K85 hK85=>(aB (aE aA 7 rfl (aD (hK85 _ (aJ ?_)))))))))))
         refine⟨_,rfl,?_⟩
         refine aO ?_
         rw[Bool.eq_iff_iff]
         simp only[cK,eS]
         (simp_all[toList_inj,bZ]; omega)
       ·
        simp only[bs] at hc38
        refine aN (hK12 _ (bF (hK6 _ (aC (fun K86 hK86=>(aC (fun K87 hK87=>(aB (aE aA 1 rfl (aD (hK87 _ (aJ ?_))))))))))))
        refine⟨_,rfl,?_⟩
        refine aO ?_
        rw[Bool.eq_iff_iff]
        simp only[cK,eS]
        (simp_all[toList_inj,bZ]; done)
end Go.Proofs.YtpkanhklapfajaaGreat
set_option linter.unusedVariables false
set_option linter.unusedSimpArgs false
namespace Go.Proofs.YtpkanhklapfajaaGreat
open Go Go.Abs
theorem aOb (s:Sta) (e:Ev) (hz:SzS 140737488355100 s) (hr:dL cM s.usr) (hr2:dL dV s.tmb) (he:cK e=true):DenX Tryz.prog 60 [.agg (eX s E0 E1),.agg (evC e)] [(E0,.buf 2 (s.usr.map usC)),(E1,.buf 2 (s.tmb.map tmC))] (fun r m=>r=.tup [.agg (eX (bU s e).1 E0 E1),.s (.int .i64 (bU s e).2)]∧m=[(E0,.buf 2 ((bU s e).1.usr.map usC)),(E1,.buf 2 ((bU s e).1.tmb.map tmC))]):=by
  rcases aGq he with ⟨hk,_⟩ | ⟨hk,_⟩ | ⟨hk,_⟩ | ⟨hk,_⟩ | ⟨hk,_⟩ | ⟨hk,_⟩ | ⟨hk,_⟩
  · exact aVr s e hz hr hr2 hk
  · exact aVq s e hz hr hr2 hk
  · exact aVp s e hz hr hr2 hk
  · exact aVo s e hz hr hr2 hk
  · exact aVn s e hz hr hr2 hk
  · exact aVm s e hz hr hr2 hk
  · exact aVl s e hz hr hr2 hk
theorem vP:∀ (w:World) (p:Hp) (v:Value),RelV w p (.agg [.s (.int .i64 0),.s (.int .i64 0),.s (.slice none 0 0),.s (.slice none 0 0),.s (.slice none 0 0),.s (.slice none 0 0)]) v→RelV w p (.agg (aT uD)) v:=by
  intro w p v h
  cases h with
  | agg _ vs hl h =>
    refine .agg _ _ hl fun i c v hc hv=>?_
    match i,hc with
    | 0,hc=>cases hc; exact h 0 _ v rfl hv
    | 1,hc=>cases hc; exact h 1 _ v rfl hv
    | 2,hc=>cases hc; have:=h 2 _ v rfl hv; cases this; exact .sln 4 none 0 (by simp [maxLen])
    | 3,hc=>cases hc; have:=h 3 _ v rfl hv; cases this; exact .sln 2 none 0 (by simp [maxLen])
    | 4,hc=>cases hc; have:=h 4 _ v rfl hv; cases this; exact .sln 4 none 0 (by simp [maxLen])
    | 5,hc=>cases hc; have:=h 5 _ v rfl hv; cases this; exact .sln 2 none 0 (by simp [maxLen])
theorem tI (s:Sta):(AV.agg (eX s E0 E1)).ren [(E0,222),(E1,223)]=.agg (eX s 222 223):=rfl
theorem aM0 (s:Sta) (z:Int):(AV.tup [.agg (eX s E0 E1),.s (.int .i64 z)]).ren [(E0,222),(E1,223)]=.tup [.agg (eX s 222 223),.s (.int .i64 z)]:=rfl
theorem aC9 (s:Sta) (e:Ev) (hz:SzS 140737488355100 s) (hr:dL cM s.usr) (hr2:dL dV s.tmb) (hu:TS e.user) (ho:TS e.other) :Den Tryz.prog 26 [.agg (aT s),.agg (evC e)]  (·=.tup [.agg (aT (bP s e).1),.s (.int .i64 (bP s e).2)]):=by
 refine aR Tryz.func26 rfl (Nat.le_of_ble_eq_true rfl) (fun w0 A hf=>(aC (fun K1 hK1=>(aB (aI hf rfl (cE rfl rfl (lf rfl)) (aI hf rfl (cE rfl rfl (lf rfl)) (aW hf rfl rfl rfl bA (aE aA 1 rfl (aD (hK1 _ (aC (fun K2 hK2=>(aP (aC (fun K3 hK3=>(aB ?_))))))))))))))))
 refine aE aA 1 rfl (aI hf rfl (aK rfl rfl aSy rfl (aMw e hu ho)) (aE aA 2 rfl (aD (hK3 _ (dY rfl rfl (fun hc1=>?_) (fun hc1=>?_))))))
 ·
  simp only[bs] at hc1
  refine aC (fun K4 hK4=>(aB (aH rfl (bR rfl bA pA (l3 rfl) rfl) (bD (aAv vP) (bB hf rfl rfl cG rfl rfl (l1 rfl) (l4 rfl) rfl (aE aA 1 rfl (aD (hK4 _ (aJ ?_)))))))))
  refine⟨_,rfl,?_⟩
  rw[show bP s e=(uD,110) from by rw[bP,if_neg (by simp_all)]]; rfl
 ·
  simp only[bs] at hc1
  refine aC (fun K5 hK5=>(aB (aE aA 6 rfl (aD (hK5 _ (dY rfl rfl (fun hc2=>?_) (fun hc2=>?_)))))))
  ·
   simp only[bs] at hc2
   refine aC (fun K6 hK6=>(aB (aH rfl (bR rfl bA pA (l3 rfl) rfl) (bD (aAv vP) (bB hf rfl rfl cG rfl rfl (l1 rfl) (l4 rfl) rfl (aE aA 1 rfl (aD (hK6 _ (aJ ?_)))))))))
   refine⟨_,rfl,?_⟩
   rw[show bP s e=(uD,111) from by rw[bP,if_pos (by simp_all),if_pos (by first | assumption | omega)]]; rfl
  ·
   simp only[bs] at hc2
   refine aN (hK2 _ (aC (fun K7 hK7=>(eH bE ?_))))
   refine aM 1 #[true,true,true,true,true,true,true,true,true,false] ⟨35,[(3,.adr (evC e)),(4,.ref 4 0 0 0),(6,.ref 6 0 0 0),(26,.s (.int .i64 (bU s e).2))],[(6,.box (eX (bU s e).1 222 223)),(222,.buf 2 ((bU s e).1.usr.map usC)),(223,.buf 2 ((bU s e).1.tmb.map tmC)),(4,.box [.s (.int .i64 0),.s (.int .i64 0),.s (.slice none 0 0),.s (.slice none 0 0),.s (.slice none 0 0),.s (.slice none 0 0)])]⟩ ?_ (fun hD0=>?_)
   ·
    refine aG 9 [] (by kernel_rfl) ⟨?_,trivial⟩
    ·
     refine⟨_,rfl,rfl,(ao rfl (aE aA 1 rfl (aF (bX (by kernel_rfl) ?_))))⟩
     refine hK7 _ (aC (fun K8 hK8=>(aC (fun K9 hK9=>(aB (aE aA 2 rfl (aD (hK9 _ (dY rfl rfl (fun hc3=>?_) (fun hc3=>?_))))))))))
     ·
      simp only[bs] at hc3
      refine aC (fun K10 hK10=>(aB (aH rfl (bR rfl bA pA (l3 rfl) rfl) (bD (aAv vP) (aE aA 1 rfl (bB hf rfl rfl cG rfl rfl (l1 rfl) (l4 rfl) rfl (aE aA 1 rfl (aD (hK10 _ (aJ ?_))))))))))
      refine⟨_,rfl,?_⟩
      rw[show bP s e=(uD,(bU s e).2) from by rw[bP,if_pos (by simp_all),if_neg (by omega),if_neg (by first | assumption | simp_all)]]; rfl
     ·
      simp only[bs] at hc3
      refine aN (hK8 _ (aC (fun K11 hK11=>(aB (aE aA 3 rfl (bB hf rfl rfl cA rfl rfl (l1 rfl) (l4 rfl) rfl (aD (hK11 _ (aC (fun K12 hK12=>(aB (aH rfl (cD (cs':=[.s (.int .i64 e.at'),.s (.int .i64 (bU s e).1.hor),.sl 4 ((bU s e).1.opn.map seC),.own 222 2 0 ((bU s e).1.usr.map usC).length,.sl 4 ((bU s e).1.sub.map enC),.own 223 2 0 ((bU s e).1.tmb.map tmC).length]) rfl oH cG rfl rfl rfl) (bB hf rfl rfl cG rfl rfl (l1 rfl) (l4 rfl) rfl (aE aA 1 rfl ?_))))))))))))))
      refine aD (hK12 _ (aJ ?_))
      refine⟨_,rfl,?_⟩
      rw[show bP s e=({ (bU s e).1 with now:=e.at' },0) from by rw[bP,if_pos (by simp_all),if_neg (by omega),if_pos (by first | assumption | simp_all)]]
      show AV.tup [.agg [_,_,_,AV.conv _ (.own 222 2 0 ((bU s e).1.usr.map usC).length),_,AV.conv _ (.own 223 2 0 ((bU s e).1.tmb.map tmC).length)],_]=_
      rw[cI (g:=222) rfl rfl,cI (g:=223) rfl rfl]; rfl
   refine aM 2 #[true,true,true,true,true,true,true,true,false,false] ⟨35,[(3,.adr (evC e)),(4,.ref 4 0 0 0),(6,.ref 6 0 0 0),(25,.agg (eX (bU s e).1 222 223)),(26,.s (.int .i64 (bU s e).2))],[(6,.box [.s (.int .i64 0),.s (.int .i64 0),.s (.slice none 0 0),.s (.slice none 0 0),.s (.slice none 0 0),.s (.slice none 0 0)]),(222,.buf 2 ((bU s e).1.usr.map usC)),(223,.buf 2 ((bU s e).1.tmb.map tmC)),(4,.box [.s (.int .i64 0),.s (.int .i64 0),.s (.slice none 0 0),.s (.slice none 0 0),.s (.slice none 0 0),.s (.slice none 0 0)])]⟩ ?_ (fun hD1=>?_)
   ·
    refine aG 8 [] (by kernel_rfl) ⟨?_,trivial⟩
    ·
     refine⟨_,rfl,rfl,(ao rfl (bB hf rfl rfl cG rfl rfl (l1 rfl) (l4 rfl) rfl (aF (aG 9 [] (by kernel_rfl) ⟨?_,trivial⟩))))⟩
     ·
      refine⟨_,rfl,rfl,(ao rfl (aE aA 1 rfl (aF (bX (by kernel_rfl) ?_))))⟩
      refine hK7 _ (aC (fun K13 hK13=>(aC (fun K14 hK14=>(aB (aE aA 2 rfl (aD (hK14 _ (dY rfl rfl (fun hc4=>?_) (fun hc4=>?_))))))))))
      ·
       simp only[bs] at hc4
       refine aC (fun K15 hK15=>(aB (aH rfl (bR rfl bA pA (l3 rfl) rfl) (bD (aAv vP) (aE aA 1 rfl (bB hf rfl rfl cG rfl rfl (l1 rfl) (l4 rfl) rfl (aE aA 1 rfl (aD (hK15 _ (aJ ?_))))))))))
       refine⟨_,rfl,?_⟩
       rw[show bP s e=(uD,(bU s e).2) from by rw[bP,if_pos (by simp_all),if_neg (by omega),if_neg (by first | assumption | simp_all)]]; rfl
      ·
       simp only[bs] at hc4
       refine aN (hK13 _ (aC (fun K16 hK16=>(aB (aE aA 3 rfl (bB hf rfl rfl cA rfl rfl (l1 rfl) (l4 rfl) rfl (aD (hK16 _ (aC (fun K17 hK17=>(aB (aH rfl (cD (cs':=[.s (.int .i64 e.at'),.s (.int .i64 (bU s e).1.hor),.sl 4 ((bU s e).1.opn.map seC),.own 222 2 0 ((bU s e).1.usr.map usC).length,.sl 4 ((bU s e).1.sub.map enC),.own 223 2 0 ((bU s e).1.tmb.map tmC).length]) rfl oH cG rfl rfl rfl) (bB hf rfl rfl cG rfl rfl (l1 rfl) (l4 rfl) rfl (aE aA 1 rfl ?_))))))))))))))
       refine aD (hK17 _ (aJ ?_))
       refine⟨_,rfl,?_⟩
       rw[show bP s e=({ (bU s e).1 with now:=e.at' },0) from by rw[bP,if_pos (by simp_all),if_neg (by omega),if_pos (by first | assumption | simp_all)]]
       show AV.tup [.agg [_,_,_,AV.conv _ (.own 222 2 0 ((bU s e).1.usr.map usC).length),_,AV.conv _ (.own 223 2 0 ((bU s e).1.tmb.map tmC).length)],_]=_
       rw[cI (g:=222) rfl rfl,cI (g:=223) rfl rfl]; rfl
   refine aM 2 #[true,true,true,true,true,true,false,true,true,false] ⟨35,[(3,.adr (evC e)),(4,.ref 4 0 0 0),(6,.ref 6 0 0 0),(20,.tup [.agg (eX (bU s e).1 222 223),.s (.int .i64 (bU s e).2)])],[(6,.box (eX (bU s e).1 222 223)),(222,.buf 2 ((bU s e).1.usr.map usC)),(223,.buf 2 ((bU s e).1.tmb.map tmC)),(4,.box [.s (.int .i64 0),.s (.int .i64 0),.s (.slice none 0 0),.s (.slice none 0 0),.s (.slice none 0 0),.s (.slice none 0 0)])]⟩ ?_ (fun hD2=>?_)
   ·
    refine aG 6 [] (by kernel_rfl) ⟨?_,trivial⟩
    ·
     refine⟨_,rfl,rfl,(ao rfl (aE aA 1 rfl (aF (ag hD0 rfl rfl rfl))))⟩
   refine aM 3 #[true,true,true,true,true,true,true,false,false,false] ⟨35,[(3,.adr (evC e)),(4,.ref 4 0 0 0),(25,.agg (eX (bU s e).1 222 223)),(26,.s (.int .i64 (bU s e).2))],[(222,.buf 2 ((bU s e).1.usr.map usC)),(223,.buf 2 ((bU s e).1.tmb.map tmC)),(4,.box [.s (.int .i64 0),.s (.int .i64 0),.s (.slice none 0 0),.s (.slice none 0 0),.s (.slice none 0 0),.s (.slice none 0 0)])]⟩ ?_ (fun hD3=>?_)
   ·
    refine aG 7 [] (by kernel_rfl) ⟨?_,trivial⟩
    ·
     refine⟨_,rfl,rfl,(ao rfl (aW hf rfl rfl rfl bA (aF (ag hD1 rfl rfl rfl))))⟩
   refine aM 3 #[true,true,true,true,true,true,false,true,false,false] ⟨35,[(3,.adr (evC e)),(4,.ref 4 0 0 0),(6,.ref 6 0 0 0),(20,.tup [.agg (eX (bU s e).1 222 223),.s (.int .i64 (bU s e).2)]),(25,.agg (eX (bU s e).1 222 223))],[(6,.box [.s (.int .i64 0),.s (.int .i64 0),.s (.slice none 0 0),.s (.slice none 0 0),.s (.slice none 0 0),.s (.slice none 0 0)]),(222,.buf 2 ((bU s e).1.usr.map usC)),(223,.buf 2 ((bU s e).1.tmb.map tmC)),(4,.box [.s (.int .i64 0),.s (.int .i64 0),.s (.slice none 0 0),.s (.slice none 0 0),.s (.slice none 0 0),.s (.slice none 0 0)])]⟩ ?_ (fun hD4=>?_)
   ·
    refine aG 6 [8] (by kernel_rfl) ⟨?_,?_,trivial⟩
    ·
     refine⟨_,rfl,rfl,(ao rfl (aE aA 1 rfl (aF (ag hD1 rfl rfl rfl))))⟩
    ·
     refine⟨_,rfl,rfl,(ao rfl (bB hf rfl rfl cG rfl rfl (l1 rfl) (l4 rfl) rfl (aF (ag hD2 rfl rfl rfl))))⟩
   refine aM 3 #[true,true,true,true,true,false,true,true,false,false] ⟨35,[(3,.adr (evC e)),(4,.ref 4 0 0 0),(6,.ref 6 0 0 0),(20,.tup [.agg (eX (bU s e).1 222 223),.s (.int .i64 (bU s e).2)]),(26,.s (.int .i64 (bU s e).2))],[(6,.box [.s (.int .i64 0),.s (.int .i64 0),.s (.slice none 0 0),.s (.slice none 0 0),.s (.slice none 0 0),.s (.slice none 0 0)]),(222,.buf 2 ((bU s e).1.usr.map usC)),(223,.buf 2 ((bU s e).1.tmb.map tmC)),(4,.box [.s (.int .i64 0),.s (.int .i64 0),.s (.slice none 0 0),.s (.slice none 0 0),.s (.slice none 0 0),.s (.slice none 0 0)])]⟩ ?_ (fun hD5=>?_)
   ·
    refine aG 5 [] (by kernel_rfl) ⟨?_,trivial⟩
    ·
     refine⟨_,rfl,rfl,(ao rfl (aE aA 1 rfl (aF (ag hD1 rfl rfl rfl))))⟩
   refine aM 4 #[true,true,true,true,true,true,false,false,false,false] ⟨35,[(3,.adr (evC e)),(4,.ref 4 0 0 0),(20,.tup [.agg (eX (bU s e).1 222 223),.s (.int .i64 (bU s e).2)]),(25,.agg (eX (bU s e).1 222 223))],[(222,.buf 2 ((bU s e).1.usr.map usC)),(223,.buf 2 ((bU s e).1.tmb.map tmC)),(4,.box [.s (.int .i64 0),.s (.int .i64 0),.s (.slice none 0 0),.s (.slice none 0 0),.s (.slice none 0 0),.s (.slice none 0 0)])]⟩ ?_ (fun hD6=>?_)
   ·
    refine aG 6 [7] (by kernel_rfl) ⟨?_,?_,trivial⟩
    ·
     refine⟨_,rfl,rfl,(ao rfl (aE aA 1 rfl (aF (ag hD3 rfl rfl rfl))))⟩
    ·
     refine⟨_,rfl,rfl,(ao rfl (aW hf rfl rfl rfl bA (aF (ag hD4 rfl rfl rfl))))⟩
   refine aM 4 #[true,true,true,true,true,false,true,false,false,false] ⟨35,[(3,.adr (evC e)),(4,.ref 4 0 0 0),(20,.tup [.agg (eX (bU s e).1 222 223),.s (.int .i64 (bU s e).2)]),(26,.s (.int .i64 (bU s e).2))],[(222,.buf 2 ((bU s e).1.usr.map usC)),(223,.buf 2 ((bU s e).1.tmb.map tmC)),(4,.box [.s (.int .i64 0),.s (.int .i64 0),.s (.slice none 0 0),.s (.slice none 0 0),.s (.slice none 0 0),.s (.slice none 0 0)])]⟩ ?_ (fun hD7=>?_)
   ·
    refine aG 5 [7] (by kernel_rfl) ⟨?_,?_,trivial⟩
    ·
     refine⟨_,rfl,rfl,(ao rfl (aE aA 1 rfl (aF (ag hD3 rfl rfl rfl))))⟩
    ·
     refine⟨_,rfl,rfl,(ao rfl (aW hf rfl rfl rfl bA (aF (ag hD5 rfl rfl rfl))))⟩
   refine aM 4 #[true,true,true,true,true,false,false,true,false,false] ⟨35,[(3,.adr (evC e)),(4,.ref 4 0 0 0),(6,.ref 6 0 0 0),(20,.tup [.agg (eX (bU s e).1 222 223),.s (.int .i64 (bU s e).2)])],[(6,.box [.s (.int .i64 0),.s (.int .i64 0),.s (.slice none 0 0),.s (.slice none 0 0),.s (.slice none 0 0),.s (.slice none 0 0)]),(222,.buf 2 ((bU s e).1.usr.map usC)),(223,.buf 2 ((bU s e).1.tmb.map tmC)),(4,.box [.s (.int .i64 0),.s (.int .i64 0),.s (.slice none 0 0),.s (.slice none 0 0),.s (.slice none 0 0),.s (.slice none 0 0)])]⟩ ?_ (fun hD8=>?_)
   ·
    refine aG 5 [6] (by kernel_rfl) ⟨?_,?_,trivial⟩
    ·
     refine⟨_,rfl,rfl,(ao rfl (aE aA 1 rfl (aF (ag hD4 rfl rfl rfl))))⟩
    ·
     refine⟨_,rfl,rfl,(ao rfl (aE aA 1 rfl (aF (ag hD5 rfl rfl rfl))))⟩
   refine aM 5 #[true,true,true,true,true,false,false,false,false,false] ⟨35,[(3,.adr (evC e)),(4,.ref 4 0 0 0),(20,.tup [.agg (eX (bU s e).1 222 223),.s (.int .i64 (bU s e).2)])],[(222,.buf 2 ((bU s e).1.usr.map usC)),(223,.buf 2 ((bU s e).1.tmb.map tmC)),(4,.box [.s (.int .i64 0),.s (.int .i64 0),.s (.slice none 0 0),.s (.slice none 0 0),.s (.slice none 0 0),.s (.slice none 0 0)])]⟩ ?_ (fun hD9=>?_)
   ·
    refine aG 5 [6,7] (by kernel_rfl) ⟨?_,?_,?_,trivial⟩
    ·
     refine⟨_,rfl,rfl,(ao rfl (aE aA 1 rfl (aF (ag hD6 rfl rfl rfl))))⟩
    ·
     refine⟨_,rfl,rfl,(ao rfl (aE aA 1 rfl (aF (ag hD7 rfl rfl rfl))))⟩
    ·
     refine⟨_,rfl,rfl,(ao rfl (aW hf rfl rfl rfl bA (aF (ag hD8 rfl rfl rfl))))⟩
   refine aM 5 #[true,true,true,true,false,false,false,true,false,false] ⟨35,[(3,.adr (evC e)),(4,.ref 4 0 0 0),(6,.ref 6 0 0 0),(24,.tup [.agg (eX (bU s e).1 222 223),.s (.int .i64 (bU s e).2)])],[(6,.box [.s (.int .i64 0),.s (.int .i64 0),.s (.slice none 0 0),.s (.slice none 0 0),.s (.slice none 0 0),.s (.slice none 0 0)]),(222,.buf 2 ((bU s e).1.usr.map usC)),(223,.buf 2 ((bU s e).1.tmb.map tmC)),(4,.box [.s (.int .i64 0),.s (.int .i64 0),.s (.slice none 0 0),.s (.slice none 0 0),.s (.slice none 0 0),.s (.slice none 0 0)])]⟩ ?_ (fun hD10=>?_)
   ·
    refine aG 4 [] (by kernel_rfl) ⟨?_,trivial⟩
    ·
     refine⟨_,rfl,rfl,(ao rfl (aE aA 1 rfl (aF (ag hD8 rfl rfl rfl))))⟩
   refine aM 6 #[true,true,true,true,false,false,false,false,false,false] ⟨35,[(3,.adr (evC e)),(4,.ref 4 0 0 0),(24,.tup [.agg (eX (bU s e).1 222 223),.s (.int .i64 (bU s e).2)])],[(222,.buf 2 ((bU s e).1.usr.map usC)),(223,.buf 2 ((bU s e).1.tmb.map tmC)),(4,.box [.s (.int .i64 0),.s (.int .i64 0),.s (.slice none 0 0),.s (.slice none 0 0),.s (.slice none 0 0),.s (.slice none 0 0)])]⟩ ?_ (fun hD11=>?_)
   ·
    refine aG 4 [7] (by kernel_rfl) ⟨?_,?_,trivial⟩
    ·
     refine⟨_,rfl,rfl,(ao rfl (aE aA 1 rfl (aF (ag hD9 rfl rfl rfl))))⟩
    ·
     refine⟨_,rfl,rfl,(ao rfl (aW hf rfl rfl rfl bA (aF (ag hD10 rfl rfl rfl))))⟩
   refine aM 6 #[true,true,true,false,false,false,false,true,false,false] ⟨35,[(3,.adr (evC e)),(4,.ref 4 0 0 0),(6,.ref 6 0 0 0),(22,.agg (eX s 222 223)),(23,.agg (evC e))],[(6,.box [.s (.int .i64 0),.s (.int .i64 0),.s (.slice none 0 0),.s (.slice none 0 0),.s (.slice none 0 0),.s (.slice none 0 0)]),(222,.buf 2 (s.usr.map usC)),(223,.buf 2 (s.tmb.map tmC)),(4,.box [.s (.int .i64 0),.s (.int .i64 0),.s (.slice none 0 0),.s (.slice none 0 0),.s (.slice none 0 0),.s (.slice none 0 0)])]⟩ ?_ (fun hD12=>?_)
   ·
    refine aG 3 [] (by kernel_rfl) ⟨?_,trivial⟩
    ·
     refine⟨_,rfl,rfl,(ao rfl (jC hf [(E0,222),(E1,223)] [(E0,222),(E1,223)] rfl rfl rfl rfl rfl rfl (by decide) (by decide) (by decide) rfl aHh (aOb s e hz hr hr2 (by simp_all)) ?_))⟩
     rintro r m1 ⟨rfl,rfl⟩
     rw[aM0]
     refine bD (cX [3,4,6,24] rfl) (aF (ag hD10 rfl rfl rfl))
   refine aM 7 #[true,true,true,false,false,false,false,false,false,false] ⟨35,[(3,.adr (evC e)),(4,.ref 4 0 0 0),(22,.agg (eX s 222 223)),(23,.agg (evC e))],[(222,.buf 2 (s.usr.map usC)),(223,.buf 2 (s.tmb.map tmC)),(4,.box [.s (.int .i64 0),.s (.int .i64 0),.s (.slice none 0 0),.s (.slice none 0 0),.s (.slice none 0 0),.s (.slice none 0 0)])]⟩ ?_ (fun hD13=>?_)
   ·
    refine aG 3 [7] (by kernel_rfl) ⟨?_,?_,trivial⟩
    ·
     refine⟨_,rfl,rfl,(ao rfl (jC hf [(E0,222),(E1,223)] [(E0,222),(E1,223)] rfl rfl rfl rfl rfl rfl (by decide) (by decide) (by decide) rfl aHh (aOb s e hz hr hr2 (by simp_all)) ?_))⟩
     rintro r m1 ⟨rfl,rfl⟩
     rw[aM0]
     refine bD (cX [3,4,24] rfl) (aF (ag hD11 rfl rfl rfl))
    ·
     refine⟨_,rfl,rfl,(ao rfl (aW hf rfl rfl rfl bA (aF (ag hD12 rfl rfl rfl))))⟩
   refine aM 7 #[true,true,false,false,false,false,false,true,false,false] ⟨35,[(3,.adr (evC e)),(4,.ref 4 0 0 0),(6,.ref 6 0 0 0),(22,.agg (eX s 222 223))],[(6,.box [.s (.int .i64 0),.s (.int .i64 0),.s (.slice none 0 0),.s (.slice none 0 0),.s (.slice none 0 0),.s (.slice none 0 0)]),(222,.buf 2 (s.usr.map usC)),(223,.buf 2 (s.tmb.map tmC)),(4,.box [.s (.int .i64 0),.s (.int .i64 0),.s (.slice none 0 0),.s (.slice none 0 0),.s (.slice none 0 0),.s (.slice none 0 0)])]⟩ ?_ (fun hD14=>?_)
   ·
    refine aG 2 [] (by kernel_rfl) ⟨?_,trivial⟩
    ·
     refine⟨_,rfl,rfl,(ao rfl (aE aA 1 rfl (aF (ag hD12 rfl rfl rfl))))⟩
   refine aM 7 #[true,false,true,false,false,false,false,true,false,false] ⟨35,[(3,.adr (evC e)),(4,.ref 4 0 0 0),(6,.ref 6 0 0 0),(21,.agg (aT s)),(23,.agg (evC e))],[(6,.box [.s (.int .i64 0),.s (.int .i64 0),.s (.slice none 0 0),.s (.slice none 0 0),.s (.slice none 0 0),.s (.slice none 0 0)]),(4,.box [.s (.int .i64 0),.s (.int .i64 0),.s (.slice none 0 0),.s (.slice none 0 0),.s (.slice none 0 0),.s (.slice none 0 0)])]⟩ ?_ (fun hD15=>?_)
   ·
    refine aG 1 [] (by kernel_rfl) ⟨?_,trivial⟩
    ·
     refine⟨_,rfl,rfl,(ao rfl (jC hf [] [(E0,222),(E1,223)] rfl rfl rfl rfl rfl rfl (by decide) (by decide) (by decide) rfl pC (nI s (hz.mono (by omega))) ?_))⟩
     rintro r m1 ⟨rfl,rfl⟩
     rw[tI]
     refine bD (cX [3,4,6,22,23] rfl) (aF (ag hD12 rfl rfl rfl))
   refine aM 8 #[true,true,false,false,false,false,false,false,false,false] ⟨35,[(3,.adr (evC e)),(4,.ref 4 0 0 0),(22,.agg (eX s 222 223))],[(222,.buf 2 (s.usr.map usC)),(223,.buf 2 (s.tmb.map tmC)),(4,.box [.s (.int .i64 0),.s (.int .i64 0),.s (.slice none 0 0),.s (.slice none 0 0),.s (.slice none 0 0),.s (.slice none 0 0)])]⟩ ?_ (fun hD16=>?_)
   ·
    refine aG 2 [7] (by kernel_rfl) ⟨?_,?_,trivial⟩
    ·
     refine⟨_,rfl,rfl,(ao rfl (aE aA 1 rfl (aF (ag hD13 rfl rfl rfl))))⟩
    ·
     refine⟨_,rfl,rfl,(ao rfl (aW hf rfl rfl rfl bA (aF (ag hD14 rfl rfl rfl))))⟩
   refine aM 8 #[true,false,true,false,false,false,false,false,false,false] ⟨35,[(3,.adr (evC e)),(4,.ref 4 0 0 0),(21,.agg (aT s)),(23,.agg (evC e))],[(4,.box [.s (.int .i64 0),.s (.int .i64 0),.s (.slice none 0 0),.s (.slice none 0 0),.s (.slice none 0 0),.s (.slice none 0 0)])]⟩ ?_ (fun hD17=>?_)
   ·
    refine aG 1 [7] (by kernel_rfl) ⟨?_,?_,trivial⟩
    ·
     refine⟨_,rfl,rfl,(ao rfl (jC hf [] [(E0,222),(E1,223)] rfl rfl rfl rfl rfl rfl (by decide) (by decide) (by decide) rfl pC (nI s (hz.mono (by omega))) ?_))⟩
     rintro r m1 ⟨rfl,rfl⟩
     rw[tI]
     refine bD (cX [3,4,22,23] rfl) (aF (ag hD13 rfl rfl rfl))
    ·
     refine⟨_,rfl,rfl,(ao rfl (aW hf rfl rfl rfl bA (aF (ag hD15 rfl rfl rfl))))⟩
   refine aM 8 #[true,false,false,false,false,false,false,true,false,false] ⟨35,[(3,.adr (evC e)),(4,.ref 4 0 0 0),(6,.ref 6 0 0 0),(21,.agg (aT s))],[(6,.box [.s (.int .i64 0),.s (.int .i64 0),.s (.slice none 0 0),.s (.slice none 0 0),.s (.slice none 0 0),.s (.slice none 0 0)]),(4,.box [.s (.int .i64 0),.s (.int .i64 0),.s (.slice none 0 0),.s (.slice none 0 0),.s (.slice none 0 0),.s (.slice none 0 0)])]⟩ ?_ (fun hD18=>?_)
   ·
    refine aG 1 [2] (by kernel_rfl) ⟨?_,?_,trivial⟩
    ·
     refine⟨_,rfl,rfl,(ao rfl (jC hf [] [(E0,222),(E1,223)] rfl rfl rfl rfl rfl rfl (by decide) (by decide) (by decide) rfl pC (nI s (hz.mono (by omega))) ?_))⟩
     rintro r m1 ⟨rfl,rfl⟩
     rw[tI]
     refine bD (cX [3,4,6,22] rfl) (aF (ag hD14 rfl rfl rfl))
    ·
     refine⟨_,rfl,rfl,(ao rfl (aE aA 1 rfl (aF (ag hD15 rfl rfl rfl))))⟩
   refine aM 8 #[false,false,true,false,false,false,false,true,false,false] ⟨35,[(2,.adr (aT s)),(3,.adr (evC e)),(4,.ref 4 0 0 0),(6,.ref 6 0 0 0),(23,.agg (evC e))],[(6,.box [.s (.int .i64 0),.s (.int .i64 0),.s (.slice none 0 0),.s (.slice none 0 0),.s (.slice none 0 0),.s (.slice none 0 0)]),(4,.box [.s (.int .i64 0),.s (.int .i64 0),.s (.slice none 0 0),.s (.slice none 0 0),.s (.slice none 0 0),.s (.slice none 0 0)])]⟩ ?_ (fun hD19=>?_)
   ·
    refine aG 0 [] (by kernel_rfl) ⟨?_,trivial⟩
    ·
     refine⟨_,rfl,rfl,(ao rfl (aE aA 1 rfl (aF (ag hD15 rfl rfl rfl))))⟩
   refine aM 9 #[true,false,false,false,false,false,false,false,false,false] ⟨35,[(3,.adr (evC e)),(4,.ref 4 0 0 0),(21,.agg (aT s))],[(4,.box [.s (.int .i64 0),.s (.int .i64 0),.s (.slice none 0 0),.s (.slice none 0 0),.s (.slice none 0 0),.s (.slice none 0 0)])]⟩ ?_ (fun hD20=>?_)
   ·
    refine aG 1 [2,7] (by kernel_rfl) ⟨?_,?_,?_,trivial⟩
    ·
     refine⟨_,rfl,rfl,(ao rfl (jC hf [] [(E0,222),(E1,223)] rfl rfl rfl rfl rfl rfl (by decide) (by decide) (by decide) rfl pC (nI s (hz.mono (by omega))) ?_))⟩
     rintro r m1 ⟨rfl,rfl⟩
     rw[tI]
     refine bD (cX [3,4,22] rfl) (aF (ag hD16 rfl rfl rfl))
    ·
     refine⟨_,rfl,rfl,(ao rfl (aE aA 1 rfl (aF (ag hD17 rfl rfl rfl))))⟩
    ·
     refine⟨_,rfl,rfl,(ao rfl (aW hf rfl rfl rfl bA (aF (ag hD18 rfl rfl rfl))))⟩
   refine aM 9 #[false,false,true,false,false,false,false,false,false,false] ⟨35,[(2,.adr (aT s)),(3,.adr (evC e)),(4,.ref 4 0 0 0),(23,.agg (evC e))],[(4,.box [.s (.int .i64 0),.s (.int .i64 0),.s (.slice none 0 0),.s (.slice none 0 0),.s (.slice none 0 0),.s (.slice none 0 0)])]⟩ ?_ (fun hD21=>?_)
   ·
    refine aG 0 [7] (by kernel_rfl) ⟨?_,?_,trivial⟩
    ·
     refine⟨_,rfl,rfl,(ao rfl (aE aA 1 rfl (aF (ag hD17 rfl rfl rfl))))⟩
    ·
     refine⟨_,rfl,rfl,(ao rfl (aW hf rfl rfl rfl bA (aF (ag hD19 rfl rfl rfl))))⟩
   refine aM 9 #[false,false,false,false,false,false,false,true,false,false] ⟨35,[(2,.adr (aT s)),(3,.adr (evC e)),(4,.ref 4 0 0 0),(6,.ref 6 0 0 0)],[(6,.box [.s (.int .i64 0),.s (.int .i64 0),.s (.slice none 0 0),.s (.slice none 0 0),.s (.slice none 0 0),.s (.slice none 0 0)]),(4,.box [.s (.int .i64 0),.s (.int .i64 0),.s (.slice none 0 0),.s (.slice none 0 0),.s (.slice none 0 0),.s (.slice none 0 0)])]⟩ ?_ (fun hD22=>?_)
   ·
    refine aG 0 [2] (by kernel_rfl) ⟨?_,?_,trivial⟩
    ·
     refine⟨_,rfl,rfl,(ao rfl (aE aA 1 rfl (aF (ag hD18 rfl rfl rfl))))⟩
    ·
     refine⟨_,rfl,rfl,(ao rfl (aE aA 1 rfl (aF (ag hD19 rfl rfl rfl))))⟩
   refine kQ (sX (sl':=[(2,.adr (aT s)),(3,.adr (evC e)),(4,.ref 4 0 0 0)]) (m':=[(4,.box [.s (.int .i64 0),.s (.int .i64 0),.s (.slice none 0 0),.s (.slice none 0 0),.s (.slice none 0 0),.s (.slice none 0 0)])]) rfl rfl rfl) (aG 0 [2,7] (by kernel_rfl) ⟨?_,?_,?_,trivial⟩)
   ·
    refine⟨_,rfl,rfl,(ao rfl (aE aA 1 rfl (aF (ag hD20 rfl rfl rfl))))⟩
   ·
    refine⟨_,rfl,rfl,(ao rfl (aE aA 1 rfl (aF (ag hD21 rfl rfl rfl))))⟩
   ·
    refine⟨_,rfl,rfl,(ao rfl (aW hf rfl rfl rfl bA (aF (ag hD22 rfl rfl rfl))))⟩
end Go.Proofs.YtpkanhklapfajaaGreat
set_option linter.unusedVariables false
set_option linter.unusedSimpArgs false
namespace Go.Proofs.YtpkanhklapfajaaGreat
open Go Go.Abs
end Go.Proofs.YtpkanhklapfajaaGreat
set_option linter.unusedVariables false
set_option linter.unusedSimpArgs false
namespace Go.Proofs.YtpkanhklapfajaaGreat
open Go Go.Abs
theorem aNb (s:Sta) (hz:SzS 140737488353280 s) :Den Tryz.prog 30 [.agg (aT s)]  (·=.agg (aT (mF s))):=by
 have z1:=hz.o
 have z2:=hz.u
 have z3:=hz.b
 have z4:=hz.t
 have hlm:(s.usr.map usC).length=s.usr.length:=List.length_map _
 refine aR Tryz.func30 rfl (Nat.le_of_ble_eq_true rfl) (fun w0 A hf=>(aC (fun K1 hK1=>(aB (vI hf rfl rfl rfl rfl (l1 rfl) ?_)))))
 refine aW hf rfl rfl rfl bA (aD (hK1 _ (aC (fun K2 hK2=>(aB (aE aA 1 rfl (jC hf [] [(E0,222),(E1,223)] rfl rfl rfl rfl rfl rfl (by decide) (by decide) (by decide) rfl pC (nI s (hz.mono (by omega))) ?_)))))))
 rintro r m1 ⟨rfl,rfl⟩
 rw[tI]
 refine bD (cJ (sl':=[(1,.ref 1 0 0 0),(2,.ref 2 0 0 0),(8,.agg (eX s 222 223))]) (m':=[(222,.buf 2 (s.usr.map usC)),(223,.buf 2 (s.tmb.map tmC)),(2,.box [.s (.int .i64 0),.s (.int .i64 0),.s (.slice none 0 0),.s (.slice none 0 0),.s (.slice none 0 0),.s (.slice none 0 0)]),(1,.box (aT s))]) ⟨rfl,rfl,rfl,trivial⟩ rfl) (bB hf rfl rfl cG rfl rfl (l1 rfl) (l4 rfl) rfl (aD (hK2 _ (aC (fun K3 hK3=>(aB (mC hf 2 rfl rfl rfl (aD (hK3 _ (aC (fun K4 hK4=>(aC (fun K5 hK5=>(aB (aE aA 4 rfl ?_)))))))))))))))
 refine aD (hK5 _ (aP (bT (ι:=Nat) (fun k=>⟨41,[(1,.ref 1 0 0 0),(2,.ref 2 0 0 0),(3,.own 3 2 0 (jM s.hor (s.usr.take k)).length),(10,.own 222 2 0 (s.usr.map usC).length),(11,.s (.int .i64 ((s.usr.map usC).length:Nat))),(12,.s (.int .i64 (k:Nat)))],[(3,.buf 2 ((jM s.hor (s.usr.take k)).map usC)),(222,.buf 2 (s.usr.map usC)),(223,.buf 2 (s.tmb.map tmC)),(2,.box [.s (.int .i64 0),.s (.int .i64 0),.s (.slice none 0 0),.s (.slice none 0 0),.s (.slice none 0 0),.s (.slice none 0 0)]),(1,.box (eX s 222 223))]⟩) (fun k=>k≤s.usr.length) (fun k=>s.usr.length - k) 0 ?_ ?_ ?_)))
 · exact Nat.zero_le _
 · exact cJ ⟨rfl,rfl,rfl,rfl,rfl,rfl,trivial⟩ rfl
 ·
  rintro k hC
  refine aC (fun K6 hK6=>(aB (aE aA 1 rfl (aD (hK6 _ (aC (fun K7 hK7=>(aL rfl (fun hc1=>?_) (fun hc1=>?_)))))))))
  ·
   simp only[bs] at hc1
   refine aN (hK7 _ (aC (fun K8 hK8=>(aP (aC (fun K9 hK9=>(aB ?_)))))))
   have hk:k<s.usr.length:=by omega
   have hpl:=zG s.hor (s.usr.take k)
   have htl:(s.usr.take k).length=k:=by rw[List.length_take]; omega
   refine aH rfl (cB rfl rfl fJ eG (by omega)) (aH rfl (cD rfl aO0 eG rfl (qK (by omega) hk rfl) (nV (by omega) hk rfl)) (bY hf rfl oG rfl eG rfl rfl rfl rfl (lf rfl) (aD (hK9 _ (aC (fun K10 hK10=>(aB (aE aA 4 rfl (aI hf rfl (aK rfl rfl aSw rfl (aR5 s.usr[k].2 s.hor (by have:=hz.y _ (List.getElem_mem hk); omega))) ?_)))))))))
   refine aE aA 1 rfl (aD (hK10 _ (aC (fun K11 hK11=>(aB (aE aA 3 rfl (aD (hK11 _ (aL rfl (fun hc2=>?_) (fun hc2=>?_))))))))))
   ·
    simp only[bs] at hc2
    have hne:¬ gM s.hor s.usr[k].2=[]:=fun h=>by
     have h2:(gM s.hor s.usr[k].2).length=0:=by rw[h]; rfl
     simp only[gM,List.length_map] at *
     omega
    refine aB (aE aA 4 rfl (aH rfl (bR rfl oG yD (l3 rfl) rfl) (aI hf rfl (aS iH rfl rfl rfl rfl (l2 rfl)) (bH hf rfl iH rfl rfl rfl (.inl rfl) (by rw[List.length_map]) rfl (by first | rfl | simp [eK,bL]) (by first | (simp only[maxLen,List.length_map,List.length_append,List.length_cons,List.length_nil]; omega) | (simp [maxLen] <;> omega)) (by first | (simp only[List.length_map,List.length_append,List.length_cons,List.length_nil]; omega) | (simp <;> omega)) ?_))))
    refine bD (cX [1,2,10,11,12,30] rfl) (aE aA 1 rfl ?_)
    refine bS ?_
    refine hK8 _ (aB ?_)
    refine aH rfl (bO rfl rfl (by omega) (by omega)) ?_
    refine aE aA 1 rfl (aD ?_)
    exact⟨k+1,by omega,by omega,cJ ⟨rfl,rfl,(by rw[sH hk,nO,if_neg hne,List.length_append]; rfl),rfl,rfl,rfl,trivial⟩ (by rw[sH hk,nO,if_neg hne,List.map_append]; rfl)⟩
   ·
    simp only[bs] at hc2
    have hem:gM s.hor s.usr[k].2=[]:=List.eq_nil_of_length_eq_zero (by simp only[gM,List.length_map] at *; omega)
    refine aN (hK8 _ (aB ?_))
    refine aH rfl (bO rfl rfl (by omega) (by omega)) ?_
    refine aE aA 1 rfl (aD ?_)
    exact⟨k+1,by omega,by omega,cJ ⟨rfl,rfl,(by rw[sH hk,nO,if_pos hem,List.append_nil]; rfl),rfl,rfl,rfl,trivial⟩ (by rw[sH hk,nO,if_pos hem,List.append_nil])⟩
  ·
   simp only[bs] at hc1
   refine bF (hK4 _ (aC (fun K12 hK12=>(aB (aE aA 5 rfl (aI hf rfl (aK rfl rfl aSv rfl (aV7 s.sub s.hor (by omega))) (aE aA 1 rfl (bB hf rfl rfl mR rfl rfl (l1 rfl) (l4 rfl) rfl (aE aA 1 rfl (bB hf rfl rfl mQ rfl rfl (l1 rfl) (l4 rfl) rfl (aD (hK12 _ (aC (fun K13 hK13=>?_))))))))))))))
   refine aB (aH rfl (cD (cs':=[.s (.int .i64 s.now),.s (.int .i64 s.hor),.sl 4 (s.opn.map seC),.own 3 2 0 (jM s.hor (s.usr.take k)).length,.sl 4 ((s.sub.filter fun e=>!decide (e.2.2≤s.hor)).map enC),.own 223 2 0 (s.tmb.map tmC).length]) rfl oH cG rfl rfl rfl) (bB hf rfl rfl cG rfl rfl (l1 rfl) (l4 rfl) rfl (aD (hK13 _ (aJ ?_)))))
   refine⟨_,rfl,?_⟩
   show AV.agg [_,_,_,AV.conv _ (.own 3 2 0 (jM s.hor (s.usr.take k)).length),_,AV.conv _ (.own 223 2 0 (s.tmb.map tmC).length)]=_
   rw[cI (g:=3) rfl (by rw[List.length_map]),cI (g:=223) rfl rfl,List.take_of_length_le (by omega)]; rfl
end Go.Proofs.YtpkanhklapfajaaGreat
set_option linter.unusedVariables false
set_option linter.unusedSimpArgs false
namespace Go.Proofs.YtpkanhklapfajaaGreat
open Go Go.Abs
theorem aKj (l:List Se) (hl:l.length≤9223372036854775807) (ht:∀ e∈l,TS e.1.2) :Den Tryz.prog 84 [.sl 4 (l.map seC)]  (·=.s (.bool (gX l))):=by
 refine aR Tryz.func84 rfl (Nat.le_of_ble_eq_true rfl) (fun w0 A hf=>(aC (fun K1 hK1=>(aB (aE aA 1 rfl (aD (hK1 _ (aC (fun K2 hK2=>(aC (fun K3 hK3=>(aB (aE aA 3 rfl (aD (hK3 _ (aP ?_))))))))))))))))
 refine bT (ι:=Nat) (fun k=>⟨52,[(0,.sl 4 (l.map seC)),(6,.sl 4 (l.map seC)),(7,.s (.int .i64 ((l.map seC).length:Nat))),(8,.s (.int .i64 (k:Nat)))],[]⟩) (fun k=>k≤l.length∧nP fW hU none l=nP fW hU (iV l k) (l.drop k)) (fun k=>l.length - k) 0 ?_ ?_ ?_
 · exact⟨Nat.zero_le _,rfl⟩
 · exact cQ rfl
 ·
  rintro k hC
  obtain ⟨h1,h2⟩:=hC
  refine aC (fun K4 hK4=>(aB (aE aA 1 rfl (aD (hK4 _ (aC (fun K5 hK5=>(aL rfl (fun hc1=>?_) (fun hc1=>?_)))))))))
  ·
   simp only[bs] at hc1
   refine aN (hK5 _ (aC (fun K6 hK6=>(aP (aC (fun K7 hK7=>(aB (aE aA 1 rfl ?_))))))))
   refine aH rfl (bG rfl rfl fD dJ (by first | exact ixm (by omega) | assumption | exact⟨by decide,rfl⟩)) ?_
   refine aE aA 1 rfl (aW hf rfl rfl rfl qY (aE aA 1 rfl (bB hf rfl rfl dJ rfl rfl (l1 rfl) (l4 rfl) rfl (bD (pH (nee 4) (sl':=[(0,_),(3,_),(4,_),(6,_),(7,_),(8,_)]) (m':=[]) ⟨⟨_,rfl,rfl⟩,⟨_,rfl,rfl⟩,⟨_,rfl,rfl⟩,⟨_,rfl,rfl⟩,⟨_,rfl,rfl⟩,⟨_,rfl,rfl⟩,trivial⟩ rfl) (aD (hK7 _ (aC (fun K8 hK8=>(aB (aE aA 2 rfl (aI hf rfl (aK rfl rfl kK rfl (Nm.right_den _ (ht _ (List.getElem_mem _)))) (aE aA 1 rfl (aU rfl rfl rfl (fun hg2=>?_) (fun hg2=>?_))))))))))))))
   ·
    refine aH rfl (bM rfl aLz cA rfl) ?_
    refine aE aA 1 rfl (aX rfl rfl rfl (aI hf rfl (aK rfl rfl xH rfl (yW _ _ _)) (aE aA 2 rfl (aU rfl rfl rfl (fun hg3=>?_) (fun hg3=>?_)))))
    ·
     simp only[bs] at hg3
     refine aH rfl (bM rfl aLy cA rfl) ?_
     refine aE aA 1 rfl (aX rfl rfl rfl (aI hf rfl (aK rfl rfl xH rfl (yW _ _ _)) (aE aA 2 rfl (aU rfl rfl rfl (fun hg4=>?_) (fun hg4=>?_)))))
     ·
      simp only[bs] at hg4
      refine aH rfl (bM rfl aLx cA rfl) ?_
      refine aE aA 1 rfl (aX rfl rfl rfl (aI hf rfl (aK rfl rfl xH rfl (yW _ _ _)) (aE aA 2 rfl (aD (hK8 _ (aC (fun K9 hK9=>(cP hf bE (by kernel_rfl) rfl (aV aA 3 rfl (fC 33 false rfl (fun hg5=>?_) (fun hg5=>?_)))))))))))
      ·
       simp only[bs] at hg5
       refine aV aA 3 rfl (fC 36 true rfl (fun hg6=>?_) (fun hg6=>?_))
       ·
        simp only[bs] at hg6
        refine aV aA 2 rfl ?_
        refine bQ [(38,_)] rfl rfl ⟨⟨rfl,rfl⟩,trivial⟩ rfl (eZ rfl rfl (by omega) (by omega)) ?_
        refine bQ [(37,_),(39,_)] rfl rfl ⟨⟨rfl,rfl⟩,⟨rfl,rfl⟩,trivial⟩ rfl (bG rfl rfl fD dJ (hY (k:=k - 1) (by omega) (by omega))) (aV aA 7 rfl (cT [0,6,7,8,47] rfl rfl rfl (hK9 _ (aL rfl (fun hc7=>?_) (fun hc7=>?_)))))
        ·
         simp only[bs] at hc7
         refine aC (fun K10 hK10=>(aB (aE aA 1 rfl (aD (hK10 _ (aJ ?_))))))
         refine⟨_,rfl,?_⟩
         refine aO ?_
         first | (rw[gX,fM h2 (by omega) (show fW l[k]=false from by
          unfold fW
          rw[Bool.eq_false_iff]
          simp only[ne_eq,Bool.and_eq_true,decide_eq_true_eq]
          rintro ⟨q1,⟨⟨q2,q3⟩,⟨q4,q5⟩⟩,q6,q7⟩
          first | omega | (simp_all; done) | (simp_all; omega))]; rfl) | (rw[gX,fV h2 (by omega) (by omega) (show hU _ _=false from by simp only[hU,decide_eq_false_iff_not]; omega)]; rfl)
        ·
         simp only[bs] at hc7
         refine aN (hK6 _ (aB ?_))
         refine aH rfl (bO rfl rfl (by omega) (by omega)) ?_
         refine aE aA 1 rfl (aD ?_)
         exact⟨k+1,⟨by omega,gF h2 (by omega) (show fW l[k]=true from by
          unfold fW
          simp only[Bool.and_eq_true,decide_eq_true_eq]
          exact⟨by first | assumption | (simp_all; done),⟨⟨by omega,by omega⟩,by omega,by omega⟩,by omega,by omega⟩) (fun h0=>by simp only[hU,decide_eq_true_eq]; omega)⟩,by omega,cQ rfl⟩
       ·
        simp only[bs] at hg6
        refine aV aA 11 rfl (cT [0,6,7,8,47] rfl rfl rfl (hK9 _ (bW rfl (aN (hK6 _ (aB ?_))))))
        refine aH rfl (bO rfl rfl (by omega) (by omega)) ?_
        refine aE aA 1 rfl (aD ?_)
        exact⟨k+1,⟨by omega,gF h2 (by omega) (show fW l[k]=true from by
         unfold fW
         simp only[Bool.and_eq_true,decide_eq_true_eq]
         exact⟨by first | assumption | (simp_all; done),⟨⟨by omega,by omega⟩,by omega,by omega⟩,by omega,by omega⟩) (fun h0=>by simp only[hU,decide_eq_true_eq]; omega)⟩,by omega,cQ rfl⟩
      ·
       simp only[bs] at hg5
       refine aV aA 3 rfl (aZ rfl rfl ?_)
       refine aZ rfl rfl ?_
       refine aZ rfl rfl ?_
       refine aZ rfl rfl ?_
       refine aZ rfl rfl ?_
       refine aZ rfl rfl ?_
       refine aZ rfl rfl ?_
       refine aZ rfl rfl ?_
       refine aZ rfl rfl ?_
       refine aV aA 2 rfl (cT [0,6,7,8,47] rfl rfl rfl (hK9 _ (bN rfl (aC (fun K11 hK11=>(aB (aE aA 1 rfl (aD (hK11 _ (aJ ?_))))))))))
       refine⟨_,rfl,?_⟩
       refine aO ?_
       first | (rw[gX,fM h2 (by omega) (show fW l[k]=false from by
        unfold fW
        rw[Bool.eq_false_iff]
        simp only[ne_eq,Bool.and_eq_true,decide_eq_true_eq]
        rintro ⟨q1,⟨⟨q2,q3⟩,⟨q4,q5⟩⟩,q6,q7⟩
        first | omega | (simp_all; done) | (simp_all; omega))]; rfl) | (rw[gX,fV h2 (by omega) (by omega) (show hU _ _=false from by simp only[hU,decide_eq_false_iff_not]; omega)]; rfl)
     ·
      simp only[bs] at hg4
      refine aE aA 4 rfl (aD (hK8 _ (aC (fun K12 hK12=>(cP hf bE (by kernel_rfl) rfl (aV aA 6 rfl (aZ rfl rfl ?_)))))))
      refine aZ rfl rfl ?_
      refine aZ rfl rfl ?_
      refine aZ rfl rfl ?_
      refine aZ rfl rfl ?_
      refine aZ rfl rfl ?_
      refine aZ rfl rfl ?_
      refine aZ rfl rfl ?_
      refine aZ rfl rfl ?_
      refine aV aA 2 rfl (cT [0,6,7,8,47] rfl rfl rfl (hK12 _ (bN rfl (aC (fun K13 hK13=>(aB (aE aA 1 rfl (aD (hK13 _ (aJ ?_))))))))))
      refine⟨_,rfl,?_⟩
      refine aO ?_
      first | (rw[gX,fM h2 (by omega) (show fW l[k]=false from by
       unfold fW
       rw[Bool.eq_false_iff]
       simp only[ne_eq,Bool.and_eq_true,decide_eq_true_eq]
       rintro ⟨q1,⟨⟨q2,q3⟩,⟨q4,q5⟩⟩,q6,q7⟩
       first | omega | (simp_all; done) | (simp_all; omega))]; rfl) | (rw[gX,fV h2 (by omega) (by omega) (show hU _ _=false from by simp only[hU,decide_eq_false_iff_not]; omega)]; rfl)
    ·
     simp only[bs] at hg3
     refine aE aA 9 rfl (aD (hK8 _ (aC (fun K14 hK14=>(cP hf bE (by kernel_rfl) rfl (aV aA 6 rfl (aZ rfl rfl ?_)))))))
     refine aZ rfl rfl ?_
     refine aZ rfl rfl ?_
     refine aZ rfl rfl ?_
     refine aZ rfl rfl ?_
     refine aZ rfl rfl ?_
     refine aZ rfl rfl ?_
     refine aZ rfl rfl ?_
     refine aZ rfl rfl ?_
     refine aV aA 2 rfl (cT [0,6,7,8,47] rfl rfl rfl (hK14 _ (bN rfl (aC (fun K15 hK15=>(aB (aE aA 1 rfl (aD (hK15 _ (aJ ?_))))))))))
     refine⟨_,rfl,?_⟩
     refine aO ?_
     first | (rw[gX,fM h2 (by omega) (show fW l[k]=false from by
      unfold fW
      rw[Bool.eq_false_iff]
      simp only[ne_eq,Bool.and_eq_true,decide_eq_true_eq]
      rintro ⟨q1,⟨⟨q2,q3⟩,⟨q4,q5⟩⟩,q6,q7⟩
      first | omega | (simp_all; done) | (simp_all; omega))]; rfl) | (rw[gX,fV h2 (by omega) (by omega) (show hU _ _=false from by simp only[hU,decide_eq_false_iff_not]; omega)]; rfl)
   ·
    simp only[bs] at hg2
    refine aE aA 14 rfl (aD (hK8 _ (aC (fun K16 hK16=>(cP hf bE (by kernel_rfl) rfl (aV aA 6 rfl (aZ rfl rfl ?_)))))))
    refine aZ rfl rfl ?_
    refine aZ rfl rfl ?_
    refine aZ rfl rfl ?_
    refine aZ rfl rfl ?_
    refine aZ rfl rfl ?_
    refine aZ rfl rfl ?_
    refine aZ rfl rfl ?_
    refine aZ rfl rfl ?_
    refine aV aA 2 rfl (cT [0,6,7,8,47] rfl rfl rfl (hK16 _ (bN rfl (aC (fun K17 hK17=>(aB (aE aA 1 rfl (aD (hK17 _ (aJ ?_))))))))))
    refine⟨_,rfl,?_⟩
    refine aO ?_
    first | (rw[gX,fM h2 (by omega) (show fW l[k]=false from by
     unfold fW
     rw[Bool.eq_false_iff]
     simp only[ne_eq,Bool.and_eq_true,decide_eq_true_eq]
     rintro ⟨q1,⟨⟨q2,q3⟩,⟨q4,q5⟩⟩,q6,q7⟩
     first | omega | (simp_all; done) | (simp_all; omega))]; rfl) | (rw[gX,fV h2 (by omega) (by omega) (show hU _ _=false from by simp only[hU,decide_eq_false_iff_not]; omega)]; rfl)
  ·
   simp only[bs] at hc1
   refine bF (hK2 _ (aC (fun K18 hK18=>(aB (aE aA 4 rfl (aD (hK18 _ (aJ ?_))))))))
   refine⟨_,rfl,?_⟩
   refine aO ?_
   rw[gX,pP h2 (by omega),Bool.true_and,Bool.eq_iff_iff]
   simp only[decide_eq_true_eq,List.length_map]
   omega
theorem aEc (l:List Se) (hl:l.length≤9223372036854775807) (ht:∀ e∈l,TS e.1.2) :Den Tryz.prog 37 [.sl 4 (l.map seC)]  (·=.s (.bool (gX l))):=by
 refine aR Tryz.func37 rfl (Nat.le_of_ble_eq_true rfl) (fun w0 A hf=>(aC (fun K1 hK1=>(aB (aE aA 1 rfl (aD (hK1 _ (aC (fun K2 hK2=>(aC (fun K3 hK3=>(aB (aE aA 3 rfl (aD (hK3 _ (aL rfl (fun hc1=>?_) (fun hc1=>?_)))))))))))))))))
 ·
  simp only[bs] at hc1
  refine aC (fun K4 hK4=>(aB (aE aA 1 rfl (aD (hK4 _ (aJ ?_))))))
  refine⟨_,rfl,?_⟩
  refine aO ?_
  rw[gX,show decide (l.length≤16)=false from by simp only[decide_eq_false_iff_not]; omega,Bool.and_false]
 ·
  simp only[bs] at hc1
  refine aN (hK2 _ (aC (fun K5 hK5=>(aC (fun K6 hK6=>(aB (aE aA 1 rfl (aD (hK6 _ (aP (bT (ι:=Nat) (fun k=>⟨65,[(0,.sl 4 (l.map seC)),(3,.s (.int .i64 (k:Nat)))],[]⟩) (fun k=>k≤l.length∧nP fW hU none l=nP fW hU (iV l k) (l.drop k)) (fun k=>l.length - k) 0 ?_ ?_ ?_)))))))))))
  · exact⟨Nat.zero_le _,rfl⟩
  · exact cQ rfl
  ·
   rintro k hC
   obtain ⟨h1,h2⟩:=hC
   refine aC (fun K7 hK7=>(aC (fun K8 hK8=>(aB (aE aA 4 rfl (aD (hK8 _ (aL rfl (fun hc2=>?_) (fun hc2=>?_)))))))))
   ·
    simp only[bs] at hc2
    refine aN (hK7 _ (aC (fun K9 hK9=>(aP (aC (fun K10 hK10=>(aB (aE aA 2 rfl ?_))))))))
    refine aH rfl (bG rfl rfl tU qC (by first | exact ixm (by omega) | assumption | exact⟨by decide,rfl⟩)) ?_
    refine aE aA 1 rfl (bY hf rfl aOy rfl qC rfl rfl rfl rfl (lf rfl) (aD (hK10 _ (aC (fun K11 hK11=>(aC (fun K12 hK12=>(aB (aE aA 2 rfl (aI hf rfl (aK rfl rfl lP rfl (Nm.refRight_den _ (ht _ (List.getElem_mem _)))) (aE aA 2 rfl (aU rfl rfl rfl (fun hg3=>?_) (fun hg3=>?_)))))))))))))
    ·
     simp only[bs] at hg3
     refine aH rfl (bM rfl aDd cA rfl) ?_
     refine aE aA 4 rfl (aU rfl rfl rfl (fun hg4=>?_) (fun hg4=>?_))
     ·
      simp only[bs] at hg4
      refine aH rfl (bM rfl aDd cA rfl) ?_
      refine aE aA 4 rfl (aU rfl rfl rfl (fun hg5=>?_) (fun hg5=>?_))
      ·
       simp only[bs] at hg5
       refine aH rfl (bM rfl aDc cA rfl) ?_
       refine aE aA 4 rfl (aU rfl rfl rfl (fun hg6=>?_) (fun hg6=>?_))
       ·
        simp only[bs] at hg6
        refine aH rfl (bM rfl aDc cA rfl) ?_
        refine aE aA 4 rfl (aU rfl rfl rfl (fun hg7=>?_) (fun hg7=>?_))
        ·
         simp only[bs] at hg7
         refine aH rfl (bM rfl aDb cA rfl) ?_
         refine aE aA 4 rfl (aU rfl rfl rfl (fun hg8=>?_) (fun hg8=>?_))
         ·
          simp only[bs] at hg8
          refine aH rfl (bM rfl aDb cA rfl) ?_
          refine aE aA 3 rfl (aD (hK12 _ (aL rfl (fun hc9=>?_) (fun hc9=>?_))))
          ·
           simp only[bs] at hc9
           refine aC (fun K13 hK13=>(aB (aE aA 1 rfl (aD (hK13 _ (aJ ?_))))))
           refine⟨_,rfl,?_⟩
           refine aO ?_
           first | (rw[gX,fM h2 (by omega) (show fW l[k]=false from by
            unfold fW
            rw[Bool.eq_false_iff]
            simp only[ne_eq,Bool.and_eq_true,decide_eq_true_eq]
            rintro ⟨q1,⟨⟨q2,q3⟩,⟨q4,q5⟩⟩,q6,q7⟩
            first | omega | (simp_all; done) | (simp_all; omega))]; rfl) | (rw[gX,fV h2 (by omega) (by omega) (show hU _ _=false from by simp only[hU,decide_eq_false_iff_not]; omega)]; rfl)
          ·
           simp only[bs] at hc9
           refine aN (hK11 _ (aC (fun K14 hK14=>(cP hf bE (by kernel_rfl) rfl (aV aA 3 rfl (fC 54 true rfl (fun hg10=>?_) (fun hg10=>?_)))))))
           ·
            simp only[bs] at hg10
            refine aV aA 2 rfl ?_
            refine bQ [(56,_)] rfl rfl ⟨⟨rfl,rfl⟩,trivial⟩ rfl (eZ rfl rfl (by omega) (by omega)) ?_
            refine bQ [(55,_),(57,_)] rfl rfl ⟨⟨rfl,rfl⟩,⟨rfl,rfl⟩,trivial⟩ rfl (bG rfl rfl tU qC (hY (k:=k - 1) (by omega) (by omega))) (aV aA 6 rfl (cT [0,3,64] rfl rfl rfl (hK14 _ (aL rfl (fun hc11=>?_) (fun hc11=>?_)))))
            ·
             simp only[bs] at hc11
             refine aC (fun K15 hK15=>(aB (aE aA 1 rfl (aD (hK15 _ (aJ ?_))))))
             refine⟨_,rfl,?_⟩
             refine aO ?_
             first | (rw[gX,fM h2 (by omega) (show fW l[k]=false from by
              unfold fW
              rw[Bool.eq_false_iff]
              simp only[ne_eq,Bool.and_eq_true,decide_eq_true_eq]
              rintro ⟨q1,⟨⟨q2,q3⟩,⟨q4,q5⟩⟩,q6,q7⟩
              first | omega | (simp_all; done) | (simp_all; omega))]; rfl) | (rw[gX,fV h2 (by omega) (by omega) (show hU _ _=false from by simp only[hU,decide_eq_false_iff_not]; omega)]; rfl)
            ·
             simp only[bs] at hc11
             refine aN (hK9 _ (aB (aE aA 1 rfl ?_)))
             refine aH rfl (bO rfl rfl (by omega) (by omega)) ?_
             refine aE aA 1 rfl (aD ?_)
             exact⟨k+1,⟨by omega,gF h2 (by omega) (show fW l[k]=true from by
              unfold fW
              simp only[Bool.and_eq_true,decide_eq_true_eq]
              exact⟨by first | assumption | (simp_all; done),⟨⟨by omega,by omega⟩,by omega,by omega⟩,by omega,by omega⟩) (fun h0=>by simp only[hU,decide_eq_true_eq]; omega)⟩,by omega,cQ rfl⟩
           ·
            simp only[bs] at hg10
            refine aV aA 10 rfl (cT [0,3,64] rfl rfl rfl (hK14 _ (bW rfl (aN (hK9 _ (aB (aE aA 1 rfl ?_)))))))
            refine aH rfl (bO rfl rfl (by omega) (by omega)) ?_
            refine aE aA 1 rfl (aD ?_)
            exact⟨k+1,⟨by omega,gF h2 (by omega) (show fW l[k]=true from by
             unfold fW
             simp only[Bool.and_eq_true,decide_eq_true_eq]
             exact⟨by first | assumption | (simp_all; done),⟨⟨by omega,by omega⟩,by omega,by omega⟩,by omega,by omega⟩) (fun h0=>by simp only[hU,decide_eq_true_eq]; omega)⟩,by omega,cQ rfl⟩
         ·
          simp only[bs] at hg8
          refine aE aA 3 rfl (aD (hK12 _ (bN rfl (aC (fun K16 hK16=>(aB (aE aA 1 rfl (aD (hK16 _ (aJ ?_))))))))))
          refine⟨_,rfl,?_⟩
          refine aO ?_
          first | (rw[gX,fM h2 (by omega) (show fW l[k]=false from by
           unfold fW
           rw[Bool.eq_false_iff]
           simp only[ne_eq,Bool.and_eq_true,decide_eq_true_eq]
           rintro ⟨q1,⟨⟨q2,q3⟩,⟨q4,q5⟩⟩,q6,q7⟩
           first | omega | (simp_all; done) | (simp_all; omega))]; rfl) | (rw[gX,fV h2 (by omega) (by omega) (show hU _ _=false from by simp only[hU,decide_eq_false_iff_not]; omega)]; rfl)
        ·
         simp only[bs] at hg7
         refine aE aA 8 rfl (aD (hK12 _ (bN rfl (aC (fun K17 hK17=>(aB (aE aA 1 rfl (aD (hK17 _ (aJ ?_))))))))))
         refine⟨_,rfl,?_⟩
         refine aO ?_
         first | (rw[gX,fM h2 (by omega) (show fW l[k]=false from by
          unfold fW
          rw[Bool.eq_false_iff]
          simp only[ne_eq,Bool.and_eq_true,decide_eq_true_eq]
          rintro ⟨q1,⟨⟨q2,q3⟩,⟨q4,q5⟩⟩,q6,q7⟩
          first | omega | (simp_all; done) | (simp_all; omega))]; rfl) | (rw[gX,fV h2 (by omega) (by omega) (show hU _ _=false from by simp only[hU,decide_eq_false_iff_not]; omega)]; rfl)
       ·
        simp only[bs] at hg6
        refine aE aA 13 rfl (aD (hK12 _ (bN rfl (aC (fun K18 hK18=>(aB (aE aA 1 rfl (aD (hK18 _ (aJ ?_))))))))))
        refine⟨_,rfl,?_⟩
        refine aO ?_
        first | (rw[gX,fM h2 (by omega) (show fW l[k]=false from by
         unfold fW
         rw[Bool.eq_false_iff]
         simp only[ne_eq,Bool.and_eq_true,decide_eq_true_eq]
         rintro ⟨q1,⟨⟨q2,q3⟩,⟨q4,q5⟩⟩,q6,q7⟩
         first | omega | (simp_all; done) | (simp_all; omega))]; rfl) | (rw[gX,fV h2 (by omega) (by omega) (show hU _ _=false from by simp only[hU,decide_eq_false_iff_not]; omega)]; rfl)
      ·
       simp only[bs] at hg5
       refine aE aA 18 rfl (aD (hK12 _ (bN rfl (aC (fun K19 hK19=>(aB (aE aA 1 rfl (aD (hK19 _ (aJ ?_))))))))))
       refine⟨_,rfl,?_⟩
       refine aO ?_
       first | (rw[gX,fM h2 (by omega) (show fW l[k]=false from by
        unfold fW
        rw[Bool.eq_false_iff]
        simp only[ne_eq,Bool.and_eq_true,decide_eq_true_eq]
        rintro ⟨q1,⟨⟨q2,q3⟩,⟨q4,q5⟩⟩,q6,q7⟩
        first | omega | (simp_all; done) | (simp_all; omega))]; rfl) | (rw[gX,fV h2 (by omega) (by omega) (show hU _ _=false from by simp only[hU,decide_eq_false_iff_not]; omega)]; rfl)
     ·
      simp only[bs] at hg4
      refine aE aA 23 rfl (aD (hK12 _ (bN rfl (aC (fun K20 hK20=>(aB (aE aA 1 rfl (aD (hK20 _ (aJ ?_))))))))))
      refine⟨_,rfl,?_⟩
      refine aO ?_
      first | (rw[gX,fM h2 (by omega) (show fW l[k]=false from by
       unfold fW
       rw[Bool.eq_false_iff]
       simp only[ne_eq,Bool.and_eq_true,decide_eq_true_eq]
       rintro ⟨q1,⟨⟨q2,q3⟩,⟨q4,q5⟩⟩,q6,q7⟩
       first | omega | (simp_all; done) | (simp_all; omega))]; rfl) | (rw[gX,fV h2 (by omega) (by omega) (show hU _ _=false from by simp only[hU,decide_eq_false_iff_not]; omega)]; rfl)
    ·
     simp only[bs] at hg3
     refine aE aA 28 rfl (aD (hK12 _ (bN rfl (aC (fun K21 hK21=>(aB (aE aA 1 rfl (aD (hK21 _ (aJ ?_))))))))))
     refine⟨_,rfl,?_⟩
     refine aO ?_
     first | (rw[gX,fM h2 (by omega) (show fW l[k]=false from by
      unfold fW
      rw[Bool.eq_false_iff]
      simp only[ne_eq,Bool.and_eq_true,decide_eq_true_eq]
      rintro ⟨q1,⟨⟨q2,q3⟩,⟨q4,q5⟩⟩,q6,q7⟩
      first | omega | (simp_all; done) | (simp_all; omega))]; rfl) | (rw[gX,fV h2 (by omega) (by omega) (show hU _ _=false from by simp only[hU,decide_eq_false_iff_not]; omega)]; rfl)
   ·
    simp only[bs] at hc2
    refine bF (hK5 _ (aC (fun K22 hK22=>(aB (aE aA 1 rfl (aD (hK22 _ (aJ ?_))))))))
    refine⟨_,rfl,?_⟩
    refine aO ?_
    rw[gX,pP h2 (by omega),show decide (l.length≤16)=true from by simp only[decide_eq_true_eq]; omega]; rfl
end Go.Proofs.YtpkanhklapfajaaGreat
set_option linter.unusedVariables false
set_option linter.unusedSimpArgs false
namespace Go.Proofs.YtpkanhklapfajaaGreat
open Go Go.Abs
theorem aL9 (l:List Us) (hl:l.length≤9223372036854775807) (ht:∀ x∈l,TS x.1) :Den Tryz.prog 85 [.sl 2 (l.map usC),.fn 86 []]  (·=.s (.bool (oK cM l))):=by
 refine aR Tryz.func85 rfl (Nat.le_of_ble_eq_true rfl) (fun w0 A hf=>(aC (fun K1 hK1=>(aB (aE aA 1 rfl (aD (hK1 _ (aC (fun K2 hK2=>(aC (fun K3 hK3=>(aB (aE aA 3 rfl (aD (hK3 _ (aP ?_))))))))))))))))
 refine bT (ι:=Nat) (fun k=>⟨38,[(0,.sl 2 (l.map usC)),(1,.fn 86 []),(7,.sl 2 (l.map usC)),(8,.s (.int .i64 (((l.map usC)).length:Nat))),(9,.s (.int .i64 (k:Nat)))],[]⟩) (fun k=>k≤l.length∧oK cM l=nP (fun x=>cF (cM x)) (nxK cM) (iV l k) (l.drop k)) (fun k=>l.length - k) 0 ?_ ?_ ?_
 · exact⟨Nat.zero_le _,rfl⟩
 · exact cQ rfl
 ·
  rintro k hC
  obtain ⟨h1,h2⟩:=hC
  refine aC (fun K4 hK4=>(aB (aE aA 1 rfl (aD (hK4 _ (aC (fun K5 hK5=>(aL rfl (fun hc1=>?_) (fun hc1=>?_)))))))))
  ·
   simp only[bs] at hc1
   refine aN (hK5 _ (aC (fun K6 hK6=>(aP (aC (fun K7 hK7=>(aB (aE aA 1 rfl ?_))))))))
   refine aH rfl (bG rfl rfl fJ eG (by first | exact ixm (by omega) | assumption | exact⟨by decide,rfl⟩)) ?_
   refine aE aA 1 rfl (aW hf rfl rfl rfl oG (aE aA 1 rfl (bB hf rfl rfl eG rfl rfl (l1 rfl) (l4 rfl) rfl (bD (pH (nee 6) (sl':=[(0,_),(1,_),(5,_),(6,_),(7,_),(8,_),(9,_)]) (m':=[]) ⟨⟨_,rfl,rfl⟩,⟨_,rfl,rfl⟩,⟨_,rfl,rfl⟩,⟨_,rfl,rfl⟩,⟨_,rfl,rfl⟩,⟨_,rfl,rfl⟩,⟨_,rfl,rfl⟩,trivial⟩ rfl) (aD (hK7 _ (aC (fun K8 hK8=>(cP hf bE (by kernel_rfl) rfl (aV aA 2 rfl (bJ [(14,_),(15,_)] rfl rfl ⟨⟨rfl,rfl⟩,⟨rfl,rfl⟩,trivial⟩ rfl (aK rfl rfl uZ rfl (uU l[k])) (bJ [(16,_)] rfl rfl ⟨⟨rfl,rfl⟩,trivial⟩ rfl (aK rfl rfl kK rfl (Nm.right_den _ (ht _ (List.getElem_mem _)))) ?_))))))))))))
   refine aV aA 2 rfl (fC 19 false rfl (fun hg2=>?_) (fun hg2=>?_))
   ·
    simp only[bs] at hg2
    refine aV aA 3 rfl (fC 22 true rfl (fun hg3=>?_) (fun hg3=>?_))
    ·
     simp only[bs] at hg3
     refine aV aA 3 rfl ?_
     refine bQ [(25,_)] rfl rfl ⟨⟨rfl,rfl⟩,trivial⟩ rfl (eZ rfl rfl (by omega) (by omega)) ?_
     refine bQ [(24,_),(26,_)] rfl rfl ⟨⟨rfl,rfl⟩,⟨rfl,rfl⟩,trivial⟩ rfl (bG rfl rfl fJ eG (hY (k:=k - 1) (by omega) (by omega))) (aV aA 1 rfl (bJ [(23,_),(28,_)] rfl rfl ⟨⟨rfl,rfl⟩,⟨rfl,rfl⟩,trivial⟩ rfl (aK rfl rfl uZ rfl (uU l[k - 1])) (aV aA 2 rfl (bJ [(30,_),(31,_)] rfl rfl ⟨⟨rfl,rfl⟩,⟨rfl,rfl⟩,trivial⟩ rfl (aK rfl rfl uZ rfl (uU l[k])) (bJ [(29,_),(32,_)] rfl rfl ⟨⟨rfl,rfl⟩,⟨rfl,rfl⟩,trivial⟩ rfl (aK rfl rfl nK rfl (Nm.cmp_den _ _)) (aV aA 3 rfl ?_))))))
     refine cT [0,1,7,8,9,36] rfl rfl rfl (hK8 _ (aL rfl (fun hc4=>?_) (fun hc4=>?_)))
     ·
      simp only[bs] at hc4
      refine aC (fun K9 hK9=>(aB (aE aA 1 rfl (aD (hK9 _ (aJ ?_))))))
      refine⟨_,rfl,?_⟩
      refine aO ?_
      rw[fV h2 (by omega) (by omega) (show nxK cM l[k - 1] l[k]=false from by simp only[nxK,decide_eq_false_iff_not]; show ¬ eR (l[k - 1]).1 (l[k]).1<0; omega)]
     ·
      simp only[bs] at hc4
      refine aN (hK6 _ (aB ?_))
      refine aH rfl (bO rfl rfl (by omega) (by omega)) ?_
      refine aE aA 1 rfl (aD ?_)
      exact⟨k+1,⟨by omega,gF h2 (by omega) (show cF (cM l[k])=true from by simp_all) (fun h0=>by simp only[nxK,decide_eq_true_eq]; show eR (l[k - 1]).1 (l[k]).1<0; omega)⟩,by omega,cQ rfl⟩
    ·
     simp only[bs] at hg3
     refine aV aA 14 rfl (cT [0,1,7,8,9,36] rfl rfl rfl (hK8 _ (bW rfl (aN (hK6 _ (aB ?_))))))
     refine aH rfl (bO rfl rfl (by omega) (by omega)) ?_
     refine aE aA 1 rfl (aD ?_)
     exact⟨k+1,⟨by omega,gF h2 (by omega) (show cF (cM l[k])=true from by simp_all) (fun h0=>by simp only[nxK,decide_eq_true_eq]; show eR (l[k - 1]).1 (l[k]).1<0; omega)⟩,by omega,cQ rfl⟩
   ·
    simp only[bs] at hg2
    refine aV aA 3 rfl (aZ rfl rfl ?_)
    refine aZ rfl rfl ?_
    refine aZ rfl rfl ?_
    refine aZ rfl rfl ?_
    refine aZ rfl rfl ?_
    refine aZ rfl rfl ?_
    refine aZ rfl rfl ?_
    refine aZ rfl rfl ?_
    refine aZ rfl rfl ?_
    refine aZ rfl rfl ?_
    refine aZ rfl rfl ?_
    refine aZ rfl rfl ?_
    refine aV aA 2 rfl (cT [0,1,7,8,9,36] rfl rfl rfl (hK8 _ (bN rfl (aC (fun K10 hK10=>(aB (aE aA 1 rfl (aD (hK10 _ (aJ ?_))))))))))
    refine⟨_,rfl,?_⟩
    refine aO ?_
    rw[fM h2 (by omega) (show cF (cM l[k])=false from by simp_all)]
  ·
   simp only[bs] at hc1
   refine bF (hK2 _ (aC (fun K11 hK11=>(aB (aE aA 1 rfl (aD (hK11 _ (aJ ?_))))))))
   refine⟨_,rfl,?_⟩
   refine aO ?_
   rw[pP h2 (by omega)]
theorem aMi (l:List Tm) (hl:l.length≤9223372036854775807) (ht:∀ x∈l,TS x.1) :Den Tryz.prog 90 [.sl 2 (l.map tmC),.fn 91 []]  (·=.s (.bool (oK dV l))):=by
 refine aR Tryz.func90 rfl (Nat.le_of_ble_eq_true rfl) (fun w0 A hf=>(aC (fun K1 hK1=>(aB (aE aA 1 rfl (aD (hK1 _ (aC (fun K2 hK2=>(aC (fun K3 hK3=>(aB (aE aA 3 rfl (aD (hK3 _ (aP ?_))))))))))))))))
 refine bT (ι:=Nat) (fun k=>⟨38,[(0,.sl 2 (l.map tmC)),(1,.fn 91 []),(7,.sl 2 (l.map tmC)),(8,.s (.int .i64 (((l.map tmC)).length:Nat))),(9,.s (.int .i64 (k:Nat)))],[]⟩) (fun k=>k≤l.length∧oK dV l=nP (fun x=>cF (dV x)) (nxK dV) (iV l k) (l.drop k)) (fun k=>l.length - k) 0 ?_ ?_ ?_
 · exact⟨Nat.zero_le _,rfl⟩
 · exact cQ rfl
 ·
  rintro k hC
  obtain ⟨h1,h2⟩:=hC
  refine aC (fun K4 hK4=>(aB (aE aA 1 rfl (aD (hK4 _ (aC (fun K5 hK5=>(aL rfl (fun hc1=>?_) (fun hc1=>?_)))))))))
  ·
   simp only[bs] at hc1
   refine aN (hK5 _ (aC (fun K6 hK6=>(aP (aC (fun K7 hK7=>(aB (aE aA 1 rfl ?_))))))))
   refine aH rfl (bG rfl rfl kF gR (by first | exact ixm (by omega) | assumption | exact⟨by decide,rfl⟩)) ?_
   refine aE aA 1 rfl (aW hf rfl rfl rfl yC (aE aA 1 rfl (bB hf rfl rfl gR rfl rfl (l1 rfl) (l4 rfl) rfl (bD (pH (nee 6) (sl':=[(0,_),(1,_),(5,_),(6,_),(7,_),(8,_),(9,_)]) (m':=[]) ⟨⟨_,rfl,rfl⟩,⟨_,rfl,rfl⟩,⟨_,rfl,rfl⟩,⟨_,rfl,rfl⟩,⟨_,rfl,rfl⟩,⟨_,rfl,rfl⟩,⟨_,rfl,rfl⟩,trivial⟩ rfl) (aD (hK7 _ (aC (fun K8 hK8=>(cP hf bE (by kernel_rfl) rfl (aV aA 2 rfl (bJ [(14,_),(15,_)] rfl rfl ⟨⟨rfl,rfl⟩,⟨rfl,rfl⟩,trivial⟩ rfl (aK rfl rfl uY rfl (uB l[k])) ?_)))))))))))
   refine bJ [(16,_)] rfl rfl ⟨⟨rfl,rfl⟩,trivial⟩ rfl (aK rfl rfl kK rfl (Nm.right_den _ (ht _ (List.getElem_mem _)))) (aV aA 2 rfl (fC 19 false rfl (fun hg2=>?_) (fun hg2=>?_)))
   ·
    simp only[bs] at hg2
    refine aV aA 3 rfl (fC 22 true rfl (fun hg3=>?_) (fun hg3=>?_))
    ·
     simp only[bs] at hg3
     refine aV aA 3 rfl ?_
     refine bQ [(25,_)] rfl rfl ⟨⟨rfl,rfl⟩,trivial⟩ rfl (eZ rfl rfl (by omega) (by omega)) ?_
     refine bQ [(24,_),(26,_)] rfl rfl ⟨⟨rfl,rfl⟩,⟨rfl,rfl⟩,trivial⟩ rfl (bG rfl rfl kF gR (hY (k:=k - 1) (by omega) (by omega))) (aV aA 1 rfl (bJ [(23,_),(28,_)] rfl rfl ⟨⟨rfl,rfl⟩,⟨rfl,rfl⟩,trivial⟩ rfl (aK rfl rfl uY rfl (uB l[k - 1])) (aV aA 2 rfl (bJ [(30,_),(31,_)] rfl rfl ⟨⟨rfl,rfl⟩,⟨rfl,rfl⟩,trivial⟩ rfl (aK rfl rfl uY rfl (uB l[k])) (bJ [(29,_),(32,_)] rfl rfl ⟨⟨rfl,rfl⟩,⟨rfl,rfl⟩,trivial⟩ rfl (aK rfl rfl nK rfl (Nm.cmp_den _ _)) (aV aA 3 rfl ?_))))))
     refine cT [0,1,7,8,9,36] rfl rfl rfl (hK8 _ (aL rfl (fun hc4=>?_) (fun hc4=>?_)))
     ·
      simp only[bs] at hc4
      refine aC (fun K9 hK9=>(aB (aE aA 1 rfl (aD (hK9 _ (aJ ?_))))))
      refine⟨_,rfl,?_⟩
      refine aO ?_
      rw[fV h2 (by omega) (by omega) (show nxK dV l[k - 1] l[k]=false from by simp only[nxK,decide_eq_false_iff_not]; show ¬ eR (l[k - 1]).1 (l[k]).1<0; omega)]
     ·
      simp only[bs] at hc4
      refine aN (hK6 _ (aB ?_))
      refine aH rfl (bO rfl rfl (by omega) (by omega)) ?_
      refine aE aA 1 rfl (aD ?_)
      exact⟨k+1,⟨by omega,gF h2 (by omega) (show cF (dV l[k])=true from by simp_all) (fun h0=>by simp only[nxK,decide_eq_true_eq]; show eR (l[k - 1]).1 (l[k]).1<0; omega)⟩,by omega,cQ rfl⟩
    ·
     simp only[bs] at hg3
     refine aV aA 14 rfl (cT [0,1,7,8,9,36] rfl rfl rfl (hK8 _ (bW rfl (aN (hK6 _ (aB ?_))))))
     refine aH rfl (bO rfl rfl (by omega) (by omega)) ?_
     refine aE aA 1 rfl (aD ?_)
     exact⟨k+1,⟨by omega,gF h2 (by omega) (show cF (dV l[k])=true from by simp_all) (fun h0=>by simp only[nxK,decide_eq_true_eq]; show eR (l[k - 1]).1 (l[k]).1<0; omega)⟩,by omega,cQ rfl⟩
   ·
    simp only[bs] at hg2
    refine aV aA 3 rfl (aZ rfl rfl ?_)
    refine aZ rfl rfl ?_
    refine aZ rfl rfl ?_
    refine aZ rfl rfl ?_
    refine aZ rfl rfl ?_
    refine aZ rfl rfl ?_
    refine aZ rfl rfl ?_
    refine aZ rfl rfl ?_
    refine aZ rfl rfl ?_
    refine aZ rfl rfl ?_
    refine aZ rfl rfl ?_
    refine aZ rfl rfl ?_
    refine aV aA 2 rfl (cT [0,1,7,8,9,36] rfl rfl rfl (hK8 _ (bN rfl (aC (fun K10 hK10=>(aB (aE aA 1 rfl (aD (hK10 _ (aJ ?_))))))))))
    refine⟨_,rfl,?_⟩
    refine aO ?_
    rw[fM h2 (by omega) (show cF (dV l[k])=false from by simp_all)]
  ·
   simp only[bs] at hc1
   refine bF (hK2 _ (aC (fun K11 hK11=>(aB (aE aA 1 rfl (aD (hK11 _ (aJ ?_))))))))
   refine⟨_,rfl,?_⟩
   refine aO ?_
   rw[pP h2 (by omega)]
theorem aMx (s:Sta) (h1:s.opn.length≤9223372036854775807) (h2:s.usr.length≤9223372036854775807) (h3:s.sub.length≤9223372036854775807) (h4:s.tmb.length≤9223372036854775807) (h5:∀ x∈s.usr,x.2.length≤9223372036854775807) (t1:∀ e∈s.opn,TS e.1.2) (t2:∀ x∈s.usr,TS x.1) (t3:∀ e∈s.sub,TS e.1.1∧TS e.1.2) (t4:∀ x∈s.tmb,TS x.1) :Den Tryz.prog 35 [.agg (aT s)]  (·=.s (.bool (gY s))):=by
 refine aR Tryz.func35 rfl (Nat.le_of_ble_eq_true rfl) (fun w0 A hf=>(aC (fun K1 hK1=>(aB (aI hf rfl (cE rfl rfl (lf rfl)) (aE aA 1 rfl (aD (hK1 _ (aC (fun K2 hK2=>(aB (aH rfl (eY rfl) (aE aA 1 rfl (aD (hK2 _ ?_)))))))))))))))
 refine aC (fun K3 hK3=>(aB (aH rfl (eY rfl) (bY hf rfl aV8 rfl aWg rfl rfl rfl rfl (lf rfl) (aD (hK3 _ (aC (fun K4 hK4=>(aB (aH rfl (eY rfl) (aE aA 1 rfl (aD (hK4 _ (aC (fun K5 hK5=>?_)))))))))))))))
 refine aB (aH rfl (eY rfl) (aE aA 1 rfl (aD (hK5 _ (aC (fun K6 hK6=>(aB (aH rfl (eY rfl) (aE aA 1 rfl (aD (hK6 _ (aC (fun K7 hK7=>(aC (fun K8 hK8=>?_)))))))))))))))
 refine aB (aE aA 2 rfl (aI hf rfl (aK rfl rfl pB rfl (lT _ _ _)) (aE aA 2 rfl (aU rfl rfl rfl (fun hg1=>?_) (fun hg1=>?_)))))
 ·
  simp only[bs] at hg1
  refine aH rfl (bM rfl aO9 cA rfl) ?_
  refine aE aA 1 rfl (aX rfl rfl rfl (aI hf rfl (aK rfl rfl pB rfl (lT _ _ _)) (aE aA 3 rfl (aU rfl rfl rfl (fun hg2=>?_) (fun hg2=>?_)))))
  ·
   simp only[bs] at hg2
   refine aH rfl (bM rfl xB mS rfl) ?_
   refine aE aA 1 rfl (aX rfl rfl rfl (aI hf rfl (aK rfl rfl aSl rfl (aKj s.opn (by omega) t1)) (aE aA 3 rfl (aU rfl rfl rfl (fun hg3=>?_) (fun hg3=>?_)))))
   ·
    simp only[bs] at hg3
    refine aH rfl (bM rfl xB mS rfl) ?_
    refine aE aA 2 rfl (aX rfl rfl rfl (aI hf rfl (aK rfl rfl aHe rfl (yL aSt rfl (fun e=>decide (s.now<e.2.2)) s.opn h1 (fun e _=>aH3 e s))) (aE aA 1 rfl (aD (hK8 _ (aL rfl (fun hc4=>?_) (fun hc4=>?_)))))))
    ·
     refine aC (fun K9 hK9=>(aB (aE aA 1 rfl (aD (hK9 _ (aJ ?_))))))
     refine⟨_,rfl,?_⟩
     refine aO ?_
     unfold gY
     try simp only[mN,pL] at *
     generalize gX s.opn=b0 at *
     generalize s.opn.all (fun e=>decide (e.2.2≤s.now))=b1 at *
     generalize oK cM s.usr=b2 at *
     generalize s.usr.all (mG s)=b3 at *
     generalize rY s.sub=b4 at *
     generalize s.sub.all (kT s)=b5 at *
     generalize oK dV s.tmb=b6 at *
     generalize s.tmb.all (rJ s)=b7 at *
     rw[Bool.eq_iff_iff]
     (simp_all; done)
    ·
     refine aN (hK7 _ (aC (fun K10 hK10=>(aC (fun K11 hK11=>(aB (aE aA 2 rfl (aI hf rfl (aK rfl rfl aSk rfl (aL9 s.usr h2 t2)) (aE aA 2 rfl (aU rfl rfl rfl (fun hg5=>?_) (fun hg5=>?_)))))))))))
     ·
      simp only[bs] at hg5
      refine aH rfl (bM rfl aDk mR rfl) ?_
      refine aE aA 2 rfl (aX rfl rfl rfl (aI hf rfl (aK rfl rfl aSj rfl (aHw aSq rfl (fun x=>!mG s x) s.usr h2 (fun x hx=>aH1 x s h1 (h5 x hx)))) (aE aA 2 rfl (aU rfl rfl rfl (fun hg6=>?_) (fun hg6=>?_)))))
      ·
       refine aH rfl (bM rfl xA mQ rfl) ?_
       refine aE aA 1 rfl (aX rfl rfl rfl (aI hf rfl (aK rfl rfl aSi rfl (aQ5 s.sub h3 t3)) (aE aA 3 rfl (aU rfl rfl rfl (fun hg7=>?_) (fun hg7=>?_)))))
       ·
        simp only[bs] at hg7
        refine aH rfl (bM rfl xA mQ rfl) ?_
        refine aE aA 2 rfl (aX rfl rfl rfl (aI hf rfl (aK rfl rfl aSh rfl (aIo aSn rfl (fun e=>!kT s e) s.sub h3 (fun e _=>aKk e s))) (aE aA 1 rfl (aD (hK11 _ (aL rfl (fun hc8=>?_) (fun hc8=>?_)))))))
        ·
         refine aC (fun K12 hK12=>(aB (aE aA 1 rfl (aD (hK12 _ (aJ ?_))))))
         refine⟨_,rfl,?_⟩
         refine aO ?_
         unfold gY
         try simp only[mN,pL] at *
         generalize gX s.opn=b0 at *
         generalize s.opn.all (fun e=>decide (e.2.2≤s.now))=b1 at *
         generalize oK cM s.usr=b2 at *
         generalize s.usr.all (mG s)=b3 at *
         generalize rY s.sub=b4 at *
         generalize s.sub.all (kT s)=b5 at *
         generalize oK dV s.tmb=b6 at *
         generalize s.tmb.all (rJ s)=b7 at *
         rw[Bool.eq_iff_iff]
         (simp_all; done)
        ·
         refine aN (hK10 _ (aC (fun K13 hK13=>(aB (aE aA 2 rfl (aI hf rfl (aK rfl rfl aSg rfl (aMi s.tmb h4 t4)) (aE aA 1 rfl (aU rfl rfl rfl (fun hg9=>?_) (fun hg9=>?_)))))))))
         ·
          refine aH rfl (bM rfl aDj tW rfl) ?_
          refine aE aA 2 rfl (aX rfl rfl rfl (aI hf rfl (aK rfl rfl aSf rfl (aHx aSm rfl (fun x=>!rJ s x) s.tmb h4 (fun x _=>aH2 x s))) (aE aA 3 rfl (aD (hK13 _ (aJ ?_))))))
          refine⟨_,rfl,?_⟩
          refine aO ?_
          unfold gY
          try simp only[mN,pL] at *
          generalize gX s.opn=b0 at *
          generalize s.opn.all (fun e=>decide (e.2.2≤s.now))=b1 at *
          generalize oK cM s.usr=b2 at *
          generalize s.usr.all (mG s)=b3 at *
          generalize rY s.sub=b4 at *
          generalize s.sub.all (kT s)=b5 at *
          generalize oK dV s.tmb=b6 at *
          generalize s.tmb.all (rJ s)=b7 at *
          rw[Bool.eq_iff_iff]
          (cases b7 <;> simp_all <;> omega)
         ·
          simp only[bs] at hg9
          refine aE aA 6 rfl (aD (hK13 _ (aJ ?_)))
          refine⟨_,rfl,?_⟩
          refine aO ?_
          unfold gY
          try simp only[mN,pL] at *
          generalize gX s.opn=b0 at *
          generalize s.opn.all (fun e=>decide (e.2.2≤s.now))=b1 at *
          generalize oK cM s.usr=b2 at *
          generalize s.usr.all (mG s)=b3 at *
          generalize rY s.sub=b4 at *
          generalize s.sub.all (kT s)=b5 at *
          generalize oK dV s.tmb=b6 at *
          generalize s.tmb.all (rJ s)=b7 at *
          rw[Bool.eq_iff_iff]
          (simp_all; done)
       ·
        simp only[bs] at hg7
        refine aE aA 4 rfl (aD (hK11 _ (bN rfl (aC (fun K14 hK14=>(aB (aE aA 1 rfl (aD (hK14 _ (aJ ?_))))))))))
        refine⟨_,rfl,?_⟩
        refine aO ?_
        unfold gY
        try simp only[mN,pL] at *
        generalize gX s.opn=b0 at *
        generalize s.opn.all (fun e=>decide (e.2.2≤s.now))=b1 at *
        generalize oK cM s.usr=b2 at *
        generalize s.usr.all (mG s)=b3 at *
        generalize rY s.sub=b4 at *
        generalize s.sub.all (kT s)=b5 at *
        generalize oK dV s.tmb=b6 at *
        generalize s.tmb.all (rJ s)=b7 at *
        rw[Bool.eq_iff_iff]
        (simp_all; done)
      ·
       simp only[bs] at hg6
       refine aE aA 10 rfl (aD (hK11 _ (bN rfl (aC (fun K15 hK15=>(aB (aE aA 1 rfl (aD (hK15 _ (aJ ?_))))))))))
       refine⟨_,rfl,?_⟩
       refine aO ?_
       unfold gY
       try simp only[mN,pL] at *
       generalize gX s.opn=b0 at *
       generalize s.opn.all (fun e=>decide (e.2.2≤s.now))=b1 at *
       generalize oK cM s.usr=b2 at *
       generalize s.usr.all (mG s)=b3 at *
       generalize rY s.sub=b4 at *
       generalize s.sub.all (kT s)=b5 at *
       generalize oK dV s.tmb=b6 at *
       generalize s.tmb.all (rJ s)=b7 at *
       rw[Bool.eq_iff_iff]
       (simp_all; done)
     ·
      simp only[bs] at hg5
      refine aE aA 16 rfl (aD (hK11 _ (bN rfl (aC (fun K16 hK16=>(aB (aE aA 1 rfl (aD (hK16 _ (aJ ?_))))))))))
      refine⟨_,rfl,?_⟩
      refine aO ?_
      unfold gY
      try simp only[mN,pL] at *
      generalize gX s.opn=b0 at *
      generalize s.opn.all (fun e=>decide (e.2.2≤s.now))=b1 at *
      generalize oK cM s.usr=b2 at *
      generalize s.usr.all (mG s)=b3 at *
      generalize rY s.sub=b4 at *
      generalize s.sub.all (kT s)=b5 at *
      generalize oK dV s.tmb=b6 at *
      generalize s.tmb.all (rJ s)=b7 at *
      rw[Bool.eq_iff_iff]
      (simp_all; done)
   ·
    simp only[bs] at hg3
    refine aE aA 4 rfl (aD (hK8 _ (bN rfl (aC (fun K17 hK17=>(aB (aE aA 1 rfl (aD (hK17 _ (aJ ?_))))))))))
    refine⟨_,rfl,?_⟩
    refine aO ?_
    unfold gY
    try simp only[mN,pL] at *
    generalize gX s.opn=b0 at *
    generalize s.opn.all (fun e=>decide (e.2.2≤s.now))=b1 at *
    generalize oK cM s.usr=b2 at *
    generalize s.usr.all (mG s)=b3 at *
    generalize rY s.sub=b4 at *
    generalize s.sub.all (kT s)=b5 at *
    generalize oK dV s.tmb=b6 at *
    generalize s.tmb.all (rJ s)=b7 at *
    rw[Bool.eq_iff_iff]
    (simp_all; done)
  ·
   simp only[bs] at hg2
   refine aE aA 10 rfl (aD (hK8 _ (bN rfl (aC (fun K18 hK18=>(aB (aE aA 1 rfl (aD (hK18 _ (aJ ?_))))))))))
   refine⟨_,rfl,?_⟩
   refine aO ?_
   unfold gY
   try simp only[mN,pL] at *
   generalize gX s.opn=b0 at *
   generalize s.opn.all (fun e=>decide (e.2.2≤s.now))=b1 at *
   generalize oK cM s.usr=b2 at *
   generalize s.usr.all (mG s)=b3 at *
   generalize rY s.sub=b4 at *
   generalize s.sub.all (kT s)=b5 at *
   generalize oK dV s.tmb=b6 at *
   generalize s.tmb.all (rJ s)=b7 at *
   rw[Bool.eq_iff_iff]
   (simp_all; omega)
 ·
  simp only[bs] at hg1
  refine aE aA 16 rfl (aD (hK8 _ (bN rfl (aC (fun K19 hK19=>(aB (aE aA 1 rfl (aD (hK19 _ (aJ ?_))))))))))
  refine⟨_,rfl,?_⟩
  refine aO ?_
  unfold gY
  try simp only[mN,pL] at *
  generalize gX s.opn=b0 at *
  generalize s.opn.all (fun e=>decide (e.2.2≤s.now))=b1 at *
  generalize oK cM s.usr=b2 at *
  generalize s.usr.all (mG s)=b3 at *
  generalize rY s.sub=b4 at *
  generalize s.sub.all (kT s)=b5 at *
  generalize oK dV s.tmb=b6 at *
  generalize s.tmb.all (rJ s)=b7 at *
  rw[Bool.eq_iff_iff]
  (simp_all; omega)
end Go.Proofs.YtpkanhklapfajaaGreat
set_option linter.unusedVariables false
set_option linter.unusedSimpArgs false
namespace Go.Proofs.YtpkanhklapfajaaGreat
open Go Go.Abs
end Go.Proofs.YtpkanhklapfajaaGreat
set_option linter.unusedVariables false
set_option linter.unusedSimpArgs false
namespace Go.Proofs.YtpkanhklapfajaaGreat
open Go Go.Abs
end Go.Proofs.YtpkanhklapfajaaGreat
set_option linter.unusedVariables false
set_option linter.unusedSimpArgs false
namespace Go.Proofs.YtpkanhklapfajaaGreat
open Go Go.Abs
end Go.Proofs.YtpkanhklapfajaaGreat
set_option linter.unusedVariables false
set_option linter.unusedSimpArgs false
namespace Go.Proofs.YtpkanhklapfajaaGreat
open Go Go.Abs
end Go.Proofs.YtpkanhklapfajaaGreat
set_option linter.unusedVariables false
set_option linter.unusedSimpArgs false
namespace Go.Proofs.YtpkanhklapfajaaGreat
open Go Go.Abs
end Go.Proofs.YtpkanhklapfajaaGreat
set_option linter.unusedVariables false
set_option linter.unusedSimpArgs false
namespace Go.Proofs.YtpkanhklapfajaaGreat
open Go Go.Abs
end Go.Proofs.YtpkanhklapfajaaGreat
set_option linter.unusedVariables false
set_option linter.unusedSimpArgs false
namespace Go.Proofs.YtpkanhklapfajaaGreat
open Go Go.Abs
theorem aFs (s:Sta) (x:Us) (hx:x.2.length≤9223372036854775807) (ho:s.opn.length≤9223372036854775807) :Den Tryz.prog 39 [.sl 4 (x.2.map stC),.s (.int .i64 s.now),.sl 4 (s.opn.map seC)]  (·=.s (.bool (mG s x))):=by
 refine aR Tryz.func39 rfl (Nat.le_of_ble_eq_true rfl) (fun w0 A hf=>(aC (fun K1 hK1=>(aB (aE aA 1 rfl (aD (hK1 _ (aC (fun K2 hK2=>(aC (fun K3 hK3=>(aB (aE aA 1 rfl (aD (hK3 _ (aP ?_))))))))))))))))
 refine bT (ι:=Nat) (fun k=>⟨80,[(0,.sl 4 (x.2.map stC)),(1,.s (.int .i64 s.now)),(2,.sl 4 (s.opn.map seC)),(7,.s (.int .i64 (k:Nat)))],[]⟩) (fun k=>k≤x.2.length∧∀ (j:Nat) (hj:j<x.2.length),j<k→eO s x.2[j]=true) (fun k=>x.2.length - k) 0 ?_ ?_ ?_
 · exact⟨Nat.zero_le _,by omega⟩
 · exact cQ rfl
 ·
  rintro k hC
  obtain ⟨h1,h2⟩:=hC
  refine aC (fun K4 hK4=>(aC (fun K5 hK5=>(aB (aE aA 4 rfl (aD (hK5 _ (dY rfl rfl (fun hc1=>?_) (fun hc1=>?_)))))))))
  ·
   simp only[bs] at hc1
   refine aN (hK4 _ (aC (fun K6 hK6=>(aP (aC (fun K7 hK7=>(aB ?_)))))))
   have hk:k<x.2.length:=by omega
   refine aE aA 2 rfl ?_
   refine aH rfl (bG rfl rfl tT qD (by first | exact ixm (by omega) | assumption | exact⟨by decide,rfl⟩)) ?_
   refine aE aA 1 rfl (bY hf rfl aOz rfl qD rfl rfl rfl rfl (lf rfl) (aD (hK7 _ (aC (fun K8 hK8=>(aC (fun K9 hK9=>(aB (aE aA 1 rfl (aD (hK9 _ (aP (bT (ι:=Nat) (fun i=>⟨80,[(0,.sl 4 (x.2.map stC)),(1,.s (.int .i64 s.now)),(2,.sl 4 (s.opn.map seC)),(7,.s (.int .i64 (k:Nat))),(8,.adr (stC x.2[k])),(9,.s (.int .i64 (i:Nat)))],[]⟩) (fun i=>i≤s.opn.length∧∀ (j:Nat) (hj:j<s.opn.length),j<i→¬ (s.opn[j].1.1=x.2[k].2.1∧s.opn[j].2.2<x.2[k].1.2)) (fun i=>s.opn.length - i) 0 ?_ ?_ ?_)))))))))))))
   · exact⟨Nat.zero_le _,by omega⟩
   · exact cQ rfl
   ·
    rintro i hC
    obtain ⟨h3,h4⟩:=hC
    refine aC (fun K10 hK10=>(aC (fun K11 hK11=>(aB (aE aA 4 rfl (aD (hK11 _ (dY rfl rfl (fun hc2=>?_) (fun hc2=>?_)))))))))
    ·
     simp only[bs] at hc2
     refine aN (hK10 _ (aC (fun K12 hK12=>(aP (aC (fun K13 hK13=>(cP hf bE (by kernel_rfl) rfl ?_)))))))
     have hi:i<s.opn.length:=by omega
     refine aV aA 2 rfl ?_
     refine bQ [(26,_),(27,_)] rfl rfl ⟨⟨rfl,rfl⟩,⟨rfl,rfl⟩,trivial⟩ rfl (bG rfl rfl tU qC (by first | exact ixm (by omega) | assumption | exact⟨by decide,rfl⟩)) ?_
     refine aV aA 6 rfl (fC 34 true rfl (fun hg3=>?_) (fun hg3=>?_))
     ·
      simp only[bs] at hg3
      refine aV aA 4 rfl ?_
      refine bQ [(37,_),(38,_)] rfl rfl ⟨⟨rfl,rfl⟩,⟨rfl,rfl⟩,trivial⟩ rfl (bG rfl rfl tU qC (by first | exact ixm (by omega) | assumption | exact⟨by decide,rfl⟩)) ?_
      refine aV aA 4 rfl (cT [0,1,2,7,8,9,43] rfl rfl rfl (hK13 _ (dY rfl rfl (fun hc4=>?_) (fun hc4=>?_))))
      ·
       simp only[bs] at hc4
       refine aC (fun K14 hK14=>(aB (aE aA 1 rfl (aD (hK14 _ (aJ ?_))))))
       refine⟨_,rfl,?_⟩
       refine aO ?_
       exact rI hk (aXb hi (by first | assumption | omega) (by first | assumption | omega))
      ·
       simp only[bs] at hc4
       refine aN (hK12 _ (aB (aE aA 1 rfl ?_)))
       refine aH rfl (bO rfl rfl (by omega) (by omega)) ?_
       refine aE aA 1 rfl (aD ?_)
       exact⟨i+1,⟨by omega,oO h4 (by omega) (by omega)⟩,by omega,cQ rfl⟩
     ·
      simp only[bs] at hg3
      refine aV aA 9 rfl (cT [0,1,2,7,8,9,43] rfl rfl rfl (hK13 _ (bW rfl (aN (hK12 _ (aB (aE aA 1 rfl ?_)))))))
      refine aH rfl (bO rfl rfl (by omega) (by omega)) ?_
      refine aE aA 1 rfl (aD ?_)
      exact⟨i+1,⟨by omega,oO h4 (by omega) (by omega)⟩,by omega,cQ rfl⟩
    ·
     simp only[bs] at hc2
     refine bF (hK8 _ (aC (fun K15 hK15=>(aB (aE aA 4 rfl (aU rfl rfl rfl (fun hg6=>?_) (fun hg6=>?_)))))))
     ·
      simp only[bs] at hg6
      refine aH rfl (bM rfl aO4 cA rfl) ?_
      refine aE aA 5 rfl (aU rfl rfl rfl (fun hg7=>?_) (fun hg7=>?_))
      ·
       simp only[bs] at hg7
       refine aH rfl (bM rfl aDi cA rfl) ?_
       refine aE aA 4 rfl (aU rfl rfl rfl (fun hg8=>?_) (fun hg8=>?_))
       ·
        simp only[bs] at hg8
        refine aH rfl (bM rfl aDi cA rfl) ?_
        refine aE aA 4 rfl (aU rfl rfl rfl (fun hg9=>?_) (fun hg9=>?_))
        ·
         simp only[bs] at hg9
         refine aH rfl (bM rfl aDh cA rfl) ?_
         refine aE aA 4 rfl (aU rfl rfl rfl (fun hg10=>?_) (fun hg10=>?_))
         ·
          simp only[bs] at hg10
          refine aH rfl (bM rfl aDh cA rfl) ?_
          refine aE aA 3 rfl (aD (hK15 _ (dY rfl rfl (fun hc11=>?_) (fun hc11=>?_))))
          ·
           simp only[bs] at hc11
           refine aC (fun K16 hK16=>(aB (aE aA 1 rfl (aD (hK16 _ (aJ ?_))))))
           refine⟨_,rfl,?_⟩
           refine aO ?_
           exact rI hk (tN (by omega))
          ·
           simp only[bs] at hc11
           refine aN (hK6 _ (aB (aE aA 1 rfl ?_)))
           refine aH rfl (bO rfl rfl (by omega) (by omega)) ?_
           refine aE aA 1 rfl (aD ?_)
           exact⟨k+1,⟨by omega,oO h2 (by omega) (aUz (by omega) h4 (by refine⟨?_,?_,?_,?_,?_,?_⟩ <;> omega))⟩,by omega,cQ rfl⟩
         ·
          simp only[bs] at hg10
          refine aE aA 3 rfl (aD (hK15 _ (bN rfl (aC (fun K17 hK17=>(aB (aE aA 1 rfl (aD (hK17 _ (aJ ?_))))))))))
          refine⟨_,rfl,?_⟩
          refine aO ?_
          exact rI hk (tN (by omega))
        ·
         simp only[bs] at hg9
         refine aE aA 8 rfl (aD (hK15 _ (bN rfl (aC (fun K18 hK18=>(aB (aE aA 1 rfl (aD (hK18 _ (aJ ?_))))))))))
         refine⟨_,rfl,?_⟩
         refine aO ?_
         exact rI hk (tN (by omega))
       ·
        simp only[bs] at hg8
        refine aE aA 13 rfl (aD (hK15 _ (bN rfl (aC (fun K19 hK19=>(aB (aE aA 1 rfl (aD (hK19 _ (aJ ?_))))))))))
        refine⟨_,rfl,?_⟩
        refine aO ?_
        exact rI hk (tN (by omega))
      ·
       simp only[bs] at hg7
       refine aE aA 18 rfl (aD (hK15 _ (bN rfl (aC (fun K20 hK20=>(aB (aE aA 1 rfl (aD (hK20 _ (aJ ?_))))))))))
       refine⟨_,rfl,?_⟩
       refine aO ?_
       exact rI hk (tN (by omega))
     ·
      simp only[bs] at hg6
      refine aE aA 24 rfl (aD (hK15 _ (bN rfl (aC (fun K21 hK21=>(aB (aE aA 1 rfl (aD (hK21 _ (aJ ?_))))))))))
      refine⟨_,rfl,?_⟩
      refine aO ?_
      exact rI hk (tN (by omega))
  ·
   simp only[bs] at hc1
   refine bF (hK2 _ (aC (fun K22 hK22=>(aB (aE aA 4 rfl (aU rfl rfl rfl (fun hg17=>?_) (fun hg17=>?_)))))))
   ·
    simp only[bs] at hg17
    refine aH rfl (fZ rfl) (aX rfl rfl rfl (aI hf rfl (aK rfl rfl aSd rfl (aFt x.2 hx)) (aE aA 2 rfl (aD (hK22 _ (aJ ?_))))))
    refine⟨_,rfl,?_⟩
    refine aO ?_
    exact aNg (by omega) h2 (by simp_all)
   ·
    simp only[bs] at hg17
    refine aE aA 3 rfl (aD (hK22 _ (aJ ?_)))
    refine⟨_,rfl,?_⟩
    refine aO ?_
    exact aNg (by omega) h2 (by simp_all)
end Go.Proofs.YtpkanhklapfajaaGreat
